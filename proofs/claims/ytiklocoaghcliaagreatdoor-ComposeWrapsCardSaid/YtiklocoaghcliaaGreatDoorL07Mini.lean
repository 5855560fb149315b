/- Small codes. -/
import Derived.Test.YtiklocoaghcliaaGreatDoorFd
import Derived.Test.YtiklocoaghcliaaGreatDoorProg
set_option linter.all false
namespace Go.Fw.L07
open Go Go.Fw
open Go.Proofs.Tryz renaming prog -> QP
open Go.Proofs.Tryz (f100 f106 f107 f108 f109 f11 f110 f111 f114 f115 f116 f119 f12 f120 f121 f122 f128 f129 f13 f130 f131 f132 f133 f134 f135 f136 f137 f14 f140 f142 f143 f146 f147 f148 f149 f15 f17 f18 f19 f23 f29 f30 f32 f33 f34 f35 f36 f37 f38 f39 f40 f41 f42 f49 f5 f50 f57 f58 f61 f62 f63 f64 f66 f67 f68 f71 f74 f75 f79 f80 f87 f89 f9 f90 f91 f92 f97 f98 f99 func100 func106 func107 func108 func109 func11 func110 func111 func114 func115 func116 func119 func12 func120 func121 func122 func128 func129 func13 func130 func131 func132 func133 func134 func135 func136 func137 func14 func140 func142 func143 func146 func147 func148 func149 func15 func17 func18 func19 func23 func29 func30 func32 func33 func34 func35 func36 func37 func38 func39 func40 func41 func42 func49 func5 func50 func57 func58 func61 func62 func63 func64 func66 func67 func68 func71 func74 func75 func79 func80 func87 func89 func9 func90 func91 func92 func97 func98 func99)
open Go.Fw.MO renaming op -> Qa,chk -> Qb,opx -> Qc
open Go.Fw.MOp renaming mv -> Qd,bin -> Qe,load -> Qf,fad -> Qg,call -> Qh,ext -> Qi,iad -> Qj,len -> Qk,store -> Ql,pick -> Qm
open Go.Fw.Opd renaming t -> Qn,c -> Qo
open Go.Fw.V renaming one -> Qp
open Go.Fw.A renaming d -> Qq
open Go.Fw.D renaming int -> Qr,bool -> Qs
open Go.Fw.Leaf renaming i -> Qt
open Go.IntKind renaming i64 -> Qu
open Option renaming some -> Qv
variable {gp : Heap} {args : List V} {res : V} {pre : List Ch} {R : V -> List Ch -> Prop}
def f5_r0:List MO:=[Qa (Qv 1) (MOp.box (Qn 0)),Qa (Qv 2) (Qd (Qo (Qp (Qq (Qs false)))))]
def f5_c0:MC:=.r0 f5_r0
def f5_r1:List MO:=[Qa (Qv 11) (Qh 9 []),Qa (Qv 3) (Qd (Qn 11))]
def f5_c1:MC:=.r0 f5_r1
def f5_r2:List MO:=[Qa (Qv 12) (Qf 7 true (Qn 1)),Qa (Qv 13) (Qh 15 [(Qn 12)]),Qa none (Ql 7 (Qn 1) (Qn 13))]
def f5_c2:MC:=.r0 f5_r2
def f5_r3:List MO:=[Qa (Qv 15) (Qf 7 true (Qn 1)),Qa (Qv 16) (Qh 12 [(Qn 15)]),Qa (Qv 14) (Qd (Qn 16)),Qa (Qv 17) (Qi (Qn 14) 0),Qa (Qv 18) (Qi (Qn 14) 1),Qa (Qv 4) (MOp.alloc [(Qr Qu 0),(D.sl [])]),Qa none (Ql 2 (Qn 4) (Qn 17)),Qa (Qv 5) (Qd (Qn 18))]
def f5_c3:MC:=.r0 f5_r3
def f5_r4:List MO:=[Qa (Qv 20) (Qf 7 true (Qn 1)),Qa (Qv 21) (MOp.bslice 7 [(Qr Qu 0),(D.str (ByteArray.mk #[])),(Qr Qu 0),(Qr Qu 0),(D.str (ByteArray.mk #[])),(D.sl []),(D.sl [])] 1 [(0,(Qn 20))]),Qa (Qv 22) (MOp.build [(Qr Qu 0),(D.str (ByteArray.mk #[])),(Qr Qu 0),(Qr Qu 0),(D.str (ByteArray.mk #[])),(D.sl []),(D.sl [])] [(0,(1,(Qo (Qp (Qq (Qr Qu 1)))))),(6,(1,(Qn 21)))]),Qa (Qv 23) (Qh 12 [(Qn 22)]),Qa (Qv 19) (Qd (Qn 23)),Qa (Qv 24) (Qi (Qn 19) 0),Qa (Qv 25) (Qi (Qn 19) 1),Qa (Qv 6) (MOp.alloc [(Qr Qu 0),(D.sl [])]),Qa none (Ql 2 (Qn 6) (Qn 24)),Qa (Qv 7) (Qd (Qn 25))]
def f5_c4:MC:=.r0 f5_r4
def f5_r5:List MO:=[Qa (Qv 26) (Qd (Qn 5)),Qa (Qv 27) (Qe Qt Go.BinOp.neq (Qn 26) (Qo (Qp (Qq (Qr Qu 0)))))]
def f5_c5:MC:=.r0 f5_r5
def f5_r6:List MO:=[Qa (Qv 28) (Qd (Qn 3)),Qa (Qv 29) (Qd (Qn 28)),Qb 29 true (Qv 30),Qa (Qv 30) (Qd (Qn 7)),Qb 29 true (Qv 31),Qa (Qv 31) (Qe Qt Go.BinOp.neq (Qn 30) (Qo (Qp (Qq (Qr Qu 0))))),Qa (Qv 32) (Qm (Qn 29) (Qn 31) (Qo (Qp (Qq (Qs false))))),Qa (Qv 2) (Qd (Qn 32))]
def f5_c6:MC:=.r0 f5_r6
def f5_r12:List MO:=[Qa (Qv 33) (Qd (Qn 7)),Qa (Qv 34) (Qe Qt Go.BinOp.neq (Qn 33) (Qo (Qp (Qq (Qr Qu 0)))))]
def f5_c12:MC:=.r0 f5_r12
def f5_r13:List MO:=[Qa (Qv 35) (Qd (Qn 3)),Qa (Qv 36) (Qd (Qn 35)),Qb 36 true (Qv 37),Qa (Qv 37) (Qd (Qn 7)),Qb 36 true (Qv 38),Qa (Qv 38) (Qe Qt Go.BinOp.eql (Qn 37) (Qo (Qp (Qq (Qr Qu 71))))),Qa (Qv 39) (Qm (Qn 36) (Qn 38) (Qo (Qp (Qq (Qs false))))),Qa (Qv 40) (Qd (Qn 39)),Qb 40 true (Qv 41),Qa (Qv 41) (Qg 1 (Qn 4)),Qb 40 true (Qv 42),Qa (Qv 42) (Qf 1 false (Qn 41)),Qb 40 true (Qv 43),Qa (Qv 43) (Qk Qt (Qn 42)),Qb 40 true (Qv 44),Qa (Qv 44) (Qe Qt Go.BinOp.eql (Qn 43) (Qo (Qp (Qq (Qr Qu 200))))),Qa (Qv 45) (Qm (Qn 40) (Qn 44) (Qo (Qp (Qq (Qs false))))),Qa (Qv 2) (Qd (Qn 45))]
def f5_c13:MC:=.r0 f5_r13
def f5_r19:List MO:=[Qa (Qv 46) (Qg 1 (Qn 6)),Qa (Qv 47) (Qf 1 false (Qn 46)),Qa (Qv 48) (Qk Qt (Qn 47)),Qa (Qv 49) (Qg 1 (Qn 4)),Qa (Qv 50) (Qf 1 false (Qn 49)),Qa (Qv 51) (Qk Qt (Qn 50)),Qa (Qv 52) (Qe Qt Go.BinOp.add (Qn 51) (Qo (Qp (Qq (Qr Qu 1))))),Qa (Qv 53) (Qe Qt Go.BinOp.neq (Qn 48) (Qn 52)),Qa (Qv 54) (Qd (Qn 53)),Qb 54 false (Qv 55),Qa (Qv 55) (Qg 1 (Qn 6)),Qb 54 false (Qv 56),Qa (Qv 56) (Qf 1 false (Qn 55)),Qb 54 false (Qv 57),Qa (Qv 57) (Qj 6 (Qn 56) (Qo (Qp (Qq (Qr Qu 0))))),Qb 54 false (Qv 58),Qa (Qv 58) (Qg 5 (Qn 57)),Qb 54 false (Qv 59),Qa (Qv 59) (Qf 1 false (Qn 58)),Qb 54 false (Qv 60),Qa (Qv 60) (MOp.bslice 1 [(Qr Qu 0)] 1 [(0,(Qo (Qp (Qq (Qr Qu 1)))))]),Qb 54 false (Qv 61),Qa (Qv 61) (Qh 17 [(Qn 59),(Qn 60)]),Qb 54 false (Qv 62),Qa (Qv 62) (MOp.not (Qn 61)),Qa (Qv 63) (Qm (Qn 54) (Qo (Qp (Qq (Qs true)))) (Qn 62))]
def f5_c19:MC:=.r0 f5_r19
def f5_r20:List MO:=[Qa (Qv 2) (Qd (Qo (Qp (Qq (Qs false)))))]
def f5_c20:MC:=.r0 f5_r20
def f5_r26:List MO:=[Qa (Qv 8) (Qd (Qo (Qp (Qq (Qr Qu 0)))))]
def f5_c26:MC:=.r0 f5_r26
def f5_r27:List MO:=[Qa (Qv 64) (Qd (Qn 8)),Qa (Qv 65) (Qg 1 (Qn 4)),Qa (Qv 66) (Qf 1 false (Qn 65)),Qa (Qv 67) (Qk Qt (Qn 66)),Qa (Qv 68) (Qe Qt Go.BinOp.lss (Qn 64) (Qn 67))]
def f5_c27:MC:=.r0 f5_r27
def f5_r32:List MO:=[Qa (Qv 9) (Qd (Qo (Qp A.nil)))]
def f5_c32:MC:=.r0 f5_r32
def f5_r33:List MO:=[Qa (Qv 10) (Qd (Qo (Qp (Qq (Qr Qu 0)))))]
def f5_c33:MC:=.r0 f5_r33
def f5_r34:List MO:=[Qa (Qv 71) (Qd (Qn 10)),Qa (Qv 72) (Qg 1 (Qn 4)),Qa (Qv 73) (Qf 1 false (Qn 72)),Qa (Qv 74) (Qd (Qn 8)),Qa (Qv 75) (Qj 6 (Qn 73) (Qn 74)),Qa (Qv 76) (Qg 5 (Qn 75)),Qa (Qv 77) (Qf 1 false (Qn 76)),Qa (Qv 78) (Qk Qt (Qn 77)),Qa (Qv 79) (Qe Qt Go.BinOp.lss (Qn 71) (Qn 78))]
def f5_c34:MC:=.r0 f5_r34
def f5_r39:List MO:=[Qa (Qv 82) (Qd (Qn 9)),Qa (Qv 83) (Qg 1 (Qn 4)),Qa (Qv 84) (Qf 1 false (Qn 83)),Qa (Qv 85) (Qd (Qn 8)),Qa (Qv 86) (Qj 6 (Qn 84) (Qn 85)),Qa (Qv 87) (Qg 5 (Qn 86)),Qa (Qv 88) (Qf 1 false (Qn 87)),Qa (Qv 89) (Qd (Qn 10)),Qa (Qv 90) (Qj 1 (Qn 88) (Qn 89)),Qa (Qv 91) (Qf 1 false (Qn 90)),Qa (Qv 92) (Qe Qt Go.BinOp.add (Qn 91) (Qo (Qp (Qq (Qr Qu 1))))),Qa (Qv 93) (MOp.bslice 1 [(Qr Qu 0)] 1 [(0,(Qn 92))]),Qa (Qv 94) (MOp.app 3 1 8 (Qn 82) (Qn 93)),Qa (Qv 9) (Qd (Qn 94))]
def f5_c39:MC:=.r0 f5_r39
def f5_r41:List MO:=[Qa (Qv 80) (Qd (Qn 10)),Qa (Qv 81) (Qe Qt Go.BinOp.add (Qn 80) (Qo (Qp (Qq (Qr Qu 1))))),Qa (Qv 10) (Qd (Qn 81))]
def f5_c41:MC:=.r0 f5_r41
def f5_c46:MC:=.seq f5_c33 (.blk 2 (.loop (.seq (.seq f5_c34 (.cond (Qn 79) .skip (MC.exit 2))) (.seq (.blk 3 f5_c39) f5_c41))))
def f5_r47:List MO:=[Qa (Qv 95) (Qg 1 (Qn 6)),Qa (Qv 96) (Qf 1 false (Qn 95)),Qa (Qv 97) (Qd (Qn 8)),Qa (Qv 98) (Qe Qt Go.BinOp.add (Qn 97) (Qo (Qp (Qq (Qr Qu 1))))),Qa (Qv 99) (Qj 6 (Qn 96) (Qn 98)),Qa (Qv 100) (Qg 5 (Qn 99)),Qa (Qv 101) (Qf 1 false (Qn 100)),Qa (Qv 102) (Qd (Qn 9)),Qc (Qv 103) (Qh 17 [(Qn 101),(Qn 102)]),Qa (Qv 104) (MOp.not (Qn 103)),Qa (Qv 105) (Qd (Qn 104)),Qb 105 false (Qv 106),Qa (Qv 106) (Qg 1 (Qn 6)),Qb 105 false (Qv 107),Qa (Qv 107) (Qf 1 false (Qn 106)),Qb 105 false (Qv 108),Qa (Qv 108) (Qd (Qn 8)),Qb 105 false (Qv 109),Qa (Qv 109) (Qe Qt Go.BinOp.add (Qn 108) (Qo (Qp (Qq (Qr Qu 1))))),Qb 105 false (Qv 110),Qa (Qv 110) (Qj 6 (Qn 107) (Qn 109)),Qb 105 false (Qv 111),Qa (Qv 111) (Qg 0 (Qn 110)),Qb 105 false (Qv 112),Qa (Qv 112) (Qf 1 false (Qn 111)),Qb 105 false (Qv 113),Qa (Qv 113) (Qg 1 (Qn 4)),Qb 105 false (Qv 114),Qa (Qv 114) (Qf 1 false (Qn 113)),Qb 105 false (Qv 115),Qa (Qv 115) (Qd (Qn 8)),Qb 105 false (Qv 116),Qa (Qv 116) (Qj 6 (Qn 114) (Qn 115)),Qb 105 false (Qv 117),Qa (Qv 117) (Qg 0 (Qn 116)),Qb 105 false (Qv 118),Qa (Qv 118) (Qf 1 false (Qn 117)),Qb 105 false (Qv 119),Qa (Qv 119) (Qe Qt Go.BinOp.neq (Qn 112) (Qn 118)),Qa (Qv 120) (Qm (Qn 105) (Qo (Qp (Qq (Qs true)))) (Qn 119)),Qa (Qv 121) (Qd (Qn 120)),Qb 121 false (Qv 122),Qa (Qv 122) (Qg 1 (Qn 6)),Qb 121 false (Qv 123),Qa (Qv 123) (Qf 1 false (Qn 122)),Qb 121 false (Qv 124),Qa (Qv 124) (Qd (Qn 8)),Qb 121 false (Qv 125),Qa (Qv 125) (Qe Qt Go.BinOp.add (Qn 124) (Qo (Qp (Qq (Qr Qu 1))))),Qb 121 false (Qv 126),Qa (Qv 126) (Qj 6 (Qn 123) (Qn 125)),Qb 121 false (Qv 127),Qa (Qv 127) (Qg 1 (Qn 126)),Qb 121 false (Qv 128),Qa (Qv 128) (Qf 3 true (Qn 127)),Qb 121 false (Qv 129),Qa (Qv 129) (Qg 1 (Qn 4)),Qb 121 false (Qv 130),Qa (Qv 130) (Qf 1 false (Qn 129)),Qb 121 false (Qv 131),Qa (Qv 131) (Qd (Qn 8)),Qb 121 false (Qv 132),Qa (Qv 132) (Qj 6 (Qn 130) (Qn 131)),Qb 121 false (Qv 133),Qa (Qv 133) (Qg 1 (Qn 132)),Qb 121 false (Qv 134),Qa (Qv 134) (Qf 3 true (Qn 133)),Qb 121 false (Qv 135),Qa (Qv 135) (MOp.eqs true [Qt,Qt,Leaf.s] (Qn 128) (Qn 134)),Qa (Qv 136) (Qm (Qn 121) (Qo (Qp (Qq (Qs true)))) (Qn 135))]
def f5_c47:MC:=.reg true f5_r47
def f5_r48:List MO:=[Qa (Qv 2) (Qd (Qo (Qp (Qq (Qs false)))))]
def f5_c48:MC:=.r0 f5_r48
def f5_c55:MC:=.seq f5_c32 (.seq f5_c46 (.seq f5_c47 (.cond (Qn 136) (.seq f5_c48 .ret) .skip)))
def f5_r57:List MO:=[Qa (Qv 69) (Qd (Qn 8)),Qa (Qv 70) (Qe Qt Go.BinOp.add (Qn 69) (Qo (Qp (Qq (Qr Qu 1))))),Qa (Qv 8) (Qd (Qn 70))]
def f5_c57:MC:=.r0 f5_r57
def f5_c62:MC:=.seq f5_c26 (.blk 0 (.loop (.seq (.seq f5_c27 (.cond (Qn 68) .skip (MC.exit 0))) (.seq (.blk 1 f5_c55) f5_c57))))
def f5_r63:List MO:=[Qa (Qv 137) (Qd (Qn 3)),Qa (Qv 2) (Qd (Qn 137))]
def f5_c63:MC:=.r0 f5_r63
def f5_c67:MC:=.seq (.seq f5_c19 (.cond (Qn 63) (.seq f5_c20 .ret) .skip)) (.seq f5_c62 (.seq f5_c63 .ret))
def f5_c69:MC:=.seq (.seq f5_c5 (.cond (Qn 27) (.seq f5_c6 .ret) .skip)) (.seq (.seq f5_c12 (.cond (Qn 34) (.seq f5_c13 .ret) .skip)) f5_c67)
def f5_c72:MC:=.seq f5_c2 (.seq f5_c3 (.seq f5_c4 f5_c69))
def f5_c74:MC:=.seq f5_c0 (.seq f5_c1 f5_c72)
attribute [go_sem] f5_r0 f5_r1 f5_r2 f5_r3 f5_r4 f5_r5 f5_r6 f5_r12 f5_r13 f5_r19 f5_r20 f5_r26 f5_r27 f5_r32 f5_r33 f5_r34 f5_r39 f5_r41 f5_r47 f5_r48 f5_r57 f5_r63
theorem f5_k : KK QP 5 f5 [] f5_c74 [(RV.t 2)] 138 := by refine ⟨func5,?_,?_,?_,?_⟩<;>kernel_rfl
theorem f5_ok : callable QP 5 = true := by kernel_rfl
theorem f5_in (h : GI QP gp [(RV.t 2)] res 138 f5_c74 args) : Does QP gp 5 args res := f5_k.i f5_ok h
def f9_r0:List MO:=[Qa (Qv 0) (Qd (Qo (Qp (Qq (Qs false)))))]
def f9_c0:MC:=.r0 f9_r0
def f9_r1:List MO:=[Qa (Qv 14) (MOp.build [(Qr Qu 0),(Qr Qu 0),(D.str (ByteArray.mk #[]))] [(0,(1,(Qo (Qp (Qq (Qr Qu 2)))))),(1,(1,(Qo (Qp (Qq (Qr Qu 5))))))]),Qa (Qv 1) (MOp.alloc [(Qr Qu 0),(Qr Qu 0),(D.str (ByteArray.mk #[]))]),Qa none (Ql 3 (Qn 1) (Qn 14))]
def f9_c1:MC:=.r0 f9_r1
def f9_r2:List MO:=[Qa (Qv 15) (MOp.build [(Qr Qu 0),(D.str (ByteArray.mk #[])),(Qr Qu 0),(Qr Qu 0),(D.str (ByteArray.mk #[])),(D.sl []),(D.sl [])] [(0,(1,(Qo (Qp (Qq (Qr Qu 3)))))),(1,(1,(Qo (Qp (Qq (D.str (ByteArray.mk #[120])))))))]),Qa (Qv 16) (Qf 3 true (Qn 1)),Qa (Qv 17) (MOp.build [(Qr Qu 0),(D.str (ByteArray.mk #[])),(Qr Qu 0),(Qr Qu 0),(D.str (ByteArray.mk #[])),(D.sl []),(D.sl [])] [(2,(3,(Qn 16)))]),Qa (Qv 18) (MOp.bslice 7 [(Qr Qu 0),(D.str (ByteArray.mk #[])),(Qr Qu 0),(Qr Qu 0),(D.str (ByteArray.mk #[])),(D.sl []),(D.sl [])] 2 [(0,(Qn 15)),(1,(Qn 17))]),Qa (Qv 19) (MOp.build [(Qr Qu 0),(D.str (ByteArray.mk #[])),(Qr Qu 0),(Qr Qu 0),(D.str (ByteArray.mk #[])),(D.sl []),(D.sl [])] [(0,(1,(Qo (Qp (Qq (Qr Qu 1)))))),(1,(1,(Qo (Qp (Qq (D.str (ByteArray.mk #[120]))))))),(6,(1,(Qn 18)))]),Qa (Qv 2) (MOp.alloc [(Qr Qu 0),(D.str (ByteArray.mk #[])),(Qr Qu 0),(Qr Qu 0),(D.str (ByteArray.mk #[])),(D.sl []),(D.sl [])]),Qa none (Ql 7 (Qn 2) (Qn 19))]
def f9_c2:MC:=.r0 f9_r2
def f9_r3:List MO:=[Qa (Qv 21) (Qf 7 true (Qn 2)),Qa (Qv 22) (Qh 12 [(Qn 21)]),Qa (Qv 20) (Qd (Qn 22)),Qa (Qv 23) (Qi (Qn 20) 0),Qa (Qv 24) (Qi (Qn 20) 1),Qa (Qv 3) (MOp.alloc [(Qr Qu 0),(D.sl [])]),Qa none (Ql 2 (Qn 3) (Qn 23)),Qa (Qv 4) (Qd (Qn 24))]
def f9_c3:MC:=.r0 f9_r3
def f9_r4:List MO:=[Qa (Qv 25) (MOp.bslice 1 [(Qr Qu 0)] 2 [(0,(Qo (Qp (Qq (Qr Qu 0))))),(1,(Qo (Qp (Qq (Qr Qu 1)))))]),Qa (Qv 26) (MOp.build [(Qr Qu 0),(Qr Qu 0),(Qr Qu 0),(D.str (ByteArray.mk #[])),(D.sl []),(D.sl [])] [(0,(1,(Qo (Qp (Qq (Qr Qu 1)))))),(5,(1,(Qn 25)))]),Qa (Qv 27) (Qf 3 true (Qn 1)),Qa (Qv 28) (MOp.build [(Qr Qu 0),(Qr Qu 0),(Qr Qu 0),(D.str (ByteArray.mk #[])),(D.sl []),(D.sl [])] [(1,(3,(Qn 27)))]),Qa (Qv 29) (MOp.bslice 6 [(Qr Qu 0),(Qr Qu 0),(Qr Qu 0),(D.str (ByteArray.mk #[])),(D.sl []),(D.sl [])] 2 [(0,(Qn 26)),(1,(Qn 28))]),Qa (Qv 30) (MOp.build [(Qr Qu 0),(D.sl [])] [(1,(1,(Qn 29)))]),Qa (Qv 5) (MOp.alloc [(Qr Qu 0),(D.sl [])]),Qa none (Ql 2 (Qn 5) (Qn 30))]
def f9_c4:MC:=.r0 f9_r4
def f9_r5:List MO:=[Qa (Qv 32) (Qg 6 (Qn 2)),Qa (Qv 33) (Qf 1 false (Qn 32)),Qa (Qv 34) (Qj 7 (Qn 33) (Qo (Qp (Qq (Qr Qu 0))))),Qa (Qv 35) (Qf 7 true (Qn 34)),Qa (Qv 36) (Qh 12 [(Qn 35)]),Qa (Qv 31) (Qd (Qn 36)),Qa (Qv 37) (Qi (Qn 31) 0),Qa (Qv 38) (Qi (Qn 31) 1),Qa (Qv 6) (MOp.alloc [(Qr Qu 0),(D.sl [])]),Qa none (Ql 2 (Qn 6) (Qn 37)),Qa (Qv 7) (Qd (Qn 38))]
def f9_c5:MC:=.r0 f9_r5
def f9_r6:List MO:=[Qa (Qv 40) (Qf 2 true (Qn 5)),Qa (Qv 41) (Qh 11 [(Qn 40)]),Qa (Qv 39) (Qd (Qn 41)),Qa (Qv 42) (Qi (Qn 39) 0),Qa (Qv 43) (Qi (Qn 39) 1),Qa (Qv 8) (MOp.alloc [(Qr Qu 0),(D.str (ByteArray.mk #[])),(Qr Qu 0),(Qr Qu 0),(D.str (ByteArray.mk #[])),(D.sl []),(D.sl [])]),Qa none (Ql 7 (Qn 8) (Qn 42)),Qa (Qv 9) (Qd (Qn 43))]
def f9_c6:MC:=.r0 f9_r6
def f9_r7:List MO:=[Qa (Qv 45) (Qf 3 true (Qn 1)),Qa (Qv 46) (Qf 3 true (Qn 1)),Qa (Qv 47) (MOp.bslice 3 [(Qr Qu 0),(Qr Qu 0),(D.str (ByteArray.mk #[]))] 2 [(0,(Qn 45)),(1,(Qn 46))]),Qa (Qv 48) (MOp.mkSD 7 104 [(Qr Qu 0),(D.str (ByteArray.mk #[])),(Qr Qu 0),(Qr Qu 0),(D.str (ByteArray.mk #[])),(D.sl []),(D.sl [])] (Qo (Qp (Qq (Qr Qu 2))))),Qa (Qv 49) (MOp.build [(Qr Qu 0),(D.str (ByteArray.mk #[])),(Qr Qu 0),(Qr Qu 0),(D.str (ByteArray.mk #[])),(D.sl []),(D.sl [])] [(0,(1,(Qo (Qp (Qq (Qr Qu 2)))))),(5,(1,(Qn 47))),(6,(1,(Qn 48)))]),Qa (Qv 50) (Qh 12 [(Qn 49)]),Qa (Qv 44) (Qd (Qn 50)),Qa (Qv 51) (Qi (Qn 44) 0),Qa (Qv 52) (Qi (Qn 44) 1),Qa (Qv 10) (MOp.alloc [(Qr Qu 0),(D.sl [])]),Qa none (Ql 2 (Qn 10) (Qn 51)),Qa (Qv 11) (Qd (Qn 52))]
def f9_c7:MC:=.reg true f9_r7
def f9_r8:List MO:=[Qa (Qv 54) (MOp.build [(Qr Qu 0),(D.sl [])] []),Qa (Qv 55) (Qh 11 [(Qn 54)]),Qa (Qv 53) (Qd (Qn 55)),Qa (Qv 56) (Qi (Qn 53) 0),Qa (Qv 57) (Qi (Qn 53) 1),Qa (Qv 12) (MOp.alloc [(Qr Qu 0),(D.str (ByteArray.mk #[])),(Qr Qu 0),(Qr Qu 0),(D.str (ByteArray.mk #[])),(D.sl []),(D.sl [])]),Qa none (Ql 7 (Qn 12) (Qn 56)),Qa (Qv 13) (Qd (Qn 57))]
def f9_c8:MC:=.r0 f9_r8
def f9_r9:List MO:=[Qa (Qv 58) (Qd (Qn 4)),Qa (Qv 59) (Qe Qt Go.BinOp.eql (Qn 58) (Qo (Qp (Qq (Qr Qu 0))))),Qa (Qv 60) (Qd (Qn 59)),Qb 60 true (Qv 61),Qa (Qv 61) (Qf 2 true (Qn 3)),Qb 60 true (Qv 62),Qa (Qv 62) (Qf 2 true (Qn 5)),Qb 60 true (Qv 63),Qa (Qv 63) (Qh 14 [(Qn 61),(Qn 62)]),Qa (Qv 64) (Qm (Qn 60) (Qn 63) (Qo (Qp (Qq (Qs false))))),Qa (Qv 65) (Qd (Qn 64)),Qb 65 true (Qv 66),Qa (Qv 66) (Qd (Qn 7)),Qb 65 true (Qv 67),Qa (Qv 67) (Qe Qt Go.BinOp.eql (Qn 66) (Qo (Qp (Qq (Qr Qu 100))))),Qa (Qv 68) (Qm (Qn 65) (Qn 67) (Qo (Qp (Qq (Qs false))))),Qa (Qv 69) (Qd (Qn 68)),Qb 69 true (Qv 70),Qa (Qv 70) (Qd (Qn 9)),Qb 69 true (Qv 71),Qa (Qv 71) (Qe Qt Go.BinOp.eql (Qn 70) (Qo (Qp (Qq (Qr Qu 0))))),Qa (Qv 72) (Qm (Qn 69) (Qn 71) (Qo (Qp (Qq (Qs false))))),Qa (Qv 73) (Qd (Qn 72)),Qb 73 true (Qv 74),Qa (Qv 74) (Qg 1 (Qn 8)),Qb 73 true (Qv 75),Qa (Qv 75) (Qf 1 false (Qn 74)),Qb 73 true (Qv 76),Qa (Qv 76) (Qe Leaf.s Go.BinOp.eql (Qn 75) (Qo (Qp (Qq (D.str (ByteArray.mk #[97,49])))))),Qa (Qv 77) (Qm (Qn 73) (Qn 76) (Qo (Qp (Qq (Qs false))))),Qa (Qv 78) (Qd (Qn 77)),Qb 78 true (Qv 79),Qa (Qv 79) (Qg 6 (Qn 8)),Qb 78 true (Qv 80),Qa (Qv 80) (Qf 1 false (Qn 79)),Qb 78 true (Qv 81),Qa (Qv 81) (Qk Qt (Qn 80)),Qb 78 true (Qv 82),Qa (Qv 82) (Qe Qt Go.BinOp.eql (Qn 81) (Qo (Qp (Qq (Qr Qu 2))))),Qa (Qv 83) (Qm (Qn 78) (Qn 82) (Qo (Qp (Qq (Qs false))))),Qa (Qv 84) (Qd (Qn 83)),Qb 84 true (Qv 85),Qa (Qv 85) (Qg 6 (Qn 8)),Qb 84 true (Qv 86),Qa (Qv 86) (Qf 1 false (Qn 85)),Qb 84 true (Qv 87),Qa (Qv 87) (Qj 7 (Qn 86) (Qo (Qp (Qq (Qr Qu 0))))),Qb 84 true (Qv 88),Qa (Qv 88) (Qg 0 (Qn 87)),Qb 84 true (Qv 89),Qa (Qv 89) (Qf 1 false (Qn 88)),Qb 84 true (Qv 90),Qa (Qv 90) (Qe Qt Go.BinOp.eql (Qn 89) (Qo (Qp (Qq (Qr Qu 3))))),Qa (Qv 91) (Qm (Qn 84) (Qn 90) (Qo (Qp (Qq (Qs false))))),Qa (Qv 92) (Qd (Qn 91)),Qb 92 true (Qv 93),Qa (Qv 93) (Qd (Qn 11)),Qb 92 true (Qv 94),Qa (Qv 94) (Qe Qt Go.BinOp.eql (Qn 93) (Qo (Qp (Qq (Qr Qu 101))))),Qa (Qv 95) (Qm (Qn 92) (Qn 94) (Qo (Qp (Qq (Qs false))))),Qa (Qv 96) (Qd (Qn 95)),Qb 96 true (Qv 97),Qa (Qv 97) (Qd (Qn 13)),Qb 96 true (Qv 98),Qa (Qv 98) (Qe Qt Go.BinOp.eql (Qn 97) (Qo (Qp (Qq (Qr Qu 72))))),Qa (Qv 99) (Qm (Qn 96) (Qn 98) (Qo (Qp (Qq (Qs false))))),Qa (Qv 100) (Qd (Qn 99)),Qb 100 true (Qv 101),Qa (Qv 101) (Qf 7 true (Qn 2)),Qb 100 true (Qv 102),Qa (Qv 102) (Qh 13 [(Qn 101)]),Qb 100 true (Qv 103),Qa (Qv 103) (MOp.bslice 1 [(D.str (ByteArray.mk #[]))] 1 [(0,(Qo (Qp (Qq (D.str (ByteArray.mk #[120]))))))]),Qb 100 true (Qv 104),Qa (Qv 104) (Qh 23 [(Qn 102),(Qn 103)]),Qa (Qv 105) (Qm (Qn 100) (Qn 104) (Qo (Qp (Qq (Qs false))))),Qa (Qv 0) (Qd (Qn 105))]
def f9_c9:MC:=.r0 f9_r9
def f9_c14:MC:=.seq f9_c6 (.seq f9_c7 (.seq f9_c8 (.seq f9_c9 .ret)))
def f9_c17:MC:=.seq f9_c3 (.seq f9_c4 (.seq f9_c5 f9_c14))
def f9_c20:MC:=.seq f9_c0 (.seq f9_c1 (.seq f9_c2 f9_c17))
attribute [go_sem] f9_r0 f9_r1 f9_r2 f9_r3 f9_r4 f9_r5 f9_r6 f9_r7 f9_r8 f9_r9
theorem f9_k : KK QP 9 f9 [48] f9_c20 [(RV.t 0)] 106 := by refine ⟨func9,?_,?_,?_,?_⟩<;>kernel_rfl
theorem f9_ok : callable QP 9 = true := by kernel_rfl
theorem f9_in (h : GI QP gp [(RV.t 0)] res 106 f9_c20 args) : Does QP gp 9 args res := f9_k.i f9_ok h
def f11_r0:List MO:=[Qa (Qv 1) (MOp.ibox (Qn 0)),Qa (Qv 2) (MOp.alloc [(Qr Qu 0),(D.str (ByteArray.mk #[])),(Qr Qu 0),(Qr Qu 0),(D.str (ByteArray.mk #[])),(D.sl []),(D.sl [])]),Qa (Qv 3) (Qd (Qo (Qp (Qq (Qr Qu 0)))))]
def f11_c0:MC:=.r0 f11_r0
def f11_r1:List MO:=[Qa (Qv 12) (Qf 2 true (Qn 1)),Qa (Qv 13) (Qh 26 [(Qn 12)]),Qa (Qv 14) (MOp.not (Qn 13))]
def f11_c1:MC:=.r0 f11_r1
def f11_r2:List MO:=[Qa (Qv 15) (MOp.build [(Qr Qu 0),(D.str (ByteArray.mk #[])),(Qr Qu 0),(Qr Qu 0),(D.str (ByteArray.mk #[])),(D.sl []),(D.sl [])] []),Qa none (Ql 7 (Qn 2) (Qn 15)),Qa (Qv 3) (Qd (Qo (Qp (Qq (Qr Qu 72)))))]
def f11_c2:MC:=.r0 f11_r2
def f11_r8:List MO:=[Qa (Qv 17) (Qf 2 true (Qn 1)),Qa (Qv 18) (Qh 27 [(Qn 17)]),Qa (Qv 16) (Qd (Qn 18)),Qa (Qv 19) (Qi (Qn 16) 0),Qa (Qv 20) (Qi (Qn 16) 1),Qa (Qv 4) (Qd (Qn 19)),Qa (Qv 5) (Qd (Qn 20))]
def f11_c8:MC:=.r0 f11_r8
def f11_r9:List MO:=[Qa (Qv 21) (Qd (Qn 4)),Qa (Qv 22) (Qk Qt (Qn 21)),Qa (Qv 23) (Qd (Qo (Qp (Qq (Qr Qu 0)))))]
def f11_c9:MC:=.r0 f11_r9
def f11_r10:List MO:=[Qa (Qv 24) (Qe Qt Go.BinOp.lss (Qn 23) (Qn 22))]
def f11_c10:MC:=.r0 f11_r10
def f11_r14:List MO:=[Qa (Qv 25) (Qd (Qn 23)),Qa (Qv 26) (Qj 1 (Qn 21) (Qn 23)),Qa (Qv 27) (Qf 1 false (Qn 26)),Qa (Qv 6) (Qd (Qn 25)),Qa (Qv 7) (Qd (Qn 27))]
def f11_c14:MC:=.r0 f11_r14
def f11_r15:List MO:=[Qa (Qv 28) (Qd (Qn 7)),Qa (Qv 29) (Qe Qt Go.BinOp.gtr (Qn 28) (Qo (Qp (Qq (Qr Qu 24))))),Qa (Qv 30) (Qd (Qn 29)),Qb 30 false (Qv 31),Qa (Qv 31) (Qd (Qn 7)),Qb 30 false (Qv 32),Qa (Qv 32) (Qe Qt Go.BinOp.eql (Qn 31) (Qo (Qp (Qq (Qr Qu 24))))),Qb 30 false (Qv 33),Qa (Qv 33) (Qd (Qn 32)),Qb 33 true (Qv 34),Qa (Qv 34) (Qg 1 (Qn 1)),Qb 33 true (Qv 35),Qa (Qv 35) (Qf 1 false (Qn 34)),Qb 33 true (Qv 36),Qa (Qv 36) (Qd (Qn 6)),Qb 33 true (Qv 37),Qa (Qv 37) (Qj 6 (Qn 35) (Qn 36)),Qb 33 true (Qv 38),Qa (Qv 38) (Qg 5 (Qn 37)),Qb 33 true (Qv 39),Qa (Qv 39) (Qf 1 false (Qn 38)),Qb 33 true (Qv 40),Qa (Qv 40) (Qk Qt (Qn 39)),Qb 33 true (Qv 41),Qa (Qv 41) (Qe Qt Go.BinOp.gtr (Qn 40) (Qo (Qp (Qq (Qr Qu 0))))),Qb 30 false (Qv 42),Qa (Qv 42) (Qm (Qn 33) (Qn 41) (Qo (Qp (Qq (Qs false))))),Qa (Qv 43) (Qm (Qn 30) (Qo (Qp (Qq (Qs true)))) (Qn 42))]
def f11_c15:MC:=.r0 f11_r15
def f11_r16:List MO:=[Qa (Qv 44) (MOp.build [(Qr Qu 0),(D.str (ByteArray.mk #[])),(Qr Qu 0),(Qr Qu 0),(D.str (ByteArray.mk #[])),(D.sl []),(D.sl [])] []),Qa none (Ql 7 (Qn 2) (Qn 44)),Qa (Qv 3) (Qd (Qo (Qp (Qq (Qr Qu 73)))))]
def f11_c16:MC:=.r0 f11_r16
def f11_r24:List MO:=[Qa (Qv 45) (Qe Qt Go.BinOp.add (Qn 23) (Qo (Qp (Qq (Qr Qu 1))))),Qa (Qv 23) (Qd (Qn 45))]
def f11_c24:MC:=.r0 f11_r24
def f11_c25:MC:=.seq (.blk 1 (.seq f11_c14 (.seq f11_c15 (.cond (Qn 43) (.seq f11_c16 .ret) .skip)))) f11_c24
def f11_r31:List MO:=[Qa (Qv 47) (Qf 2 true (Qn 1)),Qa (Qv 48) (Qh 28 [(Qn 47)]),Qa (Qv 46) (Qd (Qn 48)),Qa (Qv 49) (Qi (Qn 46) 0),Qa (Qv 50) (Qi (Qn 46) 1),Qa (Qv 8) (MOp.alloc [(D.sl [])]),Qa none (Ql 1 (Qn 8) (Qn 49)),Qa (Qv 9) (Qd (Qn 50))]
def f11_c31:MC:=.r0 f11_r31
def f11_r32:List MO:=[Qa (Qv 51) MOp.mkM,Qa (Qv 10) (MOp.alloc [(D.raw (Go.Value.map none))]),Qa none (Ql 1 (Qn 10) (Qn 51))]
def f11_c32:MC:=.r0 f11_r32
def f11_r33:List MO:=[Qa (Qv 11) (MOp.alloc [D.nilF])]
def f11_c33:MC:=.r0 f11_r33
def f11_r34:List MO:=[Qa (Qv 52) (MOp.mkF (Go.Fn.func 29) [(Qn 1),(Qn 8),(Qn 10),(Qn 11)]),Qa none (Ql 1 (Qn 11) (Qn 52))]
def f11_c34:MC:=.r0 f11_r34
def f11_r35:List MO:=[Qa (Qv 53) (Qf 1 false (Qn 11)),Qa (Qv 54) (Qg 0 (Qn 1)),Qa (Qv 55) (Qf 1 false (Qn 54)),Qa (Qv 56) (MOp.callv (Qn 53) [(Qn 55)]),Qa none (Ql 7 (Qn 2) (Qn 56)),Qa (Qv 3) (Qd (Qo (Qp (Qq (Qr Qu 0)))))]
def f11_c35:MC:=.r0 f11_r35
def f11_c40:MC:=.seq f11_c32 (.seq f11_c33 (.seq f11_c34 (.seq f11_c35 .ret)))
def f11_c42:MC:=.seq (.seq f11_c9 (.blk 0 (.loop (.seq f11_c10 (.seq (.cond (Qn 24) .skip (MC.exit 0)) f11_c25))))) (.seq f11_c31 f11_c40)
def f11_c44:MC:=.seq (.seq f11_c1 (.cond (Qn 14) (.seq f11_c2 .ret) .skip)) (.seq f11_c8 f11_c42)
def f11_c45:MC:=.seq f11_c0 f11_c44
attribute [go_sem] f11_r0 f11_r1 f11_r2 f11_r8 f11_r9 f11_r10 f11_r14 f11_r15 f11_r16 f11_r24 f11_r31 f11_r32 f11_r33 f11_r34
theorem f11_k : KK QP 11 f11 [1] f11_c45 [(RV.cell 2 7 true),(RV.t 3)] 57 := by refine ⟨func11,?_,?_,?_,?_⟩<;>kernel_rfl
theorem f11_ok : callable QP 11 = true := by kernel_rfl
theorem f11_in (h : GI QP gp [(RV.cell 2 7 true),(RV.t 3)] res 57 f11_c45 args) : Does QP gp 11 args res := f11_k.i f11_ok h
def f12_r0:List MO:=[Qa (Qv 1) (MOp.ibox (Qn 0)),Qa (Qv 2) (MOp.alloc [(Qr Qu 0),(D.sl [])]),Qa (Qv 3) (Qd (Qo (Qp (Qq (Qr Qu 0)))))]
def f12_c0:MC:=.r0 f12_r0
def f12_r1:List MO:=[Qa (Qv 7) MOp.mkM,Qa (Qv 8) (MOp.build [(Qr Qu 0),(D.sl []),(D.raw (Go.Value.map none))] [(2,(1,(Qn 7)))]),Qa (Qv 9) (MOp.box (Qn 8)),Qa (Qv 4) (Qd (Qn 9))]
def f12_c1:MC:=.r0 f12_r1
def f12_r2:List MO:=[Qa (Qv 11) (Qd (Qn 4)),Qa (Qv 12) (Qf 7 true (Qn 1)),Qa (Qv 13) (MOp.build [(Qr Qu 0),(D.str (ByteArray.mk #[])),(Qr Qu 0),(Qr Qu 0),(D.str (ByteArray.mk #[])),(D.sl []),(D.sl [])] [(0,(7,(Qn 12)))]),Qa (Qv 14) (Qh 32 [(Qn 11),(Qn 13),(Qo (Qp (Qq (Qr Qu 1))))]),Qa (Qv 10) (Qd (Qn 14)),Qa (Qv 15) (Qi (Qn 10) 0),Qa (Qv 16) (Qi (Qn 10) 1),Qa (Qv 5) (Qd (Qn 15)),Qa (Qv 6) (Qd (Qn 16))]
def f12_c2:MC:=.r0 f12_r2
def f12_r3:List MO:=[Qa (Qv 17) (Qd (Qn 6)),Qa (Qv 18) (MOp.nilq NK.ifc true (Qn 17))]
def f12_c3:MC:=.r0 f12_r3
def f12_r4:List MO:=[Qa (Qv 19) (MOp.build [(Qr Qu 0),(D.sl [])] []),Qa (Qv 20) (Qd (Qn 6)),Qa (Qv 21) (Qh 33 [(Qn 20)]),Qa none (Ql 2 (Qn 2) (Qn 19)),Qa (Qv 3) (Qd (Qn 21))]
def f12_c4:MC:=.r0 f12_r4
def f12_r11:List MO:=[Qa (Qv 22) (Qd (Qn 4)),Qa (Qv 23) (MOp.nck (Qn 22)),Qa (Qv 24) (Qg 0 (Qn 23)),Qa (Qv 25) (Qf 2 true (Qn 24)),Qa none (Ql 2 (Qn 2) (Qn 25)),Qa (Qv 3) (Qd (Qo (Qp (Qq (Qr Qu 0)))))]
def f12_c11:MC:=.r0 f12_r11
def f12_c14:MC:=.seq (.seq f12_c2 (.seq f12_c3 (.cond (Qn 18) (.seq f12_c4 .ret) .skip))) (.seq f12_c11 .ret)
def f12_c16:MC:=.seq f12_c0 (.seq f12_c1 f12_c14)
attribute [go_sem] f12_r0 f12_r1 f12_r2 f12_r3 f12_r4
theorem f12_k : KK QP 12 f12 [1] f12_c16 [(RV.cell 2 2 true),(RV.t 3)] 26 := by refine ⟨func12,?_,?_,?_,?_⟩<;>kernel_rfl
theorem f12_ok : callable QP 12 = true := by kernel_rfl
theorem f12_in (h : GI QP gp [(RV.cell 2 2 true),(RV.t 3)] res 26 f12_c16 args) : Does QP gp 12 args res := f12_k.i f12_ok h
def f13_r0:List MO:=[Qa (Qv 1) (MOp.ibox (Qn 0)),Qa (Qv 2) (Qd (Qo (Qp A.nil)))]
def f13_c0:MC:=.r0 f13_r0
def f13_r1:List MO:=[Qa (Qv 3) (MOp.alloc [(D.sl [])])]
def f13_c1:MC:=.r0 f13_r1
def f13_r2:List MO:=[Qa (Qv 5) (Qf 7 true (Qn 1)),Qa (Qv 6) (Qh 34 [(Qn 5)])]
def f13_c2:MC:=.r0 f13_r2
def f13_r3:List MO:=[Qa (Qv 4) (MOp.alloc [(Qr Qu 0),(D.str (ByteArray.mk #[])),(Qr Qu 0),(Qr Qu 0),(D.str (ByteArray.mk #[])),(D.sl []),(D.sl [])]),Qa none (Ql 7 (Qn 4) (Qn 7))]
def f13_c3:MC:=.r0 f13_r3
def f13_r4:List MO:=[Qa (Qv 8) (Qg 0 (Qn 4)),Qa (Qv 9) (Qf 1 false (Qn 8)),Qa (Qv 10) (Qe Qt Go.BinOp.neq (Qn 9) (Qo (Qp (Qq (Qr Qu 3))))),Qa (Qv 11) (Qd (Qn 10)),Qb 11 true (Qv 12),Qa (Qv 12) (Qg 1 (Qn 4)),Qb 11 true (Qv 13),Qa (Qv 13) (Qf 1 false (Qn 12)),Qb 11 true (Qv 14),Qa (Qv 14) (Qe Leaf.s Go.BinOp.neq (Qn 13) (Qo (Qp (Qq (D.str (ByteArray.mk #[])))))),Qa (Qv 15) (Qm (Qn 11) (Qn 14) (Qo (Qp (Qq (Qs false)))))]
def f13_c4:MC:=.r0 f13_r4
def f13_r5:List MO:=[Qa (Qv 16) (Qf 1 false (Qn 3)),Qa (Qv 17) (Qg 1 (Qn 4)),Qa (Qv 18) (Qf 1 false (Qn 17)),Qa (Qv 19) (MOp.bslice 1 [(D.str (ByteArray.mk #[]))] 1 [(0,(Qn 18))]),Qa (Qv 20) (MOp.app 9 1 16 (Qn 16) (Qn 19)),Qa none (Ql 1 (Qn 3) (Qn 20))]
def f13_c5:MC:=.r0 f13_r5
def f13_c10:MC:=.rf (Qn 6) [7] f13_c3 (.blk 1 (.seq f13_c4 (.cond (Qn 15) f13_c5 .skip)))
def f13_r13:List MO:=[Qa (Qv 21) (Qf 1 false (Qn 3)),Qa (Qv 2) (Qd (Qn 21))]
def f13_c13:MC:=.r0 f13_r13
def f13_c17:MC:=.seq f13_c1 (.seq (.seq f13_c2 (.blk 0 f13_c10)) (.seq f13_c13 .ret))
def f13_c18:MC:=.seq f13_c0 f13_c17
attribute [go_sem] f13_r0 f13_r1 f13_r2 f13_r3 f13_r4 f13_r5
theorem f13_k : KK QP 13 f13 [1] f13_c18 [(RV.t 2)] 22 := by refine ⟨func13,?_,?_,?_,?_⟩<;>kernel_rfl
theorem f13_ok : callable QP 13 = true := by kernel_rfl
theorem f13_in (h : GI QP gp [(RV.t 2)] res 22 f13_c18 args) : Does QP gp 13 args res := f13_k.i f13_ok h
def f14_r0:List MO:=[Qa (Qv 2) (MOp.ibox (Qn 0)),Qa (Qv 3) (MOp.ibox (Qn 1)),Qa (Qv 4) (Qd (Qo (Qp (Qq (Qs false)))))]
def f14_c0:MC:=.r0 f14_r0
def f14_r1:List MO:=[Qa (Qv 5) (Qd (Qo (Qp (Qq (D.fn (Go.Fn.func 35) [])))))]
def f14_c1:MC:=.r0 f14_r1
def f14_r2:List MO:=[Qa (Qv 6) (Qg 0 (Qn 2)),Qa (Qv 7) (Qf 1 false (Qn 6)),Qa (Qv 8) (Qg 0 (Qn 3)),Qa (Qv 9) (Qf 1 false (Qn 8)),Qa (Qv 10) (Qe Qt Go.BinOp.eql (Qn 7) (Qn 9)),Qa (Qv 11) (Qd (Qn 10)),Qb 11 true (Qv 12),Qa (Qv 12) (Qg 1 (Qn 2)),Qb 11 true (Qv 13),Qa (Qv 13) (Qf 1 false (Qn 12)),Qb 11 true (Qv 14),Qa (Qv 14) (Qg 1 (Qn 3)),Qb 11 true (Qv 15),Qa (Qv 15) (Qf 1 false (Qn 14)),Qb 11 true (Qv 16),Qa (Qv 16) (Qd (Qn 5)),Qb 11 true (Qv 17),Qa (Qv 17) (Qh 38 [(Qn 13),(Qn 15),(Qn 16)]),Qa (Qv 18) (Qm (Qn 11) (Qn 17) (Qo (Qp (Qq (Qs false))))),Qa (Qv 4) (Qd (Qn 18))]
def f14_c2:MC:=.r0 f14_r2
def f14_c6:MC:=.seq f14_c0 (.seq f14_c1 (.seq f14_c2 .ret))
attribute [go_sem] f14_r0 f14_r1 f14_r2
theorem f14_k : KK QP 14 f14 [2,3] f14_c6 [(RV.t 4)] 19 := by refine ⟨func14,?_,?_,?_,?_⟩<;>kernel_rfl
theorem f14_ok : callable QP 14 = true := by kernel_rfl
theorem f14_in (h : GI QP gp [(RV.t 4)] res 19 f14_c6 args) : Does QP gp 14 args res := f14_k.i f14_ok h
def f15_r0:List MO:=[Qa (Qv 1) (MOp.ibox (Qn 0)),Qa (Qv 2) (MOp.alloc [(Qr Qu 0),(D.str (ByteArray.mk #[])),(Qr Qu 0),(Qr Qu 0),(D.str (ByteArray.mk #[])),(D.sl []),(D.sl [])])]
def f15_c0:MC:=.r0 f15_r0
def f15_r1:List MO:=[Qa (Qv 3) (Qf 7 true (Qn 1)),Qa (Qv 4) (Qh 39 [(Qn 3),(Qo (Qp (Qq (Qr Qu 8))))]),Qa none (Ql 7 (Qn 2) (Qn 4))]
def f15_c1:MC:=.r0 f15_r1
def f15_c4:MC:=.seq f15_c0 (.seq f15_c1 .ret)
attribute [go_sem] f15_r0 f15_r1
theorem f15_k : KK QP 15 f15 [1] f15_c4 [(RV.cell 2 7 true)] 5 := by refine ⟨func15,?_,?_,?_,?_⟩<;>kernel_rfl
theorem f15_ok : callable QP 15 = true := by kernel_rfl
theorem f15_in (h : GI QP gp [(RV.cell 2 7 true)] res 5 f15_c4 args) : Does QP gp 15 args res := f15_k.i f15_ok h
def f17_r0:List MO:=[Qa (Qv 4) (Qd (Qo (Qp (Qq (Qs false)))))]
def f17_c0:MC:=.r0 f17_r0
def f17_r1:List MO:=[Qa (Qv 6) (Qd (Qn 0)),Qa (Qv 7) (Qk Qt (Qn 6)),Qa (Qv 8) (Qd (Qn 1)),Qa (Qv 9) (Qk Qt (Qn 8)),Qa (Qv 10) (Qe Qt Go.BinOp.neq (Qn 7) (Qn 9))]
def f17_c1:MC:=.r0 f17_r1
def f17_r2:List MO:=[Qa (Qv 4) (Qd (Qo (Qp (Qq (Qs false)))))]
def f17_c2:MC:=.r0 f17_r2
def f17_r8:List MO:=[Qa (Qv 5) (Qd (Qo (Qp (Qq (Qr Qu 0)))))]
def f17_c8:MC:=.r0 f17_r8
def f17_r9:List MO:=[Qa (Qv 11) (Qd (Qn 5)),Qa (Qv 12) (Qd (Qn 0)),Qa (Qv 13) (Qk Qt (Qn 12)),Qa (Qv 14) (Qe Qt Go.BinOp.lss (Qn 11) (Qn 13))]
def f17_c9:MC:=.r0 f17_r9
def f17_r14:List MO:=[Qa (Qv 17) (Qd (Qn 0)),Qa (Qv 18) (Qd (Qn 5)),Qa (Qv 19) (Qj 1 (Qn 17) (Qn 18)),Qa (Qv 20) (Qf 1 false (Qn 19)),Qa (Qv 21) (Qd (Qn 1)),Qa (Qv 22) (Qd (Qn 5)),Qa (Qv 23) (Qj 1 (Qn 21) (Qn 22)),Qa (Qv 24) (Qf 1 false (Qn 23)),Qa (Qv 25) (Qe Qt Go.BinOp.neq (Qn 20) (Qn 24))]
def f17_c14:MC:=.reg true f17_r14
def f17_r15:List MO:=[Qa (Qv 4) (Qd (Qo (Qp (Qq (Qs false)))))]
def f17_c15:MC:=.r0 f17_r15
def f17_r22:List MO:=[Qa (Qv 15) (Qd (Qn 5)),Qa (Qv 16) (Qe Qt Go.BinOp.add (Qn 15) (Qo (Qp (Qq (Qr Qu 1))))),Qa (Qv 5) (Qd (Qn 16))]
def f17_c22:MC:=.r0 f17_r22
def f17_c24:MC:=.seq (.seq f17_c9 (.cond (Qn 14) .skip (MC.exit 0))) (.seq (.blk 1 (.seq f17_c14 (.cond (Qn 25) (.seq f17_c15 .ret) .skip))) f17_c22)
def f17_r28:List MO:=[Qa (Qv 4) (Qd (Qo (Qp (Qq (Qs true)))))]
def f17_c28:MC:=.r0 f17_r28
def f17_c32:MC:=.seq (.seq f17_c1 (.cond (Qn 10) (.seq f17_c2 .ret) .skip)) (.seq (.seq f17_c8 (.blk 0 (.loop f17_c24))) (.seq f17_c28 .ret))
def f17_c33:MC:=.seq f17_c0 f17_c32
attribute [go_sem] f17_r0 f17_r1 f17_r2 f17_r8 f17_r9 f17_r14 f17_r15 f17_r22 f17_r28
theorem f17_k : KK QP 17 f17 [] f17_c33 [(RV.t 4)] 26 := by refine ⟨func17,?_,?_,?_,?_⟩<;>kernel_rfl
theorem f17_ok : callable QP 17 = true := by kernel_rfl
theorem f17_in (h : GI QP gp [(RV.t 4)] res 26 f17_c33 args) : Does QP gp 17 args res := f17_k.i f17_ok h
def f18_r0:List MO:=[Qa (Qv 1) (MOp.ibox (Qn 0)),Qa (Qv 2) (Qd (Qo (Qp (Qq (Qs false)))))]
def f18_c0:MC:=.r0 f18_r0
def f18_r1:List MO:=[Qa (Qv 3) (Qg 0 (Qn 1)),Qa (Qv 4) (Qf 1 false (Qn 3))]
def f18_c1:MC:=.r0 f18_r1
def f18_r2:List MO:=[Qa (Qv 6) (Qe Qt Go.BinOp.eql (Qn 4) (Qo (Qp (Qq (Qr Qu 0))))),Qa (Qv 5) (Qd (Qn 6))]
def f18_c2:MC:=.r0 f18_r2
def f18_r3:List MO:=[Qa (Qv 7) (Qf 3 true (Qn 1)),Qa (Qv 8) (MOp.build [(Qr Qu 0),(Qr Qu 0),(D.str (ByteArray.mk #[]))] []),Qa (Qv 9) (MOp.eqs false [Qt,Qt,Leaf.s] (Qn 7) (Qn 8)),Qa (Qv 2) (Qd (Qn 9))]
def f18_c3:MC:=.r0 f18_r3
def f18_r6:List MO:=[Qa (Qv 11) (Qe Qt Go.BinOp.eql (Qn 4) (Qo (Qp (Qq (Qr Qu 1))))),Qa (Qv 10) (Qd (Qn 11))]
def f18_c6:MC:=.r0 f18_r6
def f18_r7:List MO:=[Qa (Qv 12) (Qg 2 (Qn 1)),Qa (Qv 13) (Qf 1 false (Qn 12)),Qa (Qv 14) (Qe Leaf.s Go.BinOp.eql (Qn 13) (Qo (Qp (Qq (D.str (ByteArray.mk #[])))))),Qa (Qv 15) (Qd (Qn 14)),Qb 15 true (Qv 16),Qa (Qv 16) (Qg 1 (Qn 1)),Qb 15 true (Qv 17),Qa (Qv 17) (Qf 1 false (Qn 16)),Qb 15 true (Qv 18),Qa (Qv 18) (Qe Qt Go.BinOp.eql (Qn 17) (Qo (Qp (Qq (Qr Qu 0))))),Qb 15 true (Qv 19),Qa (Qv 19) (Qd (Qn 18)),Qb 19 false (Qv 20),Qa (Qv 20) (Qg 1 (Qn 1)),Qb 19 false (Qv 21),Qa (Qv 21) (Qf 1 false (Qn 20)),Qb 19 false (Qv 22),Qa (Qv 22) (Qe Qt Go.BinOp.eql (Qn 21) (Qo (Qp (Qq (Qr Qu 1))))),Qb 15 true (Qv 23),Qa (Qv 23) (Qm (Qn 19) (Qo (Qp (Qq (Qs true)))) (Qn 22)),Qa (Qv 24) (Qm (Qn 15) (Qn 23) (Qo (Qp (Qq (Qs false))))),Qa (Qv 2) (Qd (Qn 24))]
def f18_c7:MC:=.r0 f18_r7
def f18_r10:List MO:=[Qa (Qv 26) (Qe Qt Go.BinOp.eql (Qn 4) (Qo (Qp (Qq (Qr Qu 2))))),Qa (Qv 25) (Qd (Qn 26))]
def f18_c10:MC:=.r0 f18_r10
def f18_r11:List MO:=[Qa (Qv 27) (Qg 2 (Qn 1)),Qa (Qv 28) (Qf 1 false (Qn 27)),Qa (Qv 29) (Qe Leaf.s Go.BinOp.eql (Qn 28) (Qo (Qp (Qq (D.str (ByteArray.mk #[])))))),Qa (Qv 30) (Qd (Qn 29)),Qb 30 true (Qv 31),Qa (Qv 31) (Qg 1 (Qn 1)),Qb 30 true (Qv 32),Qa (Qv 32) (Qf 1 false (Qn 31)),Qb 30 true (Qv 33),Qa (Qv 33) (Qe Qt Go.BinOp.geq (Qn 32) (Qo (Qp (Qq (Qr Qu (-999999999999999)))))),Qa (Qv 34) (Qm (Qn 30) (Qn 33) (Qo (Qp (Qq (Qs false))))),Qa (Qv 35) (Qd (Qn 34)),Qb 35 true (Qv 36),Qa (Qv 36) (Qg 1 (Qn 1)),Qb 35 true (Qv 37),Qa (Qv 37) (Qf 1 false (Qn 36)),Qb 35 true (Qv 38),Qa (Qv 38) (Qe Qt Go.BinOp.leq (Qn 37) (Qo (Qp (Qq (Qr Qu 999999999999999))))),Qa (Qv 39) (Qm (Qn 35) (Qn 38) (Qo (Qp (Qq (Qs false))))),Qa (Qv 2) (Qd (Qn 39))]
def f18_c11:MC:=.r0 f18_r11
def f18_r14:List MO:=[Qa (Qv 41) (Qe Qt Go.BinOp.eql (Qn 4) (Qo (Qp (Qq (Qr Qu 3))))),Qa (Qv 40) (Qd (Qn 41))]
def f18_c14:MC:=.r0 f18_r14
def f18_r15:List MO:=[Qa (Qv 42) (Qg 1 (Qn 1)),Qa (Qv 43) (Qf 1 false (Qn 42)),Qa (Qv 44) (Qe Qt Go.BinOp.eql (Qn 43) (Qo (Qp (Qq (Qr Qu 0))))),Qa (Qv 45) (Qd (Qn 44)),Qb 45 true (Qv 46),Qa (Qv 46) (Qg 2 (Qn 1)),Qb 45 true (Qv 47),Qa (Qv 47) (Qf 1 false (Qn 46)),Qb 45 true (Qv 48),Qa (Qv 48) (Qh 40 [(Qn 47)]),Qa (Qv 49) (Qm (Qn 45) (Qn 48) (Qo (Qp (Qq (Qs false))))),Qa (Qv 2) (Qd (Qn 49))]
def f18_c15:MC:=.r0 f18_r15
def f18_c22:MC:=.seq f18_c10 (.cond (Qn 25) (.seq f18_c11 .ret) (.seq f18_c14 (.cond (Qn 40) (.seq f18_c15 .ret) .skip)))
def f18_c25:MC:=.cond (Qn 5) (.seq f18_c3 .ret) (.seq f18_c6 (.cond (Qn 10) (.seq f18_c7 .ret) f18_c22))
def f18_r29:List MO:=[Qa (Qv 2) (Qd (Qo (Qp (Qq (Qs false)))))]
def f18_c29:MC:=.r0 f18_r29
def f18_c32:MC:=.seq (.seq f18_c1 (.blk 0 (.seq f18_c2 f18_c25))) (.seq f18_c29 .ret)
def f18_c33:MC:=.seq f18_c0 f18_c32
attribute [go_sem] f18_r0 f18_r1 f18_r2 f18_r3 f18_r6 f18_r7 f18_r10 f18_r11 f18_r14 f18_r15 f18_r29
theorem f18_k : KK QP 18 f18 [1] f18_c33 [(RV.t 2)] 50 := by refine ⟨func18,?_,?_,?_,?_⟩<;>kernel_rfl
theorem f18_ok : callable QP 18 = true := by kernel_rfl
theorem f18_in (h : GI QP gp [(RV.t 2)] res 50 f18_c33 args) : Does QP gp 18 args res := f18_k.i f18_ok h
def f19_r0:List MO:=[Qa (Qv 1) (MOp.ibox (Qn 0)),Qa (Qv 2) (Qd (Qo (Qp (Qq (Qr Qu 0))))),Qa (Qv 3) (Qd (Qo (Qp (Qq (Qr Qu 0)))))]
def f19_c0:MC:=.r0 f19_r0
def f19_r1:List MO:=[Qa (Qv 4) (Qf 2 true (Qn 1)),Qa (Qv 5) (Qh 42 [(Qn 4)]),Qa (Qv 6) (Qh 41 [(Qn 5)]),Qa (Qv 7) (Qi (Qn 6) 0),Qa (Qv 8) (Qi (Qn 6) 1),Qa (Qv 2) (Qd (Qn 7)),Qa (Qv 3) (Qd (Qn 8))]
def f19_c1:MC:=.r0 f19_r1
def f19_c4:MC:=.seq f19_c0 (.seq f19_c1 .ret)
attribute [go_sem] f19_r0 f19_r1
theorem f19_k : KK QP 19 f19 [1] f19_c4 [(RV.t 2),(RV.t 3)] 9 := by refine ⟨func19,?_,?_,?_,?_⟩<;>kernel_rfl
theorem f19_ok : callable QP 19 = true := by kernel_rfl
theorem f19_in (h : GI QP gp [(RV.t 2),(RV.t 3)] res 9 f19_c4 args) : Does QP gp 19 args res := f19_k.i f19_ok h
def f23_r0:List MO:=[Qa (Qv 4) (Qd (Qo (Qp (Qq (Qs false)))))]
def f23_c0:MC:=.r0 f23_r0
def f23_r1:List MO:=[Qa (Qv 6) (Qd (Qn 0)),Qa (Qv 7) (Qk Qt (Qn 6)),Qa (Qv 8) (Qd (Qn 1)),Qa (Qv 9) (Qk Qt (Qn 8)),Qa (Qv 10) (Qe Qt Go.BinOp.neq (Qn 7) (Qn 9))]
def f23_c1:MC:=.r0 f23_r1
def f23_r2:List MO:=[Qa (Qv 4) (Qd (Qo (Qp (Qq (Qs false)))))]
def f23_c2:MC:=.r0 f23_r2
def f23_r8:List MO:=[Qa (Qv 5) (Qd (Qo (Qp (Qq (Qr Qu 0)))))]
def f23_c8:MC:=.r0 f23_r8
def f23_r9:List MO:=[Qa (Qv 11) (Qd (Qn 5)),Qa (Qv 12) (Qd (Qn 0)),Qa (Qv 13) (Qk Qt (Qn 12)),Qa (Qv 14) (Qe Qt Go.BinOp.lss (Qn 11) (Qn 13))]
def f23_c9:MC:=.r0 f23_r9
def f23_r14:List MO:=[Qa (Qv 17) (Qd (Qn 0)),Qa (Qv 18) (Qd (Qn 5)),Qa (Qv 19) (Qj 1 (Qn 17) (Qn 18)),Qa (Qv 20) (Qf 1 false (Qn 19)),Qa (Qv 21) (Qd (Qn 1)),Qa (Qv 22) (Qd (Qn 5)),Qa (Qv 23) (Qj 1 (Qn 21) (Qn 22)),Qa (Qv 24) (Qf 1 false (Qn 23)),Qa (Qv 25) (Qe Leaf.s Go.BinOp.neq (Qn 20) (Qn 24))]
def f23_c14:MC:=.reg true f23_r14
def f23_r15:List MO:=[Qa (Qv 4) (Qd (Qo (Qp (Qq (Qs false)))))]
def f23_c15:MC:=.r0 f23_r15
def f23_r22:List MO:=[Qa (Qv 15) (Qd (Qn 5)),Qa (Qv 16) (Qe Qt Go.BinOp.add (Qn 15) (Qo (Qp (Qq (Qr Qu 1))))),Qa (Qv 5) (Qd (Qn 16))]
def f23_c22:MC:=.r0 f23_r22
def f23_c24:MC:=.seq (.seq f23_c9 (.cond (Qn 14) .skip (MC.exit 0))) (.seq (.blk 1 (.seq f23_c14 (.cond (Qn 25) (.seq f23_c15 .ret) .skip))) f23_c22)
def f23_r28:List MO:=[Qa (Qv 4) (Qd (Qo (Qp (Qq (Qs true)))))]
def f23_c28:MC:=.r0 f23_r28
def f23_c32:MC:=.seq (.seq f23_c1 (.cond (Qn 10) (.seq f23_c2 .ret) .skip)) (.seq (.seq f23_c8 (.blk 0 (.loop f23_c24))) (.seq f23_c28 .ret))
def f23_c33:MC:=.seq f23_c0 f23_c32
attribute [go_sem] f23_r0 f23_r1 f23_r2 f23_r8 f23_r9 f23_r14 f23_r15 f23_r22 f23_r28
theorem f23_k : KK QP 23 f23 [] f23_c33 [(RV.t 4)] 26 := by refine ⟨func23,?_,?_,?_,?_⟩<;>kernel_rfl
theorem f23_ok : callable QP 23 = true := by kernel_rfl
theorem f23_in (h : GI QP gp [(RV.t 4)] res 26 f23_c33 args) : Does QP gp 23 args res := f23_k.i f23_ok h
def f29_r0:List MO:=[Qa (Qv 6) (MOp.alloc [(Qr Qu 0),(D.str (ByteArray.mk #[])),(Qr Qu 0),(Qr Qu 0),(D.str (ByteArray.mk #[])),(D.sl []),(D.sl [])])]
def f29_c0:MC:=.r0 f29_r0
def f29_r1:List MO:=[Qa (Qv 11) (Qg 1 (Qn 1)),Qa (Qv 12) (Qf 1 false (Qn 11)),Qa (Qv 13) (Qd (Qn 0)),Qa (Qv 14) (Qj 6 (Qn 12) (Qn 13)),Qa (Qv 15) (Qf 6 true (Qn 14)),Qa (Qv 7) (MOp.alloc [(Qr Qu 0),(Qr Qu 0),(Qr Qu 0),(D.str (ByteArray.mk #[])),(D.sl []),(D.sl [])]),Qa none (Ql 6 (Qn 7) (Qn 15))]
def f29_c1:MC:=.r0 f29_r1
def f29_r2:List MO:=[Qa (Qv 16) (Qg 0 (Qn 7)),Qa (Qv 17) (MOp.cld 1 false (Qn 16)),Qa (Qv 18) (Qg 1 (Qn 7)),Qa (Qv 19) (MOp.cld 3 true (Qn 18)),Qa (Qv 20) (Qg 4 (Qn 7)),Qa (Qv 21) (MOp.cld 1 false (Qn 20)),Qa (Qv 22) (Qh 30 [(Qn 21)]),Qa (Qv 23) (MOp.build [(Qr Qu 0),(D.str (ByteArray.mk #[])),(Qr Qu 0),(Qr Qu 0),(D.str (ByteArray.mk #[])),(D.sl []),(D.sl [])] [(0,(1,(Qn 17))),(2,(3,(Qn 19))),(5,(1,(Qn 22)))]),Qa (Qv 8) (MOp.alloc [(Qr Qu 0),(D.str (ByteArray.mk #[])),(Qr Qu 0),(Qr Qu 0),(D.str (ByteArray.mk #[])),(D.sl []),(D.sl [])]),Qa none (Ql 7 (Qn 8) (Qn 23))]
def f29_c2:MC:=.reg true f29_r2
def f29_r3:List MO:=[Qa (Qv 24) (Qf 1 false (Qn 2)),Qa (Qv 25) (Qd (Qn 0)),Qa (Qv 26) (Qj 1 (Qn 24) (Qn 25)),Qa (Qv 27) (Qf 1 false (Qn 26)),Qa (Qv 28) (Qe Qt Go.BinOp.gtr (Qn 27) (Qo (Qp (Qq (Qr Qu 0)))))]
def f29_c3:MC:=.r0 f29_r3
def f29_r4:List MO:=[Qa (Qv 29) (Qf 1 false (Qn 2)),Qa (Qv 30) (Qd (Qn 0)),Qa (Qv 31) (Qj 1 (Qn 29) (Qn 30)),Qa (Qv 32) (Qf 1 false (Qn 31)),Qa (Qv 33) (Qh 31 [(Qn 32)]),Qa (Qv 34) (Qe Leaf.s Go.BinOp.add (Qo (Qp (Qq (D.str (ByteArray.mk #[97]))))) (Qn 33)),Qa (Qv 35) (Qg 1 (Qn 8)),Qa none (Ql 1 (Qn 35) (Qn 34))]
def f29_c4:MC:=.r0 f29_r4
def f29_r8:List MO:=[Qa (Qv 36) (Qg 1 (Qn 8)),Qa (Qv 37) (Qf 1 false (Qn 36)),Qa (Qv 38) (Qe Leaf.s Go.BinOp.neq (Qn 37) (Qo (Qp (Qq (D.str (ByteArray.mk #[])))))),Qa (Qv 39) (Qd (Qn 38)),Qb 39 true (Qv 40),Qa (Qv 40) (Qf 1 false (Qn 3)),Qb 39 true (Qv 41),Qa (Qv 41) (Qd (Qn 0)),Qb 39 true (Qv 42),Qa (Qv 42) (MOp.lkp false (Qp (Qq (Qs false))) false [Qt] (Qn 40) (Qn 41)),Qa (Qv 43) (Qm (Qn 39) (Qn 42) (Qo (Qp (Qq (Qs false)))))]
def f29_c8:MC:=.r0 f29_r8
def f29_r9:List MO:=[Qa (Qv 44) (Qg 1 (Qn 8)),Qa (Qv 45) (Qf 1 false (Qn 44)),Qa (Qv 46) (MOp.build [(Qr Qu 0),(D.str (ByteArray.mk #[])),(Qr Qu 0),(Qr Qu 0),(D.str (ByteArray.mk #[])),(D.sl []),(D.sl [])] [(0,(1,(Qo (Qp (Qq (Qr Qu 3)))))),(1,(1,(Qn 45)))]),Qa none (Ql 7 (Qn 6) (Qn 46))]
def f29_c9:MC:=.r0 f29_r9
def f29_r15:List MO:=[Qa (Qv 47) (Qf 1 false (Qn 3)),Qa (Qv 48) (Qd (Qn 0)),Qa none (MOp.mupd false [Qt] (Qn 47) (Qn 48) (Qo (Qp (Qq (Qs true)))))]
def f29_c15:MC:=.r0 f29_r15
def f29_r16:List MO:=[Qa (Qv 49) (Qg 5 (Qn 7)),Qa (Qv 50) (Qf 1 false (Qn 49)),Qa (Qv 51) (Qk Qt (Qn 50)),Qa (Qv 52) (Qd (Qo (Qp (Qq (Qr Qu 0)))))]
def f29_c16:MC:=.r0 f29_r16
def f29_r17:List MO:=[Qa (Qv 53) (Qe Qt Go.BinOp.lss (Qn 52) (Qn 51))]
def f29_c17:MC:=.r0 f29_r17
def f29_r21:List MO:=[Qa (Qv 54) (Qj 1 (Qn 50) (Qn 52)),Qa (Qv 55) (Qf 1 false (Qn 54)),Qa (Qv 10) (Qd (Qn 55))]
def f29_c21:MC:=.r0 f29_r21
def f29_r22:List MO:=[Qa (Qv 56) (Qg 6 (Qn 8)),Qa (Qv 57) (MOp.cld 1 false (Qn 56)),Qa (Qv 58) (MOp.cld 1 false (Qn 4)),Qa (Qv 59) (Qd (Qn 10)),Qa (Qv 60) (MOp.callvF (Qn 58) [(Qn 59)]),Qa (Qv 61) (MOp.bslice 7 [(Qr Qu 0),(D.str (ByteArray.mk #[])),(Qr Qu 0),(Qr Qu 0),(D.str (ByteArray.mk #[])),(D.sl []),(D.sl [])] 1 [(0,(Qn 60))]),Qa (Qv 62) (MOp.app 32 7 104 (Qn 57) (Qn 61)),Qa (Qv 63) (Qg 6 (Qn 8)),Qa none (Ql 1 (Qn 63) (Qn 62))]
def f29_c22:MC:=.reg true f29_r22
def f29_r25:List MO:=[Qa (Qv 64) (Qe Qt Go.BinOp.add (Qn 52) (Qo (Qp (Qq (Qr Qu 1))))),Qa (Qv 52) (Qd (Qn 64))]
def f29_c25:MC:=.r0 f29_r25
def f29_c28:MC:=.seq f29_c17 (.seq (.cond (Qn 53) .skip (MC.exit 0)) (.seq (.blk 1 (.seq f29_c21 f29_c22)) f29_c25))
def f29_r32:List MO:=[Qa (Qv 65) (Qf 7 true (Qn 8)),Qa none (Ql 7 (Qn 6) (Qn 65))]
def f29_c32:MC:=.r0 f29_r32
def f29_c36:MC:=.seq f29_c15 (.seq (.seq f29_c16 (.blk 0 (.loop f29_c28))) (.seq f29_c32 .ret))
def f29_c38:MC:=.seq (.seq f29_c3 (.cond (Qn 28) f29_c4 .skip)) (.seq (.seq f29_c8 (.cond (Qn 43) (.seq f29_c9 .ret) .skip)) f29_c36)
def f29_c41:MC:=.seq f29_c0 (.seq f29_c1 (.seq f29_c2 f29_c38))
attribute [go_sem] f29_r0 f29_r1 f29_r2 f29_r3 f29_r4 f29_r8 f29_r9 f29_r15 f29_r16 f29_r17 f29_r21 f29_r25
theorem f29_k : KK QP 29 f29 [2000,6060] f29_c41 [(RV.cell 6 7 true)] 66 := by refine ⟨func29,?_,?_,?_,?_⟩<;>kernel_rfl
theorem f29_ok : callable QP 29 = true := by kernel_rfl
theorem f29_tri (h : GT QP gp [(RV.cell 6 7 true)] pre R 66 f29_c41 args) : Tri QP gp 29 args pre R := f29_k.t h
def f30_r0:List MO:=[Qa (Qv 2) (Qd (Qo (Qp A.nil)))]
def f30_c0:MC:=.r0 f30_r0
def f30_r1:List MO:=[Qa (Qv 3) (Qd (Qn 0)),Qa (Qv 4) (MOp.nilq NK.sl false (Qn 3))]
def f30_c1:MC:=.r0 f30_r1
def f30_r2:List MO:=[Qa (Qv 2) (Qd (Qo (Qp A.nil)))]
def f30_c2:MC:=.r0 f30_r2
def f30_r8:List MO:=[Qa (Qv 5) (MOp.bslO 3 [(Qr Qu 0),(Qr Qu 0),(D.str (ByteArray.mk #[]))] 0 []),Qa (Qv 6) (Qd (Qn 0)),Qa (Qv 7) (MOp.app 28 3 32 (Qn 5) (Qn 6)),Qa (Qv 2) (Qd (Qn 7))]
def f30_c8:MC:=.r0 f30_r8
def f30_c12:MC:=.seq f30_c0 (.seq (.seq f30_c1 (.cond (Qn 4) (.seq f30_c2 .ret) .skip)) (.seq f30_c8 .ret))
theorem f30_k : KK QP 30 f30 [5] f30_c12 [(RV.t 2)] 8 := by refine ⟨func30,?_,?_,?_,?_⟩<;>kernel_rfl
theorem f30_ok : callable QP 30 = true := by kernel_rfl
theorem f30_in (h : GI QP gp [(RV.t 2)] res 8 f30_c12 args) : Does QP gp 30 args res := f30_k.i f30_ok h
def f32_r0:List MO:=[Qa (Qv 3) (MOp.box (Qn 0)),Qa (Qv 4) (MOp.ibox (Qn 1)),Qa (Qv 5) (MOp.box (Qn 2)),Qa (Qv 6) (Qd (Qo (Qp (Qq (Qr Qu 0))))),Qa (Qv 7) (Qd (Qo (Qp (Qq D.nilI))))]
def f32_c0:MC:=.r0 f32_r0
def f32_r1:List MO:=[Qa (Qv 14) (Qf 1 false (Qn 3)),Qa (Qv 15) (Qf 7 true (Qn 4)),Qa (Qv 16) (Qf 1 false (Qn 5)),Qa (Qv 17) (Qh 57 [(Qn 14),(Qn 15),(Qn 16)]),Qa (Qv 8) (Qd (Qn 17))]
def f32_c1:MC:=.r0 f32_r1
def f32_r2:List MO:=[Qa (Qv 18) (Qd (Qn 8)),Qa (Qv 19) (MOp.nilq NK.ifc true (Qn 18))]
def f32_c2:MC:=.r0 f32_r2
def f32_r3:List MO:=[Qa (Qv 20) (Qd (Qn 8)),Qa (Qv 6) (Qd (Qo (Qp (Qq (Qr Qu 0))))),Qa (Qv 7) (Qd (Qn 20))]
def f32_c3:MC:=.r0 f32_r3
def f32_r10:List MO:=[Qa (Qv 21) (Qg 0 (Qn 4)),Qa (Qv 22) (Qg 0 (Qn 21)),Qa (Qv 23) (Qf 1 false (Qn 22)),Qa (Qv 24) (Qe Qt Go.BinOp.eql (Qn 23) (Qo (Qp (Qq (Qr Qu 3)))))]
def f32_c10:MC:=.r0 f32_r10
def f32_r11:List MO:=[Qa (Qv 25) (MOp.cld 1 false (Qn 3)),Qa (Qv 26) (MOp.nck (Qn 25)),Qa (Qv 27) (Qg 2 (Qn 26)),Qa (Qv 28) (MOp.cld 1 false (Qn 27)),Qa (Qv 29) (Qg 0 (Qn 4)),Qa (Qv 30) (Qg 1 (Qn 29)),Qa (Qv 31) (MOp.cld 1 false (Qn 30)),Qa (Qv 32) (MOp.lkp false (Qp (Qq (Qr Qu 0))) false [Leaf.s] (Qn 28) (Qn 31)),Qa (Qv 6) (Qd (Qn 32)),Qa (Qv 7) (Qd (Qo (Qp (Qq D.nilI))))]
def f32_c11:MC:=.reg true f32_r11
def f32_r17:List MO:=[Qa (Qv 33) (Qf 1 false (Qn 3)),Qa (Qv 34) (MOp.nck (Qn 33)),Qa (Qv 35) (Qg 0 (Qn 34)),Qa (Qv 36) (Qg 1 (Qn 35)),Qa (Qv 37) (Qf 1 false (Qn 36)),Qa (Qv 38) (Qk Qt (Qn 37)),Qa (Qv 9) (MOp.alloc [(Qr Qu 0)]),Qa none (Ql 1 (Qn 9) (Qn 38))]
def f32_c17:MC:=.r0 f32_r17
def f32_r18:List MO:=[Qa (Qv 39) (MOp.cld 1 false (Qn 3)),Qa (Qv 40) (MOp.cld 1 false (Qn 3)),Qa (Qv 41) (MOp.nck (Qn 40)),Qa (Qv 42) (Qg 0 (Qn 41)),Qa (Qv 43) (Qg 1 (Qn 42)),Qa (Qv 44) (MOp.cld 1 false (Qn 43)),Qa (Qv 45) (Qg 0 (Qn 4)),Qa (Qv 46) (Qg 0 (Qn 45)),Qa (Qv 47) (MOp.cld 1 false (Qn 46)),Qa (Qv 48) (Qg 0 (Qn 4)),Qa (Qv 49) (Qg 2 (Qn 48)),Qa (Qv 50) (MOp.cld 3 true (Qn 49)),Qa (Qv 51) (Qg 0 (Qn 4)),Qa (Qv 52) (Qg 5 (Qn 51)),Qa (Qv 53) (MOp.cld 1 false (Qn 52)),Qa (Qv 54) (Qh 30 [(Qn 53)]),Qa (Qv 55) (MOp.build [(Qr Qu 0),(Qr Qu 0),(Qr Qu 0),(D.str (ByteArray.mk #[])),(D.raw (Go.Value.slice none 0 0)),(D.raw (Go.Value.slice none 0 0))] [(0,(1,(Qn 47))),(1,(3,(Qn 50))),(4,(1,(Qn 54)))]),Qa (Qv 56) (MOp.bslice 6 [(Qr Qu 0),(Qr Qu 0),(Qr Qu 0),(D.str (ByteArray.mk #[])),(D.sl []),(D.sl [])] 1 [(0,(Qn 55))]),Qa (Qv 57) (MOp.app 40 6 88 (Qn 44) (Qn 56)),Qa (Qv 58) (MOp.nck (Qn 39)),Qa (Qv 59) (Qg 0 (Qn 58)),Qa (Qv 60) (Qg 1 (Qn 59)),Qa none (Ql 1 (Qn 60) (Qn 57))]
def f32_c18:MC:=.reg true f32_r18
def f32_r19:List MO:=[Qa (Qv 61) (Qg 0 (Qn 4)),Qa (Qv 62) (Qg 1 (Qn 61)),Qa (Qv 63) (Qf 1 false (Qn 62)),Qa (Qv 64) (Qe Leaf.s Go.BinOp.neq (Qn 63) (Qo (Qp (Qq (D.str (ByteArray.mk #[]))))))]
def f32_c19:MC:=.r0 f32_r19
def f32_r20:List MO:=[Qa (Qv 65) (MOp.cld 1 false (Qn 3)),Qa (Qv 66) (MOp.nck (Qn 65)),Qa (Qv 67) (Qg 2 (Qn 66)),Qa (Qv 68) (MOp.cld 1 false (Qn 67)),Qa (Qv 69) (Qg 0 (Qn 4)),Qa (Qv 70) (Qg 1 (Qn 69)),Qa (Qv 71) (MOp.cld 1 false (Qn 70)),Qa (Qv 72) (MOp.cld 1 false (Qn 9)),Qa none (MOp.mupd false [Leaf.s] (Qn 68) (Qn 71) (Qn 72))]
def f32_c20:MC:=.reg true f32_r20
def f32_r24:List MO:=[Qa (Qv 73) (MOp.mkF (Go.Fn.func 58) [(Qn 3),(Qn 5),(Qn 9)]),Qa (Qv 10) (Qd (Qn 73))]
def f32_c24:MC:=.r0 f32_r24
def f32_r25:List MO:=[Qa (Qv 74) (Qg 0 (Qn 4)),Qa (Qv 75) (Qg 6 (Qn 74)),Qa (Qv 76) (Qf 1 false (Qn 75)),Qa (Qv 77) (Qk Qt (Qn 76)),Qa (Qv 78) (Qd (Qo (Qp (Qq (Qr Qu 0)))))]
def f32_c25:MC:=.r0 f32_r25
def f32_r26:List MO:=[Qa (Qv 79) (Qe Qt Go.BinOp.lss (Qn 78) (Qn 77))]
def f32_c26:MC:=.r0 f32_r26
def f32_r30:List MO:=[Qa (Qv 80) (Qj 7 (Qn 76) (Qn 78)),Qa (Qv 81) (Qf 7 true (Qn 80)),Qa (Qv 12) (MOp.alloc [(Qr Qu 0),(D.str (ByteArray.mk #[])),(Qr Qu 0),(Qr Qu 0),(D.str (ByteArray.mk #[])),(D.sl []),(D.sl [])]),Qa none (Ql 7 (Qn 12) (Qn 81))]
def f32_c30:MC:=.r0 f32_r30
def f32_r31:List MO:=[Qa (Qv 82) (Qd (Qn 10)),Qa (Qv 83) (Qf 7 true (Qn 12)),Qa (Qv 84) (MOp.callv (Qn 82) [(Qn 83)]),Qa (Qv 13) (Qd (Qn 84))]
def f32_c31:MC:=.r0 f32_r31
def f32_r32:List MO:=[Qa (Qv 85) (Qd (Qn 13)),Qa (Qv 86) (MOp.nilq NK.ifc true (Qn 85))]
def f32_c32:MC:=.r0 f32_r32
def f32_r33:List MO:=[Qa (Qv 87) (Qd (Qn 13)),Qa (Qv 6) (Qd (Qo (Qp (Qq (Qr Qu 0))))),Qa (Qv 7) (Qd (Qn 87))]
def f32_c33:MC:=.r0 f32_r33
def f32_c40:MC:=.seq f32_c30 (.seq f32_c31 (.seq f32_c32 (.cond (Qn 86) (.seq f32_c33 .ret) .skip)))
def f32_r42:List MO:=[Qa (Qv 88) (Qe Qt Go.BinOp.add (Qn 78) (Qo (Qp (Qq (Qr Qu 1))))),Qa (Qv 78) (Qd (Qn 88))]
def f32_c42:MC:=.r0 f32_r42
def f32_c48:MC:=.seq f32_c25 (.blk 0 (.loop (.seq f32_c26 (.seq (.cond (Qn 79) .skip (MC.exit 0)) (.seq (.blk 1 f32_c40) f32_c42)))))
def f32_r49:List MO:=[Qa (Qv 89) (Qf 1 false (Qn 9)),Qa (Qv 6) (Qd (Qn 89)),Qa (Qv 7) (Qd (Qo (Qp (Qq D.nilI))))]
def f32_c49:MC:=.r0 f32_r49
def f32_c54:MC:=.seq (.seq f32_c19 (.cond (Qn 64) f32_c20 .skip)) (.seq f32_c24 (.seq f32_c48 (.seq f32_c49 .ret)))
def f32_c57:MC:=.seq (.seq f32_c10 (.cond (Qn 24) (.seq f32_c11 .ret) .skip)) (.seq f32_c17 (.seq f32_c18 f32_c54))
def f32_c58:MC:=.seq (.seq f32_c1 (.seq f32_c2 (.cond (Qn 19) (.seq f32_c3 .ret) .skip))) f32_c57
def f32_c59:MC:=.seq f32_c0 f32_c58
attribute [go_sem] f32_r0 f32_r1 f32_r2 f32_r3 f32_r10 f32_r11 f32_r17 f32_r19 f32_r20 f32_r24 f32_r25 f32_r26 f32_r30 f32_r31 f32_r32 f32_r33 f32_r42 f32_r49
theorem f32_k : KK QP 32 f32 [2000,55,4] f32_c59 [(RV.t 6),(RV.t 7)] 90 := by refine ⟨func32,?_,?_,?_,?_⟩<;>kernel_rfl
theorem f32_ok : callable QP 32 = true := by kernel_rfl
theorem f32_tri (h : GT QP gp [(RV.t 6),(RV.t 7)] pre R 90 f32_c59 args) : Tri QP gp 32 args pre R := f32_k.t h
def f33_r0:List MO:=[Qa (Qv 2) (Qd (Qo (Qp (Qq (Qr Qu 0)))))]
def f33_c0:MC:=.r0 f33_r0
def f33_r1:List MO:=[Qa (Qv 3) (MOp.alloc [(Qr Qu 0)])]
def f33_c1:MC:=.r0 f33_r1
def f33_r2:List MO:=[Qa (Qv 4) (Qd (Qn 0)),Qa (Qv 5) (Qf 1 false (Qo (Qp (Qq (D.raw (Go.Value.pointer (Qv (Go.Addr.mk 0 0 none)))))))),Qa (Qv 6) (Qh 59 [(Qn 4),(Qn 5)]),Qa (Qv 7) (Qd (Qn 6)),Qb 7 true (Qv 8),Qa (Qv 8) (Qd (Qn 0)),Qb 7 true (Qv 9),Qa (Qv 9) (MOp.mkI 109 (Qn 3)),Qb 7 true (Qv 10),Qa (Qv 10) (Qh 60 [(Qn 8),(Qn 9)]),Qa (Qv 11) (Qm (Qn 7) (Qn 10) (Qo (Qp (Qq (Qs false)))))]
def f33_c2:MC:=.r0 f33_r2
def f33_r3:List MO:=[Qa (Qv 12) (Qg 0 (Qn 3)),Qa (Qv 13) (Qf 1 false (Qn 12)),Qa (Qv 2) (Qd (Qn 13))]
def f33_c3:MC:=.r0 f33_r3
def f33_r9:List MO:=[Qa (Qv 2) (Qd (Qo (Qp (Qq (Qr Qu 0)))))]
def f33_c9:MC:=.r0 f33_r9
def f33_c13:MC:=.seq f33_c1 (.seq (.seq f33_c2 (.cond (Qn 11) (.seq f33_c3 .ret) .skip)) (.seq f33_c9 .ret))
def f33_c14:MC:=.seq f33_c0 f33_c13
attribute [go_sem] f33_r0 f33_r1 f33_r2 f33_r3 f33_r9
theorem f33_k : KK QP 33 f33 [] f33_c14 [(RV.t 2)] 14 := by refine ⟨func33,?_,?_,?_,?_⟩<;>kernel_rfl
theorem f33_ok : callable QP 33 = true := by kernel_rfl
theorem f33_in (h : GI QP gp [(RV.t 2)] res 14 f33_c14 args) : Does QP gp 33 args res := f33_k.i f33_ok h
def f34_r0:List MO:=[Qa (Qv 1) (MOp.ibox (Qn 0)),Qa (Qv 2) (Qd (Qo (Qp (Qq D.nilF))))]
def f34_c0:MC:=.r0 f34_r0
def f34_r1:List MO:=[Qa (Qv 3) (MOp.mkF (Go.Fn.func 61) [(Qn 1)]),Qa (Qv 2) (Qd (Qn 3))]
def f34_c1:MC:=.r0 f34_r1
def f34_c4:MC:=.seq f34_c0 (.seq f34_c1 .ret)
attribute [go_sem] f34_r0 f34_r1
theorem f34_k : KK QP 34 f34 [1] f34_c4 [(RV.t 2)] 4 := by refine ⟨func34,?_,?_,?_,?_⟩<;>kernel_rfl
theorem f34_ok : callable QP 34 = true := by kernel_rfl
theorem f34_in (h : GI QP gp [(RV.t 2)] res 4 f34_c4 args) : Does QP gp 34 args res := f34_k.i f34_ok h
def f35_r0:List MO:=[Qa (Qv 2) (MOp.ibox (Qn 0)),Qa (Qv 3) (MOp.ibox (Qn 1)),Qa (Qv 4) (Qd (Qo (Qp (Qq (Qs false)))))]
def f35_c0:MC:=.r0 f35_r0
def f35_r1:List MO:=[Qa (Qv 5) (Qg 0 (Qn 2)),Qa (Qv 6) (Qf 1 false (Qn 5)),Qa (Qv 7) (Qg 0 (Qn 3)),Qa (Qv 8) (Qf 1 false (Qn 7)),Qa (Qv 9) (Qe Qt Go.BinOp.eql (Qn 6) (Qn 8)),Qa (Qv 10) (Qd (Qn 9)),Qb 10 true (Qv 11),Qa (Qv 11) (Qg 1 (Qn 2)),Qb 10 true (Qv 12),Qa (Qv 12) (Qf 3 true (Qn 11)),Qb 10 true (Qv 13),Qa (Qv 13) (Qg 1 (Qn 3)),Qb 10 true (Qv 14),Qa (Qv 14) (Qf 3 true (Qn 13)),Qb 10 true (Qv 15),Qa (Qv 15) (MOp.eqs false [Qt,Qt,Leaf.s] (Qn 12) (Qn 14)),Qa (Qv 16) (Qm (Qn 10) (Qn 15) (Qo (Qp (Qq (Qs false))))),Qa (Qv 17) (Qd (Qn 16)),Qb 17 true (Qv 18),Qa (Qv 18) (Qg 4 (Qn 2)),Qb 17 true (Qv 19),Qa (Qv 19) (Qf 1 false (Qn 18)),Qb 17 true (Qv 20),Qa (Qv 20) (Qg 4 (Qn 3)),Qb 17 true (Qv 21),Qa (Qv 21) (Qf 1 false (Qn 20)),Qb 17 true (Qv 22),Qa (Qv 22) (Qh 36 [(Qn 19),(Qn 21)]),Qa (Qv 23) (Qm (Qn 17) (Qn 22) (Qo (Qp (Qq (Qs false))))),Qa (Qv 24) (Qd (Qn 23)),Qb 24 true (Qv 25),Qa (Qv 25) (Qg 5 (Qn 2)),Qb 24 true (Qv 26),Qa (Qv 26) (Qf 1 false (Qn 25)),Qb 24 true (Qv 27),Qa (Qv 27) (Qg 5 (Qn 3)),Qb 24 true (Qv 28),Qa (Qv 28) (Qf 1 false (Qn 27)),Qb 24 true (Qv 29),Qa (Qv 29) (Qh 37 [(Qn 26),(Qn 28)]),Qa (Qv 30) (Qm (Qn 24) (Qn 29) (Qo (Qp (Qq (Qs false))))),Qa (Qv 4) (Qd (Qn 30))]
def f35_c1:MC:=.r0 f35_r1
def f35_c4:MC:=.seq f35_c0 (.seq f35_c1 .ret)
attribute [go_sem] f35_r0 f35_r1
theorem f35_k : KK QP 35 f35 [2,3] f35_c4 [(RV.t 4)] 31 := by refine ⟨func35,?_,?_,?_,?_⟩<;>kernel_rfl
theorem f35_ok : callable QP 35 = true := by kernel_rfl
theorem f35_in (h : GI QP gp [(RV.t 4)] res 31 f35_c4 args) : Does QP gp 35 args res := f35_k.i f35_ok h
def f36_r0:List MO:=[Qa (Qv 4) (Qd (Qo (Qp (Qq (Qs false)))))]
def f36_c0:MC:=.r0 f36_r0
def f36_r1:List MO:=[Qa (Qv 6) (Qd (Qn 0)),Qa (Qv 7) (Qk Qt (Qn 6)),Qa (Qv 8) (Qd (Qn 1)),Qa (Qv 9) (Qk Qt (Qn 8)),Qa (Qv 10) (Qe Qt Go.BinOp.neq (Qn 7) (Qn 9))]
def f36_c1:MC:=.r0 f36_r1
def f36_r2:List MO:=[Qa (Qv 4) (Qd (Qo (Qp (Qq (Qs false)))))]
def f36_c2:MC:=.r0 f36_r2
def f36_r8:List MO:=[Qa (Qv 11) (Qd (Qn 0)),Qa (Qv 12) (Qk Qt (Qn 11)),Qa (Qv 13) (Qd (Qo (Qp (Qq (Qr Qu 0)))))]
def f36_c8:MC:=.r0 f36_r8
def f36_r9:List MO:=[Qa (Qv 14) (Qe Qt Go.BinOp.lss (Qn 13) (Qn 12))]
def f36_c9:MC:=.r0 f36_r9
def f36_r13:List MO:=[Qa (Qv 15) (Qd (Qn 13)),Qa (Qv 5) (Qd (Qn 15))]
def f36_c13:MC:=.r0 f36_r13
def f36_r14:List MO:=[Qa (Qv 16) (Qd (Qn 0)),Qa (Qv 17) (Qd (Qn 5)),Qa (Qv 18) (Qj 3 (Qn 16) (Qn 17)),Qa (Qv 19) (Qf 3 true (Qn 18)),Qa (Qv 20) (Qd (Qn 1)),Qa (Qv 21) (Qd (Qn 5)),Qa (Qv 22) (Qj 3 (Qn 20) (Qn 21)),Qa (Qv 23) (Qf 3 true (Qn 22)),Qa (Qv 24) (MOp.eqs true [Qt,Qt,Leaf.s] (Qn 19) (Qn 23))]
def f36_c14:MC:=.reg true f36_r14
def f36_r15:List MO:=[Qa (Qv 4) (Qd (Qo (Qp (Qq (Qs false)))))]
def f36_c15:MC:=.r0 f36_r15
def f36_r23:List MO:=[Qa (Qv 25) (Qe Qt Go.BinOp.add (Qn 13) (Qo (Qp (Qq (Qr Qu 1))))),Qa (Qv 13) (Qd (Qn 25))]
def f36_c23:MC:=.r0 f36_r23
def f36_c24:MC:=.seq (.blk 1 (.seq f36_c13 (.seq f36_c14 (.cond (Qn 24) (.seq f36_c15 .ret) .skip)))) f36_c23
def f36_r30:List MO:=[Qa (Qv 4) (Qd (Qo (Qp (Qq (Qs true)))))]
def f36_c30:MC:=.r0 f36_r30
def f36_c33:MC:=.seq (.seq f36_c8 (.blk 0 (.loop (.seq f36_c9 (.seq (.cond (Qn 14) .skip (MC.exit 0)) f36_c24))))) (.seq f36_c30 .ret)
def f36_c35:MC:=.seq f36_c0 (.seq (.seq f36_c1 (.cond (Qn 10) (.seq f36_c2 .ret) .skip)) f36_c33)
attribute [go_sem] f36_r0 f36_r1 f36_r2 f36_r8 f36_r9 f36_r13 f36_r14 f36_r15 f36_r23 f36_r30
theorem f36_k : KK QP 36 f36 [] f36_c35 [(RV.t 4)] 26 := by refine ⟨func36,?_,?_,?_,?_⟩<;>kernel_rfl
theorem f36_ok : callable QP 36 = true := by kernel_rfl
theorem f36_in (h : GI QP gp [(RV.t 4)] res 26 f36_c35 args) : Does QP gp 36 args res := f36_k.i f36_ok h
def f37_r0:List MO:=[Qa (Qv 4) (Qd (Qo (Qp (Qq (Qs false)))))]
def f37_c0:MC:=.r0 f37_r0
def f37_r1:List MO:=[Qa (Qv 6) (Qd (Qn 0)),Qa (Qv 7) (Qk Qt (Qn 6)),Qa (Qv 8) (Qd (Qn 1)),Qa (Qv 9) (Qk Qt (Qn 8)),Qa (Qv 10) (Qe Qt Go.BinOp.neq (Qn 7) (Qn 9))]
def f37_c1:MC:=.r0 f37_r1
def f37_r2:List MO:=[Qa (Qv 4) (Qd (Qo (Qp (Qq (Qs false)))))]
def f37_c2:MC:=.r0 f37_r2
def f37_r8:List MO:=[Qa (Qv 11) (Qd (Qn 0)),Qa (Qv 12) (Qk Qt (Qn 11)),Qa (Qv 13) (Qd (Qo (Qp (Qq (Qr Qu 0)))))]
def f37_c8:MC:=.r0 f37_r8
def f37_r9:List MO:=[Qa (Qv 14) (Qe Qt Go.BinOp.lss (Qn 13) (Qn 12))]
def f37_c9:MC:=.r0 f37_r9
def f37_r13:List MO:=[Qa (Qv 15) (Qd (Qn 13)),Qa (Qv 5) (Qd (Qn 15))]
def f37_c13:MC:=.r0 f37_r13
def f37_r14:List MO:=[Qa (Qv 16) (Qd (Qn 0)),Qa (Qv 17) (Qd (Qn 5)),Qa (Qv 18) (Qj 1 (Qn 16) (Qn 17)),Qa (Qv 19) (Qf 1 false (Qn 18)),Qa (Qv 20) (Qd (Qn 1)),Qa (Qv 21) (Qd (Qn 5)),Qa (Qv 22) (Qj 1 (Qn 20) (Qn 21)),Qa (Qv 23) (Qf 1 false (Qn 22)),Qa (Qv 24) (Qe Qt Go.BinOp.neq (Qn 19) (Qn 23))]
def f37_c14:MC:=.reg true f37_r14
def f37_r15:List MO:=[Qa (Qv 4) (Qd (Qo (Qp (Qq (Qs false)))))]
def f37_c15:MC:=.r0 f37_r15
def f37_r23:List MO:=[Qa (Qv 25) (Qe Qt Go.BinOp.add (Qn 13) (Qo (Qp (Qq (Qr Qu 1))))),Qa (Qv 13) (Qd (Qn 25))]
def f37_c23:MC:=.r0 f37_r23
def f37_c24:MC:=.seq (.blk 1 (.seq f37_c13 (.seq f37_c14 (.cond (Qn 24) (.seq f37_c15 .ret) .skip)))) f37_c23
def f37_r30:List MO:=[Qa (Qv 4) (Qd (Qo (Qp (Qq (Qs true)))))]
def f37_c30:MC:=.r0 f37_r30
def f37_c33:MC:=.seq (.seq f37_c8 (.blk 0 (.loop (.seq f37_c9 (.seq (.cond (Qn 14) .skip (MC.exit 0)) f37_c24))))) (.seq f37_c30 .ret)
def f37_c35:MC:=.seq f37_c0 (.seq (.seq f37_c1 (.cond (Qn 10) (.seq f37_c2 .ret) .skip)) f37_c33)
attribute [go_sem] f37_r0 f37_r1 f37_r2 f37_r8 f37_r9 f37_r13 f37_r14 f37_r15 f37_r23 f37_r30
theorem f37_k : KK QP 37 f37 [] f37_c35 [(RV.t 4)] 26 := by refine ⟨func37,?_,?_,?_,?_⟩<;>kernel_rfl
theorem f37_ok : callable QP 37 = true := by kernel_rfl
theorem f37_in (h : GI QP gp [(RV.t 4)] res 26 f37_c35 args) : Does QP gp 37 args res := f37_k.i f37_ok h
def f38_r0:List MO:=[Qa (Qv 6) (Qd (Qo (Qp (Qq (Qs false)))))]
def f38_c0:MC:=.r0 f38_r0
def f38_r1:List MO:=[Qa (Qv 10) (Qd (Qn 0)),Qa (Qv 11) (Qk Qt (Qn 10)),Qa (Qv 12) (Qd (Qn 1)),Qa (Qv 13) (Qk Qt (Qn 12)),Qa (Qv 14) (Qe Qt Go.BinOp.neq (Qn 11) (Qn 13))]
def f38_c1:MC:=.r0 f38_r1
def f38_r2:List MO:=[Qa (Qv 6) (Qd (Qo (Qp (Qq (Qs false)))))]
def f38_c2:MC:=.r0 f38_r2
def f38_r8:List MO:=[Qa (Qv 15) (Qd (Qn 0)),Qa (Qv 16) (Qk Qt (Qn 15)),Qa (Qv 17) (Qd (Qo (Qp (Qq (Qr Qu 0)))))]
def f38_c8:MC:=.r0 f38_r8
def f38_r9:List MO:=[Qa (Qv 18) (Qe Qt Go.BinOp.lss (Qn 17) (Qn 16))]
def f38_c9:MC:=.r0 f38_r9
def f38_r13:List MO:=[Qa (Qv 19) (Qd (Qn 17)),Qa (Qv 20) (Qj 6 (Qn 15) (Qn 17)),Qa (Qv 21) (Qf 6 true (Qn 20)),Qa (Qv 8) (MOp.alloc [(Qr Qu 0),(Qr Qu 0),(Qr Qu 0),(D.str (ByteArray.mk #[])),(D.sl []),(D.sl [])]),Qa (Qv 7) (Qd (Qn 19)),Qa none (Ql 6 (Qn 8) (Qn 21))]
def f38_c13:MC:=.r0 f38_r13
def f38_r14:List MO:=[Qa (Qv 22) (Qd (Qn 1)),Qa (Qv 23) (Qd (Qn 7)),Qa (Qv 24) (Qj 6 (Qn 22) (Qn 23)),Qa (Qv 25) (Qf 6 true (Qn 24)),Qa (Qv 9) (MOp.alloc [(Qr Qu 0),(Qr Qu 0),(Qr Qu 0),(D.str (ByteArray.mk #[])),(D.sl []),(D.sl [])]),Qa none (Ql 6 (Qn 9) (Qn 25))]
def f38_c14:MC:=.r0 f38_r14
def f38_r15:List MO:=[Qa (Qv 26) (Qd (Qn 2)),Qa (Qv 27) (Qf 6 true (Qn 8)),Qa (Qv 28) (Qf 6 true (Qn 9)),Qa (Qv 29) (MOp.callv (Qn 26) [(Qn 27),(Qn 28)]),Qa (Qv 30) (MOp.not (Qn 29))]
def f38_c15:MC:=.r0 f38_r15
def f38_r16:List MO:=[Qa (Qv 6) (Qd (Qo (Qp (Qq (Qs false)))))]
def f38_c16:MC:=.r0 f38_r16
def f38_c23:MC:=.seq f38_c13 (.seq f38_c14 (.seq f38_c15 (.cond (Qn 30) (.seq f38_c16 .ret) .skip)))
def f38_r25:List MO:=[Qa (Qv 31) (Qe Qt Go.BinOp.add (Qn 17) (Qo (Qp (Qq (Qr Qu 1))))),Qa (Qv 17) (Qd (Qn 31))]
def f38_c25:MC:=.r0 f38_r25
def f38_c31:MC:=.seq f38_c8 (.blk 0 (.loop (.seq f38_c9 (.seq (.cond (Qn 18) .skip (MC.exit 0)) (.seq (.blk 1 f38_c23) f38_c25)))))
def f38_r32:List MO:=[Qa (Qv 6) (Qd (Qo (Qp (Qq (Qs true)))))]
def f38_c32:MC:=.r0 f38_r32
def f38_c36:MC:=.seq (.seq f38_c1 (.cond (Qn 14) (.seq f38_c2 .ret) .skip)) (.seq f38_c31 (.seq f38_c32 .ret))
def f38_c37:MC:=.seq f38_c0 f38_c36
attribute [go_sem] f38_r0 f38_r1 f38_r2 f38_r8 f38_r9 f38_r13 f38_r14 f38_r15 f38_r16 f38_r25 f38_r32
theorem f38_k : KK QP 38 f38 [] f38_c37 [(RV.t 6)] 32 := by refine ⟨func38,?_,?_,?_,?_⟩<;>kernel_rfl
theorem f38_ok : callable QP 38 = true := by kernel_rfl
theorem f38_in (h : GI QP gp [(RV.t 6)] res 32 f38_c37 args) : Does QP gp 38 args res := f38_k.i f38_ok h
def f39_r0:List MO:=[Qa (Qv 2) (MOp.ibox (Qn 0)),Qa (Qv 4) (MOp.alloc [(Qr Qu 0),(D.str (ByteArray.mk #[])),(Qr Qu 0),(Qr Qu 0),(D.str (ByteArray.mk #[])),(D.sl []),(D.sl [])])]
def f39_c0:MC:=.r0 f39_r0
def f39_r1:List MO:=[Qa (Qv 8) (Qg 0 (Qn 2)),Qa (Qv 9) (Qf 1 false (Qn 8)),Qa (Qv 10) (Qg 1 (Qn 2)),Qa (Qv 11) (Qf 1 false (Qn 10)),Qa (Qv 12) (Qh 63 [(Qn 11)]),Qa (Qv 13) (Qg 2 (Qn 2)),Qa (Qv 14) (Qf 3 true (Qn 13)),Qa (Qv 15) (Qh 64 [(Qn 14)]),Qa (Qv 16) (MOp.build [(Qr Qu 0),(D.str (ByteArray.mk #[])),(Qr Qu 0),(Qr Qu 0),(D.str (ByteArray.mk #[])),(D.sl []),(D.sl [])] [(0,(1,(Qn 9))),(1,(1,(Qn 12))),(2,(3,(Qn 15)))]),Qa (Qv 5) (MOp.alloc [(Qr Qu 0),(D.str (ByteArray.mk #[])),(Qr Qu 0),(Qr Qu 0),(D.str (ByteArray.mk #[])),(D.sl []),(D.sl [])]),Qa none (Ql 7 (Qn 5) (Qn 16))]
def f39_c1:MC:=.reg true f39_r1
def f39_r2:List MO:=[Qa (Qv 6) (Qd (Qo (Qp (Qq (Qr Qu 0)))))]
def f39_c2:MC:=.r0 f39_r2
def f39_r3:List MO:=[Qa (Qv 17) (Qd (Qn 6)),Qa (Qv 18) (Qg 5 (Qn 2)),Qa (Qv 19) (Qf 1 false (Qn 18)),Qa (Qv 20) (Qk Qt (Qn 19)),Qa (Qv 21) (Qe Qt Go.BinOp.lss (Qn 17) (Qn 20)),Qa (Qv 22) (Qd (Qn 21)),Qb 22 true (Qv 23),Qa (Qv 23) (Qd (Qn 6)),Qb 22 true (Qv 24),Qa (Qv 24) (Qe Qt Go.BinOp.lss (Qn 23) (Qo (Qp (Qq (Qr Qu 8))))),Qa (Qv 25) (Qm (Qn 22) (Qn 24) (Qo (Qp (Qq (Qs false)))))]
def f39_c3:MC:=.r0 f39_r3
def f39_r8:List MO:=[Qa (Qv 28) (Qg 5 (Qn 5)),Qa (Qv 29) (Qf 1 false (Qn 28)),Qa (Qv 30) (Qg 5 (Qn 2)),Qa (Qv 31) (Qf 1 false (Qn 30)),Qa (Qv 32) (Qd (Qn 6)),Qa (Qv 33) (Qj 3 (Qn 31) (Qn 32)),Qa (Qv 34) (Qf 3 true (Qn 33)),Qa (Qv 35) (Qh 64 [(Qn 34)]),Qa (Qv 36) (MOp.bslice 3 [(Qr Qu 0),(Qr Qu 0),(D.str (ByteArray.mk #[]))] 1 [(0,(Qn 35))]),Qa (Qv 37) (MOp.app 28 3 32 (Qn 29) (Qn 36)),Qa (Qv 38) (Qg 5 (Qn 5)),Qa none (Ql 1 (Qn 38) (Qn 37))]
def f39_c8:MC:=.reg true f39_r8
def f39_r10:List MO:=[Qa (Qv 26) (Qd (Qn 6)),Qa (Qv 27) (Qe Qt Go.BinOp.add (Qn 26) (Qo (Qp (Qq (Qr Qu 1))))),Qa (Qv 6) (Qd (Qn 27))]
def f39_c10:MC:=.r0 f39_r10
def f39_c15:MC:=.seq f39_c2 (.blk 0 (.loop (.seq (.seq f39_c3 (.cond (Qn 25) .skip (MC.exit 0))) (.seq (.blk 1 f39_c8) f39_c10))))
def f39_r16:List MO:=[Qa (Qv 7) (Qd (Qo (Qp (Qq (Qr Qu 0)))))]
def f39_c16:MC:=.r0 f39_r16
def f39_r17:List MO:=[Qa (Qv 39) (Qd (Qn 7)),Qa (Qv 40) (Qg 6 (Qn 2)),Qa (Qv 41) (Qf 1 false (Qn 40)),Qa (Qv 42) (Qk Qt (Qn 41)),Qa (Qv 43) (Qe Qt Go.BinOp.lss (Qn 39) (Qn 42)),Qa (Qv 44) (Qd (Qn 43)),Qb 44 true (Qv 45),Qa (Qv 45) (Qd (Qn 7)),Qb 44 true (Qv 46),Qa (Qv 46) (Qe Qt Go.BinOp.lss (Qn 45) (Qo (Qp (Qq (Qr Qu 8))))),Qa (Qv 47) (Qm (Qn 44) (Qn 46) (Qo (Qp (Qq (Qs false))))),Qa (Qv 48) (Qd (Qn 47)),Qb 48 true (Qv 49),Qa (Qv 49) (Qd (Qn 1)),Qb 48 true (Qv 50),Qa (Qv 50) (Qe Qt Go.BinOp.gtr (Qn 49) (Qo (Qp (Qq (Qr Qu 1))))),Qa (Qv 51) (Qm (Qn 48) (Qn 50) (Qo (Qp (Qq (Qs false)))))]
def f39_c17:MC:=.r0 f39_r17
def f39_r22:List MO:=[Qa (Qv 54) (Qg 6 (Qn 5)),Qa (Qv 55) (Qf 1 false (Qn 54)),Qa (Qv 56) (Qg 6 (Qn 2)),Qa (Qv 57) (Qf 1 false (Qn 56)),Qa (Qv 58) (Qd (Qn 7)),Qa (Qv 59) (Qj 7 (Qn 57) (Qn 58)),Qa (Qv 60) (Qf 7 true (Qn 59)),Qa (Qv 61) (Qd (Qn 1)),Qa (Qv 62) (Qe Qt Go.BinOp.sub (Qn 61) (Qo (Qp (Qq (Qr Qu 1))))),Qa (Qv 63) (Qh 39 [(Qn 60),(Qn 62)]),Qa (Qv 64) (MOp.bslice 7 [(Qr Qu 0),(D.str (ByteArray.mk #[])),(Qr Qu 0),(Qr Qu 0),(D.str (ByteArray.mk #[])),(D.sl []),(D.sl [])] 1 [(0,(Qn 63))]),Qa (Qv 65) (MOp.app 32 7 104 (Qn 55) (Qn 64)),Qa (Qv 66) (Qg 6 (Qn 5)),Qa none (Ql 1 (Qn 66) (Qn 65))]
def f39_c22:MC:=.reg true f39_r22
def f39_r24:List MO:=[Qa (Qv 52) (Qd (Qn 7)),Qa (Qv 53) (Qe Qt Go.BinOp.add (Qn 52) (Qo (Qp (Qq (Qr Qu 1))))),Qa (Qv 7) (Qd (Qn 53))]
def f39_c24:MC:=.r0 f39_r24
def f39_c29:MC:=.seq f39_c16 (.blk 2 (.loop (.seq (.seq f39_c17 (.cond (Qn 51) .skip (MC.exit 2))) (.seq (.blk 3 f39_c22) f39_c24))))
def f39_r30:List MO:=[Qa (Qv 67) (Qf 7 true (Qn 5)),Qa none (Ql 7 (Qn 4) (Qn 67))]
def f39_c30:MC:=.r0 f39_r30
def f39_c35:MC:=.seq f39_c1 (.seq f39_c15 (.seq f39_c29 (.seq f39_c30 .ret)))
def f39_c36:MC:=.seq f39_c0 f39_c35
attribute [go_sem] f39_r0 f39_r1 f39_r2 f39_r3 f39_r8 f39_r10 f39_r16 f39_r17 f39_r22 f39_r24 f39_r30
theorem f39_k : KK QP 39 f39 [2] f39_c36 [(RV.cell 4 7 true)] 68 := by refine ⟨func39,?_,?_,?_,?_⟩<;>kernel_rfl
theorem f39_ok : callable QP 39 = true := by kernel_rfl
theorem f39_in (h : GI QP gp [(RV.cell 4 7 true)] res 68 f39_c36 args) : Does QP gp 39 args res := f39_k.i f39_ok h
def f40_r0:List MO:=[Qa (Qv 2) (Qd (Qo (Qp (Qq (Qs false)))))]
def f40_c0:MC:=.r0 f40_r0
def f40_r1:List MO:=[Qa (Qv 7) (Qd (Qn 0)),Qa (Qv 8) (MOp.rng (Qn 7))]
def f40_c1:MC:=.r0 f40_r1
def f40_r2:List MO:=[Qa (Qv 9) (MOp.nxt (Qn 8)),Qa (Qv 10) (Qi (Qn 9) 0)]
def f40_c2:MC:=.r0 f40_r2
def f40_r6:List MO:=[Qa (Qv 11) (Qi (Qn 9) 1),Qa (Qv 12) (Qi (Qn 9) 2),Qa (Qv 3) (Qd (Qn 11)),Qa (Qv 4) (Qd (Qn 12))]
def f40_c6:MC:=.r0 f40_r6
def f40_r7:List MO:=[Qa (Qv 14) (Qd (Qn 0)),Qa (Qv 15) (Qd (Qn 3)),Qa (Qv 16) (MOp.slcS (Qn 14) (Qv (Qn 15)) none),Qa (Qv 17) (Qh 65 [(Qn 16)]),Qa (Qv 13) (Qd (Qn 17)),Qa (Qv 18) (Qi (Qn 13) 0),Qa (Qv 19) (Qi (Qn 13) 1),Qa (Qv 5) (Qd (Qn 18)),Qa (Qv 6) (Qd (Qn 19))]
def f40_c7:MC:=.r0 f40_r7
def f40_r8:List MO:=[Qa (Qv 20) (Qd (Qn 4)),Qa (Qv 21) (Qe Qt Go.BinOp.eql (Qn 20) (Qo (Qp (Qq (Qr Go.IntKind.i32 65533))))),Qa (Qv 22) (Qd (Qn 21)),Qb 22 true (Qv 23),Qa (Qv 23) (Qd (Qn 6)),Qb 22 true (Qv 24),Qa (Qv 24) (Qe Qt Go.BinOp.eql (Qn 23) (Qo (Qp (Qq (Qr Qu 1))))),Qa (Qv 25) (Qm (Qn 22) (Qn 24) (Qo (Qp (Qq (Qs false)))))]
def f40_c8:MC:=.r0 f40_r8
def f40_r9:List MO:=[Qa (Qv 2) (Qd (Qo (Qp (Qq (Qs false)))))]
def f40_c9:MC:=.r0 f40_r9
def f40_c16:MC:=.seq f40_c6 (.seq f40_c7 (.seq f40_c8 (.cond (Qn 25) (.seq f40_c9 .ret) .skip)))
def f40_r23:List MO:=[Qa (Qv 2) (Qd (Qo (Qp (Qq (Qs true)))))]
def f40_c23:MC:=.r0 f40_r23
def f40_c26:MC:=.seq (.seq f40_c1 (.blk 0 (.loop (.seq f40_c2 (.seq (.cond (Qn 10) .skip (MC.exit 0)) (.blk 1 f40_c16)))))) (.seq f40_c23 .ret)
def f40_c27:MC:=.seq f40_c0 f40_c26
attribute [go_sem] f40_r0 f40_r1 f40_r2 f40_r6 f40_r7 f40_r8 f40_r9 f40_r23
theorem f40_k : KK QP 40 f40 [] f40_c27 [(RV.t 2)] 26 := by refine ⟨func40,?_,?_,?_,?_⟩<;>kernel_rfl
theorem f40_ok : callable QP 40 = true := by kernel_rfl
theorem f40_in (h : GI QP gp [(RV.t 2)] res 26 f40_c27 args) : Does QP gp 40 args res := f40_k.i f40_ok h
def f41_r0:List MO:=[Qa (Qv 2) (Qd (Qo (Qp (Qq (Qr Qu 0))))),Qa (Qv 3) (Qd (Qo (Qp (Qq (Qr Qu 0)))))]
def f41_c0:MC:=.r0 f41_r0
def f41_r1:List MO:=[Qa (Qv 4) (MOp.alloc [(Qr Qu 0),(Qr Qu 0)])]
def f41_c1:MC:=.r0 f41_r1
def f41_r2:List MO:=[Qa (Qv 5) (Qd (Qn 0)),Qa (Qv 6) (MOp.mkI 119 (Qn 4)),Qa (Qv 7) (Qh 60 [(Qn 5),(Qn 6)])]
def f41_c2:MC:=.r0 f41_r2
def f41_r3:List MO:=[Qa (Qv 8) (Qg 0 (Qn 4)),Qa (Qv 9) (Qf 1 false (Qn 8)),Qa (Qv 10) (Qg 1 (Qn 4)),Qa (Qv 11) (Qf 1 false (Qn 10)),Qa (Qv 2) (Qd (Qn 9)),Qa (Qv 3) (Qd (Qn 11))]
def f41_c3:MC:=.reg true f41_r3
def f41_r9:List MO:=[Qa (Qv 2) (Qd (Qo (Qp (Qq (Qr Qu 0))))),Qa (Qv 3) (Qd (Qo (Qp (Qq (Qr Qu 0)))))]
def f41_c9:MC:=.r0 f41_r9
def f41_c13:MC:=.seq f41_c1 (.seq (.seq f41_c2 (.cond (Qn 7) (.seq f41_c3 .ret) .skip)) (.seq f41_c9 .ret))
def f41_c14:MC:=.seq f41_c0 f41_c13
attribute [go_sem] f41_r0 f41_r1 f41_r2 f41_r3 f41_r9
theorem f41_k : KK QP 41 f41 [] f41_c14 [(RV.t 2),(RV.t 3)] 12 := by refine ⟨func41,?_,?_,?_,?_⟩<;>kernel_rfl
theorem f41_ok : callable QP 41 = true := by kernel_rfl
theorem f41_in (h : GI QP gp [(RV.t 2),(RV.t 3)] res 12 f41_c14 args) : Does QP gp 41 args res := f41_k.i f41_ok h
def f42_r0:List MO:=[Qa (Qv 1) (MOp.ibox (Qn 0)),Qa (Qv 2) (MOp.alloc [D.nilI])]
def f42_c0:MC:=.r0 f42_r0
def f42_r1:List MO:=[Qa (Qv 6) (Qg 1 (Qn 1)),Qa (Qv 7) (Qf 1 false (Qn 6)),Qa (Qv 8) (Qk Qt (Qn 7)),Qa (Qv 9) (Qe Qt Go.BinOp.gtr (Qn 8) (Qo (Qp (Qq (Qr Qu 200))))),Qa (Qv 5) (Qd (Qn 9))]
def f42_c1:MC:=.r0 f42_r1
def f42_r2:List MO:=[Qa (Qv 10) (MOp.build [(Qr Qu 0),(Qr Qu 0)] [(0,(1,(Qo (Qp (Qq (Qr Qu 0)))))),(1,(1,(Qo (Qp (Qq (Qr Qu 71))))))]),Qa (Qv 11) (MOp.mkI 118 (Qn 10)),Qa none (Ql 1 (Qn 2) (Qn 11))]
def f42_c2:MC:=.r0 f42_r2
def f42_r5:List MO:=[Qa (Qv 13) (Qf 2 true (Qn 1)),Qa (Qv 14) (Qg 0 (Qn 1)),Qa (Qv 15) (Qf 1 false (Qn 14)),Qa (Qv 16) (Qh 66 [(Qn 13),(Qn 15)]),Qa (Qv 17) (MOp.not (Qn 16)),Qa (Qv 12) (Qd (Qn 17))]
def f42_c5:MC:=.r0 f42_r5
def f42_r6:List MO:=[Qa (Qv 18) (MOp.build [(Qr Qu 0),(Qr Qu 0)] [(0,(1,(Qo (Qp (Qq (Qr Qu (-1))))))),(1,(1,(Qo (Qp (Qq (Qr Qu 70))))))]),Qa (Qv 19) (MOp.mkI 118 (Qn 18)),Qa none (Ql 1 (Qn 2) (Qn 19))]
def f42_c6:MC:=.r0 f42_r6
def f42_c13:MC:=.seq f42_c1 (.cond (Qn 5) (.seq f42_c2 .ret) (.seq f42_c5 (.cond (Qn 12) (.seq f42_c6 .ret) .skip)))
def f42_r15:List MO:=[Qa (Qv 20) (Qf 2 true (Qn 1)),Qa (Qv 21) (Qh 67 [(Qn 20)])]
def f42_c15:MC:=.r0 f42_r15
def f42_r16:List MO:=[Qa (Qv 3) (Qd (Qn 22))]
def f42_c16:MC:=.r0 f42_r16
def f42_r17:List MO:=[Qa (Qv 4) (MOp.alloc [(Qr Qu 0),(Qr Qu 0),(Qr Qu 0),(D.str (ByteArray.mk #[])),(D.sl []),(D.sl []),(Qr Qu 0)]),Qa none (Ql 7 (Qn 4) (Qn 23))]
def f42_c17:MC:=.r0 f42_r17
def f42_r19:List MO:=[Qa (Qv 24) (Qf 7 true (Qn 4)),Qa (Qv 25) (Qh 68 [(Qn 24)]),Qa (Qv 26) (MOp.not (Qn 25))]
def f42_c19:MC:=.r0 f42_r19
def f42_r20:List MO:=[Qa (Qv 27) (Qd (Qn 3)),Qa (Qv 28) (MOp.build [(Qr Qu 0),(Qr Qu 0)] [(0,(1,(Qn 27))),(1,(1,(Qo (Qp (Qq (Qr Qu 70))))))]),Qa (Qv 29) (MOp.mkI 118 (Qn 28)),Qa none (Ql 1 (Qn 2) (Qn 29))]
def f42_c20:MC:=.r0 f42_r20
def f42_c27:MC:=.rf (Qn 21) [22,23] (.seq f42_c16 f42_c17) (.blk 2 (.seq f42_c19 (.cond (Qn 26) (.seq f42_c20 .ret) .skip)))
def f42_r30:List MO:=[Qa none (Ql 1 (Qn 2) (Qo (Qp (Qq D.nilI))))]
def f42_c30:MC:=.r0 f42_r30
def f42_c34:MC:=.seq (.blk 0 f42_c13) (.seq (.seq f42_c15 (.blk 1 f42_c27)) (.seq f42_c30 .ret))
def f42_c35:MC:=.seq f42_c0 f42_c34
attribute [go_sem] f42_r0 f42_r1 f42_r2 f42_r5 f42_r6 f42_r15 f42_r16 f42_r17 f42_r19 f42_r20 f42_r30
theorem f42_k : KK QP 42 f42 [1] f42_c35 [(RV.cell 2 1 false)] 30 := by refine ⟨func42,?_,?_,?_,?_⟩<;>kernel_rfl
theorem f42_ok : callable QP 42 = true := by kernel_rfl
theorem f42_in (h : GI QP gp [(RV.cell 2 1 false)] res 30 f42_c35 args) : Does QP gp 42 args res := f42_k.i f42_ok h
def f49_r0:List MO:=[Qa (Qv 2) (MOp.ibox (Qn 0)),Qa (Qv 4) (Qd (Qo (Qp A.nil))),Qa (Qv 5) (Qd (Qo (Qp (Qq (Qr Qu 0)))))]
def f49_c0:MC:=.r0 f49_r0
def f49_r1:List MO:=[Qa (Qv 12) (Qf 2 true (Qn 2)),Qa (Qv 13) (Qd (Qn 1)),Qa (Qv 14) (Qh 74 [(Qn 12),(Qn 13)]),Qa (Qv 11) (Qd (Qn 14)),Qa (Qv 15) (Qi (Qn 11) 0),Qa (Qv 16) (Qi (Qn 11) 1),Qa (Qv 6) (MOp.alloc [(Qr Qu 0),(Qr Qu 0),(Qr Qu 0),(D.str (ByteArray.mk #[])),(D.sl []),(D.sl []),(Qr Qu 0)]),Qa none (Ql 7 (Qn 6) (Qn 15)),Qa (Qv 7) (Qd (Qn 16))]
def f49_c1:MC:=.r0 f49_r1
def f49_r2:List MO:=[Qa (Qv 8) (Qd (Qo (Qp A.nil)))]
def f49_c2:MC:=.r0 f49_r2
def f49_r3:List MO:=[Qa (Qv 17) (Qf 7 true (Qn 6)),Qa (Qv 18) (Qh 75 [(Qn 17)]),Qa (Qv 19) (Qk Qt (Qn 18)),Qa (Qv 20) (Qd (Qo (Qp (Qq (Qr Qu 0)))))]
def f49_c3:MC:=.r0 f49_r3
def f49_r4:List MO:=[Qa (Qv 21) (Qe Qt Go.BinOp.lss (Qn 20) (Qn 19))]
def f49_c4:MC:=.r0 f49_r4
def f49_r8:List MO:=[Qa (Qv 22) (Qj 4 (Qn 18) (Qn 20)),Qa (Qv 23) (Qf 4 true (Qn 22)),Qa (Qv 10) (MOp.alloc [(Qr Qu 0),(Qr Qu 0),(D.str (ByteArray.mk #[])),(Qr Qu 0)]),Qa none (Ql 4 (Qn 10) (Qn 23))]
def f49_c8:MC:=.r0 f49_r8
def f49_r9:List MO:=[Qa (Qv 24) (Qd (Qn 8)),Qa (Qv 25) (Qg 0 (Qn 10)),Qa (Qv 26) (Qf 3 true (Qn 25)),Qa (Qv 27) (MOp.bslice 3 [(Qr Qu 0),(Qr Qu 0),(D.str (ByteArray.mk #[]))] 1 [(0,(Qn 26))]),Qa (Qv 28) (MOp.app 28 3 32 (Qn 24) (Qn 27)),Qa (Qv 8) (Qd (Qn 28))]
def f49_c9:MC:=.r0 f49_r9
def f49_r12:List MO:=[Qa (Qv 29) (Qe Qt Go.BinOp.add (Qn 20) (Qo (Qp (Qq (Qr Qu 1))))),Qa (Qv 20) (Qd (Qn 29))]
def f49_c12:MC:=.r0 f49_r12
def f49_c15:MC:=.seq f49_c4 (.seq (.cond (Qn 21) .skip (MC.exit 0)) (.seq (.blk 1 (.seq f49_c8 f49_c9)) f49_c12))
def f49_r19:List MO:=[Qa (Qv 30) (Qd (Qn 8)),Qa (Qv 31) (Qd (Qn 7)),Qa (Qv 4) (Qd (Qn 30)),Qa (Qv 5) (Qd (Qn 31))]
def f49_c19:MC:=.r0 f49_r19
def f49_c23:MC:=.seq f49_c2 (.seq (.seq f49_c3 (.blk 0 (.loop f49_c15))) (.seq f49_c19 .ret))
def f49_c25:MC:=.seq f49_c0 (.seq f49_c1 f49_c23)
theorem f49_k : KK QP 49 f49 [2] f49_c25 [(RV.t 4),(RV.t 5)] 32 := by refine ⟨func49,?_,?_,?_,?_⟩<;>kernel_rfl
theorem f49_ok : callable QP 49 = true := by kernel_rfl
theorem f49_in (h : GI QP gp [(RV.t 4),(RV.t 5)] res 32 f49_c25 args) : Does QP gp 49 args res := f49_k.i f49_ok h
def f50_r0:List MO:=[Qa (Qv 2) (MOp.ibox (Qn 0)),Qa (Qv 4) (Qd (Qo (Qp A.nil))),Qa (Qv 5) (Qd (Qo (Qp (Qq (Qr Qu 0)))))]
def f50_c0:MC:=.r0 f50_r0
def f50_r1:List MO:=[Qa (Qv 12) (Qf 2 true (Qn 2)),Qa (Qv 13) (Qd (Qn 1)),Qa (Qv 14) (Qh 74 [(Qn 12),(Qn 13)]),Qa (Qv 11) (Qd (Qn 14)),Qa (Qv 15) (Qi (Qn 11) 0),Qa (Qv 16) (Qi (Qn 11) 1),Qa (Qv 6) (MOp.alloc [(Qr Qu 0),(Qr Qu 0),(Qr Qu 0),(D.str (ByteArray.mk #[])),(D.sl []),(D.sl []),(Qr Qu 0)]),Qa none (Ql 7 (Qn 6) (Qn 15)),Qa (Qv 7) (Qd (Qn 16))]
def f50_c1:MC:=.r0 f50_r1
def f50_r2:List MO:=[Qa (Qv 17) (Qd (Qn 7)),Qa (Qv 18) (Qe Qt Go.BinOp.eql (Qn 17) (Qo (Qp (Qq (Qr Qu 0))))),Qa (Qv 19) (Qd (Qn 18)),Qb 19 true (Qv 20),Qa (Qv 20) (Qg 0 (Qn 6)),Qb 19 true (Qv 21),Qa (Qv 21) (Qg 0 (Qn 20)),Qb 19 true (Qv 22),Qa (Qv 22) (Qf 1 false (Qn 21)),Qb 19 true (Qv 23),Qa (Qv 23) (Qe Qt Go.BinOp.eql (Qn 22) (Qo (Qp (Qq (Qr Qu 1))))),Qa (Qv 24) (Qm (Qn 19) (Qn 23) (Qo (Qp (Qq (Qs false)))))]
def f50_c2:MC:=.r0 f50_r2
def f50_r3:List MO:=[Qa (Qv 25) (Qg 0 (Qn 6)),Qa (Qv 26) (Qg 5 (Qn 25)),Qa (Qv 27) (Qf 1 false (Qn 26)),Qa (Qv 28) (Qh 71 [(Qn 27)]),Qa (Qv 29) (Qd (Qn 7)),Qa (Qv 4) (Qd (Qn 28)),Qa (Qv 5) (Qd (Qn 29))]
def f50_c3:MC:=.r0 f50_r3
def f50_r9:List MO:=[Qa (Qv 8) (Qd (Qo (Qp A.nil)))]
def f50_c9:MC:=.r0 f50_r9
def f50_r10:List MO:=[Qa (Qv 30) (Qf 7 true (Qn 6)),Qa (Qv 31) (Qh 75 [(Qn 30)]),Qa (Qv 32) (Qk Qt (Qn 31)),Qa (Qv 33) (Qd (Qo (Qp (Qq (Qr Qu 0)))))]
def f50_c10:MC:=.r0 f50_r10
def f50_r11:List MO:=[Qa (Qv 34) (Qe Qt Go.BinOp.lss (Qn 33) (Qn 32))]
def f50_c11:MC:=.r0 f50_r11
def f50_r15:List MO:=[Qa (Qv 35) (Qj 4 (Qn 31) (Qn 33)),Qa (Qv 36) (Qf 4 true (Qn 35)),Qa (Qv 10) (MOp.alloc [(Qr Qu 0),(Qr Qu 0),(D.str (ByteArray.mk #[])),(Qr Qu 0)]),Qa none (Ql 4 (Qn 10) (Qn 36))]
def f50_c15:MC:=.r0 f50_r15
def f50_r16:List MO:=[Qa (Qv 37) (Qd (Qn 8)),Qa (Qv 38) (Qg 3 (Qn 10)),Qa (Qv 39) (Qf 1 false (Qn 38)),Qa (Qv 40) (MOp.bslice 1 [(Qr Qu 0)] 1 [(0,(Qn 39))]),Qa (Qv 41) (MOp.app 3 1 8 (Qn 37) (Qn 40)),Qa (Qv 8) (Qd (Qn 41))]
def f50_c16:MC:=.r0 f50_r16
def f50_r19:List MO:=[Qa (Qv 42) (Qe Qt Go.BinOp.add (Qn 33) (Qo (Qp (Qq (Qr Qu 1))))),Qa (Qv 33) (Qd (Qn 42))]
def f50_c19:MC:=.r0 f50_r19
def f50_c22:MC:=.seq f50_c11 (.seq (.cond (Qn 34) .skip (MC.exit 0)) (.seq (.blk 1 (.seq f50_c15 f50_c16)) f50_c19))
def f50_r26:List MO:=[Qa (Qv 43) (Qd (Qn 8)),Qa (Qv 44) (Qd (Qn 7)),Qa (Qv 4) (Qd (Qn 43)),Qa (Qv 5) (Qd (Qn 44))]
def f50_c26:MC:=.r0 f50_r26
def f50_c30:MC:=.seq f50_c9 (.seq (.seq f50_c10 (.blk 0 (.loop f50_c22))) (.seq f50_c26 .ret))
def f50_c32:MC:=.seq f50_c1 (.seq (.seq f50_c2 (.cond (Qn 24) (.seq f50_c3 .ret) .skip)) f50_c30)
def f50_c33:MC:=.seq f50_c0 f50_c32
theorem f50_k : KK QP 50 f50 [2] f50_c33 [(RV.t 4),(RV.t 5)] 45 := by refine ⟨func50,?_,?_,?_,?_⟩<;>kernel_rfl
theorem f50_ok : callable QP 50 = true := by kernel_rfl
theorem f50_in (h : GI QP gp [(RV.t 4),(RV.t 5)] res 45 f50_c33 args) : Does QP gp 50 args res := f50_k.i f50_ok h
def f57_r0:List MO:=[Qa (Qv 4) (MOp.ibox (Qn 1)),Qa (Qv 6) (Qd (Qo (Qp (Qq D.nilI))))]
def f57_c0:MC:=.r0 f57_r0
def f57_r1:List MO:=[Qa (Qv 10) (Qd (Qn 0)),Qa (Qv 11) (MOp.nck (Qn 10)),Qa (Qv 12) (Qg 2 (Qn 11)),Qa (Qv 13) (Qf 1 false (Qn 12)),Qa (Qv 14) (Qg 0 (Qn 4)),Qa (Qv 15) (Qg 1 (Qn 14)),Qa (Qv 16) (Qf 1 false (Qn 15)),Qa (Qv 17) (MOp.lkp true (Qp (Qq (Qr Qu 0))) false [Leaf.s] (Qn 13) (Qn 16)),Qa (Qv 9) (Qd (Qn 17)),Qa (Qv 18) (Qi (Qn 9) 0),Qa (Qv 19) (Qi (Qn 9) 1),Qa (Qv 7) (Qd (Qn 18)),Qa (Qv 8) (Qd (Qn 19))]
def f57_c1:MC:=.reg true f57_r1
def f57_r2:List MO:=[Qa (Qv 21) (Qd (Qn 2)),Qa (Qv 22) (Qe Qt Go.BinOp.gtr (Qn 21) (Qo (Qp (Qq (Qr Qu 24))))),Qa (Qv 20) (Qd (Qn 22))]
def f57_c2:MC:=.r0 f57_r2
def f57_r3:List MO:=[Qa (Qv 23) (MOp.build [(Qr Qu 0)] [(0,(1,(Qo (Qp (Qq (Qr Qu 73))))))]),Qa (Qv 24) (MOp.mkI 106 (Qn 23)),Qa (Qv 6) (Qd (Qn 24))]
def f57_c3:MC:=.r0 f57_r3
def f57_r6:List MO:=[Qa (Qv 26) (Qf 7 true (Qn 4)),Qa (Qv 27) (Qh 79 [(Qn 26)]),Qa (Qv 28) (MOp.not (Qn 27)),Qa (Qv 25) (Qd (Qn 28))]
def f57_c6:MC:=.r0 f57_r6
def f57_r7:List MO:=[Qa (Qv 29) (MOp.build [(Qr Qu 0)] [(0,(1,(Qo (Qp (Qq (Qr Qu 93))))))]),Qa (Qv 30) (MOp.mkI 106 (Qn 29)),Qa (Qv 6) (Qd (Qn 30))]
def f57_c7:MC:=.r0 f57_r7
def f57_r10:List MO:=[Qa (Qv 32) (Qg 0 (Qn 4)),Qa (Qv 33) (Qg 5 (Qn 32)),Qa (Qv 34) (Qf 1 false (Qn 33)),Qa (Qv 35) (Qh 80 [(Qn 34)]),Qa (Qv 31) (Qd (Qn 35))]
def f57_c10:MC:=.r0 f57_r10
def f57_r11:List MO:=[Qa (Qv 36) (MOp.build [(Qr Qu 0)] [(0,(1,(Qo (Qp (Qq (Qr Qu 101))))))]),Qa (Qv 37) (MOp.mkI 106 (Qn 36)),Qa (Qv 6) (Qd (Qn 37))]
def f57_c11:MC:=.r0 f57_r11
def f57_r14:List MO:=[Qa (Qv 39) (Qg 0 (Qn 4)),Qa (Qv 40) (Qg 0 (Qn 39)),Qa (Qv 41) (Qf 1 false (Qn 40)),Qa (Qv 42) (Qe Qt Go.BinOp.eql (Qn 41) (Qo (Qp (Qq (Qr Qu 3))))),Qa (Qv 43) (Qd (Qn 42)),Qb 43 true (Qv 44),Qa (Qv 44) (Qd (Qn 8)),Qb 43 true (Qv 45),Qa (Qv 45) (MOp.not (Qn 44)),Qa (Qv 46) (Qm (Qn 43) (Qn 45) (Qo (Qp (Qq (Qs false))))),Qa (Qv 38) (Qd (Qn 46))]
def f57_c14:MC:=.r0 f57_r14
def f57_r15:List MO:=[Qa (Qv 47) (MOp.build [(Qr Qu 0)] [(0,(1,(Qo (Qp (Qq (Qr Qu 100))))))]),Qa (Qv 48) (MOp.mkI 106 (Qn 47)),Qa (Qv 6) (Qd (Qn 48))]
def f57_c15:MC:=.r0 f57_r15
def f57_r18:List MO:=[Qa (Qv 50) (Qg 0 (Qn 4)),Qa (Qv 51) (Qg 0 (Qn 50)),Qa (Qv 52) (Qf 1 false (Qn 51)),Qa (Qv 53) (Qe Qt Go.BinOp.neq (Qn 52) (Qo (Qp (Qq (Qr Qu 3))))),Qa (Qv 54) (Qd (Qn 53)),Qb 54 true (Qv 55),Qa (Qv 55) (Qd (Qn 0)),Qb 54 true (Qv 56),Qa (Qv 56) (MOp.nck (Qn 55)),Qb 54 true (Qv 57),Qa (Qv 57) (Qg 0 (Qn 56)),Qb 54 true (Qv 58),Qa (Qv 58) (Qg 1 (Qn 57)),Qb 54 true (Qv 59),Qa (Qv 59) (Qf 1 false (Qn 58)),Qb 54 true (Qv 60),Qa (Qv 60) (Qk Qt (Qn 59)),Qb 54 true (Qv 61),Qa (Qv 61) (Qe Qt Go.BinOp.eql (Qn 60) (Qo (Qp (Qq (Qr Qu 200))))),Qa (Qv 62) (Qm (Qn 54) (Qn 61) (Qo (Qp (Qq (Qs false))))),Qa (Qv 49) (Qd (Qn 62))]
def f57_c18:MC:=.r0 f57_r18
def f57_r19:List MO:=[Qa (Qv 63) (MOp.build [(Qr Qu 0)] [(0,(1,(Qo (Qp (Qq (Qr Qu 71))))))]),Qa (Qv 64) (MOp.mkI 106 (Qn 63)),Qa (Qv 6) (Qd (Qn 64))]
def f57_c19:MC:=.r0 f57_r19
def f57_c26:MC:=.seq f57_c14 (.cond (Qn 38) (.seq f57_c15 .ret) (.seq f57_c18 (.cond (Qn 49) (.seq f57_c19 .ret) .skip)))
def f57_c29:MC:=.cond (Qn 25) (.seq f57_c7 .ret) (.seq f57_c10 (.cond (Qn 31) (.seq f57_c11 .ret) f57_c26))
def f57_c32:MC:=.seq f57_c2 (.cond (Qn 20) (.seq f57_c3 .ret) (.seq f57_c6 f57_c29))
def f57_r34:List MO:=[Qa (Qv 6) (Qd (Qo (Qp (Qq D.nilI))))]
def f57_c34:MC:=.r0 f57_r34
def f57_c39:MC:=.seq f57_c0 (.seq f57_c1 (.seq (.blk 0 f57_c32) (.seq f57_c34 .ret)))
attribute [go_sem] f57_r0 f57_r1 f57_r2 f57_r3 f57_r6 f57_r7 f57_r10 f57_r11 f57_r14 f57_r15 f57_r18 f57_r19 f57_r34
theorem f57_k : KK QP 57 f57 [4] f57_c39 [(RV.t 6)] 65 := by refine ⟨func57,?_,?_,?_,?_⟩<;>kernel_rfl
theorem f57_ok : callable QP 57 = true := by kernel_rfl
theorem f57_tri (h : GT QP gp [(RV.t 6)] pre R 65 f57_c39 args) : Tri QP gp 57 args pre R := f57_k.t h
def f58_r0:List MO:=[Qa (Qv 4) (MOp.box (Qn 0)),Qa (Qv 5) (Qd (Qo (Qp (Qq D.nilI))))]
def f58_c0:MC:=.r0 f58_r0
def f58_r1:List MO:=[Qa (Qv 9) (Qf 1 false (Qn 1)),Qa (Qv 10) (Qf 7 true (Qn 4)),Qa (Qv 11) (MOp.build [(Qr Qu 0),(D.str (ByteArray.mk #[])),(Qr Qu 0),(Qr Qu 0),(D.str (ByteArray.mk #[])),(D.sl []),(D.sl [])] [(0,(7,(Qn 10)))]),Qa (Qv 12) (Qf 1 false (Qn 2)),Qa (Qv 13) (Qe Qt Go.BinOp.add (Qn 12) (Qo (Qp (Qq (Qr Qu 1))))),Qa (Qv 14) (Qh 32 [(Qn 9),(Qn 11),(Qn 13)]),Qa (Qv 8) (Qd (Qn 14)),Qa (Qv 15) (Qi (Qn 8) 0),Qa (Qv 16) (Qi (Qn 8) 1),Qa (Qv 6) (Qd (Qn 15)),Qa (Qv 7) (Qd (Qn 16))]
def f58_c1:MC:=.r0 f58_r1
def f58_r2:List MO:=[Qa (Qv 17) (MOp.cld 1 false (Qn 1)),Qa (Qv 18) (MOp.nck (Qn 17)),Qa (Qv 19) (Qg 0 (Qn 18)),Qa (Qv 20) (Qg 1 (Qn 19)),Qa (Qv 21) (MOp.cld 1 false (Qn 20)),Qa (Qv 22) (MOp.cld 1 false (Qn 3)),Qa (Qv 23) (MOp.cld 1 false (Qn 1)),Qa (Qv 24) (MOp.nck (Qn 23)),Qa (Qv 25) (Qg 0 (Qn 24)),Qa (Qv 26) (Qg 1 (Qn 25)),Qa (Qv 27) (MOp.cld 1 false (Qn 26)),Qa (Qv 28) (MOp.cld 1 false (Qn 3)),Qa (Qv 29) (Qj 6 (Qn 27) (Qn 28)),Qa (Qv 30) (Qg 5 (Qn 29)),Qa (Qv 31) (MOp.cld 1 false (Qn 30)),Qa (Qv 32) (Qd (Qn 6)),Qa (Qv 33) (MOp.bslice 1 [(Qr Qu 0)] 1 [(0,(Qn 32))]),Qa (Qv 34) (MOp.app 3 1 8 (Qn 31) (Qn 33)),Qa (Qv 35) (MOp.iac 6 (Qn 21) (Qn 22)),Qa (Qv 36) (Qg 5 (Qn 35)),Qa none (Ql 1 (Qn 36) (Qn 34))]
def f58_c2:MC:=.reg true f58_r2
def f58_r3:List MO:=[Qa (Qv 37) (Qd (Qn 7)),Qa (Qv 5) (Qd (Qn 37))]
def f58_c3:MC:=.r0 f58_r3
def f58_c8:MC:=.seq f58_c0 (.seq f58_c1 (.seq f58_c2 (.seq f58_c3 .ret)))
attribute [go_sem] f58_r0 f58_r1 f58_r3
theorem f58_k : KK QP 58 f58 [2000,5035] f58_c8 [(RV.t 5)] 38 := by refine ⟨func58,?_,?_,?_,?_⟩<;>kernel_rfl
theorem f58_ok : callable QP 58 = true := by kernel_rfl
theorem f58_tri (h : GT QP gp [(RV.t 5)] pre R 38 f58_c8 args) : Tri QP gp 58 args pre R := f58_k.t h
-- f59: trC none
-- f60: trC none
def f61_r0:List MO:=[Qa (Qv 7) (Qf 7 true (Qn 1)),Qa (Qv 8) (MOp.bslO 7 [(Qr Qu 0),(D.str (ByteArray.mk #[])),(Qr Qu 0),(Qr Qu 0),(D.str (ByteArray.mk #[])),(D.sl []),(D.sl [])] 1 [(0,(Qn 7))]),Qa (Qv 3) (MOp.alloc [(D.sl [])]),Qa none (Ql 1 (Qn 3) (Qn 8))]
def f61_c0:MC:=.r0 f61_r0
def f61_r2:List MO:=[Qa (Qv 9) (Qf 1 false (Qn 3)),Qa (Qv 10) (Qk Qt (Qn 9)),Qa (Qv 11) (Qe Qt Go.BinOp.gtr (Qn 10) (Qo (Qp (Qq (Qr Qu 0)))))]
def f61_c2:MC:=.r0 f61_r2
def f61_r7:List MO:=[Qa (Qv 12) (Qf 1 false (Qn 3)),Qa (Qv 13) (Qf 1 false (Qn 3)),Qa (Qv 14) (Qk Qt (Qn 13)),Qa (Qv 15) (Qe Qt Go.BinOp.sub (Qn 14) (Qo (Qp (Qq (Qr Qu 1))))),Qa (Qv 16) (Qj 7 (Qn 12) (Qn 15)),Qa (Qv 17) (Qf 7 true (Qn 16)),Qa (Qv 4) (MOp.alloc [(Qr Qu 0),(D.str (ByteArray.mk #[])),(Qr Qu 0),(Qr Qu 0),(D.str (ByteArray.mk #[])),(D.sl []),(D.sl [])]),Qa none (Ql 7 (Qn 4) (Qn 17))]
def f61_c7:MC:=.r0 f61_r7
def f61_r8:List MO:=[Qa (Qv 18) (Qf 1 false (Qn 3)),Qa (Qv 19) (Qf 1 false (Qn 3)),Qa (Qv 20) (Qk Qt (Qn 19)),Qa (Qv 21) (Qe Qt Go.BinOp.sub (Qn 20) (Qo (Qp (Qq (Qr Qu 1))))),Qa (Qv 22) (MOp.slc 7 (Qn 18) none (Qv (Qn 21))),Qa none (Ql 1 (Qn 3) (Qn 22))]
def f61_c8:MC:=.r0 f61_r8
def f61_r9:List MO:=[Qa (Qv 23) (Qd (Qn 0)),Qa (Qv 24) (Qf 7 true (Qn 4)),Qa (Qv 25) (MOp.callv (Qn 23) [(Qn 24)]),Qa (Qv 26) (MOp.not (Qn 25))]
def f61_c9:MC:=.r0 f61_r9
def f61_r14:List MO:=[Qa (Qv 27) (Qg 6 (Qn 4)),Qa (Qv 28) (Qf 1 false (Qn 27)),Qa (Qv 29) (Qh 62 [(Qn 28)])]
def f61_c14:MC:=.r0 f61_r14
def f61_r15:List MO:=[Qa (Qv 6) (MOp.alloc [(Qr Qu 0),(D.str (ByteArray.mk #[])),(Qr Qu 0),(Qr Qu 0),(D.str (ByteArray.mk #[])),(D.sl []),(D.sl [])]),Qa none (Ql 7 (Qn 6) (Qn 31))]
def f61_c15:MC:=.r0 f61_r15
def f61_r16:List MO:=[Qa (Qv 32) (MOp.cld 1 false (Qn 3)),Qa (Qv 33) (MOp.cld 7 true (Qn 6)),Qa (Qv 34) (Qk Qt (Qn 32)),Qa (Qv 35) (MOp.bslice 7 [(Qr Qu 0),(D.str (ByteArray.mk #[])),(Qr Qu 0),(Qr Qu 0),(D.str (ByteArray.mk #[])),(D.sl []),(D.sl [])] 1 [(0,(Qo (V.agg [(Qq (Qr Qu 0)),(Qq (D.str (ByteArray.mk #[]))),(Qq (Qr Qu 0)),(Qq (Qr Qu 0)),(Qq (D.str (ByteArray.mk #[]))),A.nil,A.nil])))]),Qa (Qv 36) (MOp.app 32 7 104 (Qn 32) (Qn 35)),Qa (Qv 37) (Qj 7 (Qn 36) (Qn 34)),Qa none (Ql 7 (Qn 37) (Qn 33)),Qa none (Ql 1 (Qn 3) (Qn 36))]
def f61_c16:MC:=.regp f61_r16
def f61_c18:MC:=.rf (Qn 29) [30,31] f61_c15 (.blk 3 f61_c16)
def f61_c22:MC:=.seq f61_c8 (.seq (.seq f61_c9 (.cond (Qn 26) (MC.exit 0) .skip)) (.seq f61_c14 (.blk 2 f61_c18)))
def f61_c29:MC:=.seq f61_c0 (.seq .skip (.blk 0 (.loop (.seq (.seq f61_c2 (.cond (Qn 11) .skip (MC.exit 0))) (.blk 1 (.seq f61_c7 f61_c22))))))
def f61_c30:MC:=.scope f61_c29
attribute [go_sem] f61_r0 f61_r2 f61_r7 f61_r14 f61_r15
theorem f61_k : KK QP 61 f61 [2000,8] f61_c30 [] 38 := by refine ⟨func61,?_,?_,?_,?_⟩<;>kernel_rfl
theorem f61_ok : callable QP 61 = true := by kernel_rfl
theorem f61_tri (h : GT QP gp [] pre R 38 f61_c30 args) : Tri QP gp 61 args pre R := f61_k.t h
def f62_r0:List MO:=[Qa (Qv 1) (MOp.ibox (Qn 0)),Qa (Qv 2) (Qd (Qo (Qp (Qq D.nilF))))]
def f62_c0:MC:=.r0 f62_r0
def f62_r1:List MO:=[Qa (Qv 3) (MOp.mkF (Go.Fn.func 87) [(Qn 1)]),Qa (Qv 2) (Qd (Qn 3))]
def f62_c1:MC:=.r0 f62_r1
def f62_c4:MC:=.seq f62_c0 (.seq f62_c1 .ret)
attribute [go_sem] f62_r0 f62_r1
theorem f62_k : KK QP 62 f62 [1] f62_c4 [(RV.t 2)] 4 := by refine ⟨func62,?_,?_,?_,?_⟩<;>kernel_rfl
theorem f62_ok : callable QP 62 = true := by kernel_rfl
theorem f62_in (h : GI QP gp [(RV.t 2)] res 4 f62_c4 args) : Does QP gp 62 args res := f62_k.i f62_ok h
def f63_r0:List MO:=[Qa (Qv 2) (Qd (Qo (Qp (Qq (D.str (ByteArray.mk #[]))))))]
def f63_c0:MC:=.r0 f63_r0
def f63_r1:List MO:=[Qa (Qv 3) (Qd (Qn 0)),Qa (Qv 4) (Qd (Qn 0)),Qa (Qv 5) (Qk Leaf.s (Qn 4)),Qa (Qv 6) (MOp.min (Qn 5) (Qo (Qp (Qq (Qr Qu 100))))),Qa (Qv 7) (MOp.slcS (Qn 3) none (Qv (Qn 6))),Qa (Qv 2) (Qd (Qn 7))]
def f63_c1:MC:=.r0 f63_r1
def f63_c4:MC:=.seq f63_c0 (.seq f63_c1 .ret)
attribute [go_sem] f63_r0 f63_r1
theorem f63_k : KK QP 63 f63 [] f63_c4 [(RV.t 2)] 8 := by refine ⟨func63,?_,?_,?_,?_⟩<;>kernel_rfl
theorem f63_ok : callable QP 63 = true := by kernel_rfl
theorem f63_in (h : GI QP gp [(RV.t 2)] res 8 f63_c4 args) : Does QP gp 63 args res := f63_k.i f63_ok h
def f64_r0:List MO:=[Qa (Qv 1) (MOp.ibox (Qn 0)),Qa (Qv 2) (MOp.alloc [(Qr Qu 0),(Qr Qu 0),(D.str (ByteArray.mk #[]))])]
def f64_c0:MC:=.r0 f64_r0
def f64_r1:List MO:=[Qa (Qv 3) (Qg 0 (Qn 1)),Qa (Qv 4) (Qf 1 false (Qn 3)),Qa (Qv 5) (Qg 1 (Qn 1)),Qa (Qv 6) (Qf 1 false (Qn 5)),Qa (Qv 7) (Qg 2 (Qn 1)),Qa (Qv 8) (Qf 1 false (Qn 7)),Qa (Qv 9) (Qh 63 [(Qn 8)]),Qa (Qv 10) (MOp.build [(Qr Qu 0),(Qr Qu 0),(D.str (ByteArray.mk #[]))] [(0,(1,(Qn 4))),(1,(1,(Qn 6))),(2,(1,(Qn 9)))]),Qa none (Ql 3 (Qn 2) (Qn 10))]
def f64_c1:MC:=.reg true f64_r1
def f64_c4:MC:=.seq f64_c0 (.seq f64_c1 .ret)
attribute [go_sem] f64_r0 f64_r1
theorem f64_k : KK QP 64 f64 [1] f64_c4 [(RV.cell 2 3 true)] 11 := by refine ⟨func64,?_,?_,?_,?_⟩<;>kernel_rfl
theorem f64_ok : callable QP 64 = true := by kernel_rfl
theorem f64_in (h : GI QP gp [(RV.cell 2 3 true)] res 11 f64_c4 args) : Does QP gp 64 args res := f64_k.i f64_ok h
def f66_r0:List MO:=[Qa (Qv 2) (MOp.ibox (Qn 0)),Qa (Qv 4) (Qd (Qo (Qp (Qq (Qs false)))))]
def f66_c0:MC:=.r0 f66_r0
def f66_r1:List MO:=[Qa (Qv 5) (Qd (Qn 1)),Qa (Qv 6) (Qe Qt Go.BinOp.geq (Qn 5) (Qo (Qp (Qq (Qr Qu 0))))),Qa (Qv 7) (Qd (Qn 6)),Qb 7 true (Qv 8),Qa (Qv 8) (Qd (Qn 1)),Qb 7 true (Qv 9),Qa (Qv 9) (Qg 1 (Qn 2)),Qb 7 true (Qv 10),Qa (Qv 10) (Qf 1 false (Qn 9)),Qb 7 true (Qv 11),Qa (Qv 11) (Qk Qt (Qn 10)),Qb 7 true (Qv 12),Qa (Qv 12) (Qe Qt Go.BinOp.lss (Qn 8) (Qn 11)),Qa (Qv 13) (Qm (Qn 7) (Qn 12) (Qo (Qp (Qq (Qs false))))),Qa (Qv 4) (Qd (Qn 13))]
def f66_c1:MC:=.r0 f66_r1
def f66_c4:MC:=.seq f66_c0 (.seq f66_c1 .ret)
attribute [go_sem] f66_r0 f66_r1
theorem f66_k : KK QP 66 f66 [2] f66_c4 [(RV.t 4)] 14 := by refine ⟨func66,?_,?_,?_,?_⟩<;>kernel_rfl
theorem f66_ok : callable QP 66 = true := by kernel_rfl
theorem f66_in (h : GI QP gp [(RV.t 4)] res 14 f66_c4 args) : Does QP gp 66 args res := f66_k.i f66_ok h
def f67_r0:List MO:=[Qa (Qv 1) (MOp.ibox (Qn 0)),Qa (Qv 2) (Qd (Qo (Qp (Qq D.nilF))))]
def f67_c0:MC:=.r0 f67_r0
def f67_r1:List MO:=[Qa (Qv 3) (MOp.mkF (Go.Fn.func 89) [(Qn 1)]),Qa (Qv 2) (Qd (Qn 3))]
def f67_c1:MC:=.r0 f67_r1
def f67_c4:MC:=.seq f67_c0 (.seq f67_c1 .ret)
attribute [go_sem] f67_r0 f67_r1
theorem f67_k : KK QP 67 f67 [1] f67_c4 [(RV.t 2)] 4 := by refine ⟨func67,?_,?_,?_,?_⟩<;>kernel_rfl
theorem f67_ok : callable QP 67 = true := by kernel_rfl
theorem f67_in (h : GI QP gp [(RV.t 2)] res 4 f67_c4 args) : Does QP gp 67 args res := f67_k.i f67_ok h
def f68_r0:List MO:=[Qa (Qv 1) (MOp.ibox (Qn 0)),Qa (Qv 2) (Qd (Qo (Qp (Qq (Qs false)))))]
def f68_c0:MC:=.r0 f68_r0
def f68_r1:List MO:=[Qa (Qv 4) (MOp.build [D.nilF,D.nilF,D.nilF] [(0,(1,(Qo (Qp (Qq (D.fn (Go.Fn.func 90) [])))))),(1,(1,(Qo (Qp (Qq (D.fn (Go.Fn.func 91) [])))))),(2,(1,(Qo (Qp (Qq (D.fn (Go.Fn.func 92) []))))))]),Qa (Qv 3) (MOp.alloc [D.nilF,D.nilF,D.nilF]),Qa none (Ql 3 (Qn 3) (Qn 4))]
def f68_c1:MC:=.r0 f68_r1
def f68_r2:List MO:=[Qa (Qv 5) (Qg 0 (Qn 1)),Qa (Qv 6) (Qg 0 (Qn 5)),Qa (Qv 7) (Qf 1 false (Qn 6)),Qa (Qv 8) (Qe Qt Go.BinOp.geq (Qn 7) (Qo (Qp (Qq (Qr Qu 0))))),Qa (Qv 9) (Qd (Qn 8)),Qb 9 true (Qv 10),Qa (Qv 10) (Qg 0 (Qn 1)),Qb 9 true (Qv 11),Qa (Qv 11) (Qg 0 (Qn 10)),Qb 9 true (Qv 12),Qa (Qv 12) (Qf 1 false (Qn 11)),Qb 9 true (Qv 13),Qa (Qv 13) (Qe Qt Go.BinOp.lss (Qn 12) (Qo (Qp (Qq (Qr Qu 3))))),Qa (Qv 14) (Qm (Qn 9) (Qn 13) (Qo (Qp (Qq (Qs false))))),Qa (Qv 15) (Qd (Qn 14)),Qb 15 true (Qv 16),Qa (Qv 16) (Qg 0 (Qn 1)),Qb 15 true (Qv 17),Qa (Qv 17) (Qg 0 (Qn 16)),Qb 15 true (Qv 18),Qa (Qv 18) (Qf 1 false (Qn 17)),Qb 15 true (Qv 19),Qa (Qv 19) (MOp.iadA 3 1 (Qn 3) (Qn 18)),Qb 15 true (Qv 20),Qa (Qv 20) (Qf 1 false (Qn 19)),Qb 15 true (Qv 21),Qa (Qv 21) (Qf 7 true (Qn 1)),Qb 15 true (Qv 22),Qc (Qv 22) (MOp.callv (Qn 20) [(Qn 21)]),Qa (Qv 23) (Qm (Qn 15) (Qn 22) (Qo (Qp (Qq (Qs false))))),Qa (Qv 2) (Qd (Qn 23))]
def f68_c2:MC:=.reg true f68_r2
def f68_c6:MC:=.seq f68_c0 (.seq f68_c1 (.seq f68_c2 .ret))
attribute [go_sem] f68_r0 f68_r1 f68_r2
theorem f68_k : KK QP 68 f68 [1] f68_c6 [(RV.t 2)] 24 := by refine ⟨func68,?_,?_,?_,?_⟩<;>kernel_rfl
theorem f68_ok : callable QP 68 = true := by kernel_rfl
theorem f68_in (h : GI QP gp [(RV.t 2)] res 24 f68_c6 args) : Does QP gp 68 args res := f68_k.i f68_ok h
def f71_r0:List MO:=[Qa (Qv 2) (Qd (Qo (Qp A.nil)))]
def f71_c0:MC:=.r0 f71_r0
def f71_r1:List MO:=[Qa (Qv 3) (Qd (Qn 0)),Qa (Qv 4) (MOp.nilq NK.sl false (Qn 3))]
def f71_c1:MC:=.r0 f71_r1
def f71_r2:List MO:=[Qa (Qv 2) (Qd (Qo (Qp A.nil)))]
def f71_c2:MC:=.r0 f71_r2
def f71_r8:List MO:=[Qa (Qv 5) (MOp.bslO 1 [(Qr Qu 0)] 0 []),Qa (Qv 6) (Qd (Qn 0)),Qa (Qv 7) (MOp.app 3 1 8 (Qn 5) (Qn 6)),Qa (Qv 2) (Qd (Qn 7))]
def f71_c8:MC:=.r0 f71_r8
def f71_c12:MC:=.seq f71_c0 (.seq (.seq f71_c1 (.cond (Qn 4) (.seq f71_c2 .ret) .skip)) (.seq f71_c8 .ret))
theorem f71_k : KK QP 71 f71 [5] f71_c12 [(RV.t 2)] 8 := by refine ⟨func71,?_,?_,?_,?_⟩<;>kernel_rfl
theorem f71_ok : callable QP 71 = true := by kernel_rfl
theorem f71_in (h : GI QP gp [(RV.t 2)] res 8 f71_c12 args) : Does QP gp 71 args res := f71_k.i f71_ok h
def f74_r0:List MO:=[Qa (Qv 2) (MOp.ibox (Qn 0)),Qa (Qv 4) (MOp.alloc [(Qr Qu 0),(Qr Qu 0),(Qr Qu 0),(D.str (ByteArray.mk #[])),(D.sl []),(D.sl []),(Qr Qu 0)]),Qa (Qv 5) (Qd (Qo (Qp (Qq (Qr Qu 0)))))]
def f74_c0:MC:=.r0 f74_r0
def f74_r1:List MO:=[Qa (Qv 6) (Qf 2 true (Qn 2)),Qa (Qv 7) (Qd (Qn 1)),Qa (Qv 8) (Qh 66 [(Qn 6),(Qn 7)]),Qa (Qv 9) (MOp.not (Qn 8))]
def f74_c1:MC:=.r0 f74_r1
def f74_r2:List MO:=[Qa (Qv 10) (MOp.build [(Qr Qu 0),(Qr Qu 0),(Qr Qu 0),(D.str (ByteArray.mk #[])),(D.sl []),(D.sl []),(Qr Qu 0)] []),Qa none (Ql 7 (Qn 4) (Qn 10)),Qa (Qv 5) (Qd (Qo (Qp (Qq (Qr Qu 2)))))]
def f74_c2:MC:=.r0 f74_r2
def f74_r8:List MO:=[Qa (Qv 11) (Qg 1 (Qn 2)),Qa (Qv 12) (Qf 1 false (Qn 11)),Qa (Qv 13) (Qd (Qn 1)),Qa (Qv 14) (Qj 6 (Qn 12) (Qn 13)),Qa (Qv 15) (Qf 6 true (Qn 14)),Qa (Qv 16) (Qg 1 (Qn 2)),Qa (Qv 17) (Qf 1 false (Qn 16)),Qa (Qv 18) (Qk Qt (Qn 17)),Qa (Qv 19) (MOp.build [(Qr Qu 0),(Qr Qu 0),(Qr Qu 0),(D.str (ByteArray.mk #[])),(D.sl []),(D.sl []),(Qr Qu 0)] [(0,(6,(Qn 15))),(6,(1,(Qn 18)))]),Qa none (Ql 7 (Qn 4) (Qn 19)),Qa (Qv 5) (Qd (Qo (Qp (Qq (Qr Qu 0)))))]
def f74_c8:MC:=.reg true f74_r8
def f74_c12:MC:=.seq f74_c0 (.seq (.seq f74_c1 (.cond (Qn 9) (.seq f74_c2 .ret) .skip)) (.seq f74_c8 .ret))
attribute [go_sem] f74_r0 f74_r1 f74_r2 f74_r8
theorem f74_k : KK QP 74 f74 [2] f74_c12 [(RV.cell 4 7 true),(RV.t 5)] 20 := by refine ⟨func74,?_,?_,?_,?_⟩<;>kernel_rfl
theorem f74_ok : callable QP 74 = true := by kernel_rfl
theorem f74_in (h : GI QP gp [(RV.cell 4 7 true),(RV.t 5)] res 20 f74_c12 args) : Does QP gp 74 args res := f74_k.i f74_ok h
def f75_r0:List MO:=[Qa (Qv 1) (MOp.ibox (Qn 0)),Qa (Qv 2) (Qd (Qo (Qp A.nil)))]
def f75_c0:MC:=.r0 f75_r0
def f75_r1:List MO:=[Qa (Qv 6) (Qg 0 (Qn 1)),Qa (Qv 7) (Qg 0 (Qn 6)),Qa (Qv 8) (Qf 1 false (Qn 7)),Qa (Qv 9) (Qe Qt Go.BinOp.neq (Qn 8) (Qo (Qp (Qq (Qr Qu 2))))),Qa (Qv 10) (Qd (Qn 9)),Qb 10 false (Qv 11),Qa (Qv 11) (Qf 7 true (Qn 1)),Qb 10 false (Qv 12),Qa (Qv 12) (Qh 97 [(Qn 11)]),Qb 10 false (Qv 13),Qa (Qv 13) (MOp.not (Qn 12)),Qa (Qv 14) (Qm (Qn 10) (Qo (Qp (Qq (Qs true)))) (Qn 13))]
def f75_c1:MC:=.r0 f75_r1
def f75_r2:List MO:=[Qa (Qv 2) (Qd (Qo (Qp A.nil)))]
def f75_c2:MC:=.r0 f75_r2
def f75_r8:List MO:=[Qa (Qv 3) (Qd (Qo (Qp A.nil)))]
def f75_c8:MC:=.r0 f75_r8
def f75_r9:List MO:=[Qa (Qv 15) (Qg 0 (Qn 1)),Qa (Qv 16) (Qg 4 (Qn 15)),Qa (Qv 17) (Qf 1 false (Qn 16)),Qa (Qv 18) (Qk Qt (Qn 17)),Qa (Qv 19) (Qd (Qo (Qp (Qq (Qr Qu 0)))))]
def f75_c9:MC:=.r0 f75_r9
def f75_r10:List MO:=[Qa (Qv 20) (Qe Qt Go.BinOp.lss (Qn 19) (Qn 18))]
def f75_c10:MC:=.r0 f75_r10
def f75_r14:List MO:=[Qa (Qv 21) (Qd (Qn 19)),Qa (Qv 22) (Qj 3 (Qn 17) (Qn 19)),Qa (Qv 23) (Qf 3 true (Qn 22)),Qa (Qv 5) (MOp.alloc [(Qr Qu 0),(Qr Qu 0),(D.str (ByteArray.mk #[]))]),Qa (Qv 4) (Qd (Qn 21)),Qa none (Ql 3 (Qn 5) (Qn 23))]
def f75_c14:MC:=.r0 f75_r14
def f75_r15:List MO:=[Qa (Qv 24) (Qd (Qn 3)),Qa (Qv 25) (Qf 3 true (Qn 5)),Qa (Qv 26) (Qg 0 (Qn 1)),Qa (Qv 27) (Qg 5 (Qn 26)),Qa (Qv 28) (Qf 1 false (Qn 27)),Qa (Qv 29) (Qd (Qn 4)),Qa (Qv 30) (Qj 1 (Qn 28) (Qn 29)),Qa (Qv 31) (Qf 1 false (Qn 30)),Qa (Qv 32) (MOp.build [(Qr Qu 0),(Qr Qu 0),(D.str (ByteArray.mk #[])),(Qr Qu 0)] [(0,(3,(Qn 25))),(3,(1,(Qn 31)))]),Qa (Qv 33) (MOp.bslice 4 [(Qr Qu 0),(Qr Qu 0),(D.str (ByteArray.mk #[])),(Qr Qu 0)] 1 [(0,(Qn 32))]),Qa (Qv 34) (MOp.app 142 4 40 (Qn 24) (Qn 33)),Qa (Qv 3) (Qd (Qn 34))]
def f75_c15:MC:=.reg true f75_r15
def f75_r18:List MO:=[Qa (Qv 35) (Qe Qt Go.BinOp.add (Qn 19) (Qo (Qp (Qq (Qr Qu 1))))),Qa (Qv 19) (Qd (Qn 35))]
def f75_c18:MC:=.r0 f75_r18
def f75_c21:MC:=.seq f75_c10 (.seq (.cond (Qn 20) .skip (MC.exit 0)) (.seq (.blk 1 (.seq f75_c14 f75_c15)) f75_c18))
def f75_r25:List MO:=[Qa (Qv 36) (Qd (Qn 3)),Qa (Qv 37) (Qh 98 [(Qn 36),(Qo (Qp (Qq (D.fn (Go.Fn.func 99) []))))])]
def f75_c25:MC:=.r0 f75_r25
def f75_r26:List MO:=[Qa (Qv 38) (Qd (Qn 3)),Qa (Qv 2) (Qd (Qn 38))]
def f75_c26:MC:=.r0 f75_r26
def f75_c30:MC:=.seq (.seq f75_c9 (.blk 0 (.loop f75_c21))) (.seq f75_c25 (.seq f75_c26 .ret))
def f75_c32:MC:=.seq (.seq f75_c1 (.cond (Qn 14) (.seq f75_c2 .ret) .skip)) (.seq f75_c8 f75_c30)
def f75_c33:MC:=.seq f75_c0 f75_c32
attribute [go_sem] f75_r0 f75_r1 f75_r2 f75_r8 f75_r9 f75_r10 f75_r14 f75_r15 f75_r18 f75_r25 f75_r26
theorem f75_k : KK QP 75 f75 [1] f75_c33 [(RV.t 2)] 39 := by refine ⟨func75,?_,?_,?_,?_⟩<;>kernel_rfl
theorem f75_ok : callable QP 75 = true := by kernel_rfl
theorem f75_in (h : GI QP gp [(RV.t 2)] res 39 f75_c33 args) : Does QP gp 75 args res := f75_k.i f75_ok h
def f79_r0:List MO:=[Qa (Qv 1) (MOp.ibox (Qn 0)),Qa (Qv 2) (Qd (Qo (Qp (Qq (Qs false)))))]
def f79_c0:MC:=.r0 f79_r0
def f79_r1:List MO:=[Qa (Qv 4) (MOp.build [D.nilF,D.nilF,D.nilF,D.nilF] [(0,(1,(Qo (Qp (Qq (D.fn (Go.Fn.func 106) [])))))),(1,(1,(Qo (Qp (Qq (D.fn (Go.Fn.func 107) [])))))),(2,(1,(Qo (Qp (Qq (D.fn (Go.Fn.func 108) [])))))),(3,(1,(Qo (Qp (Qq (D.fn (Go.Fn.func 109) []))))))]),Qa (Qv 3) (MOp.alloc [D.nilF,D.nilF,D.nilF,D.nilF]),Qa none (Ql 4 (Qn 3) (Qn 4))]
def f79_c1:MC:=.r0 f79_r1
def f79_r2:List MO:=[Qa (Qv 5) (Qg 0 (Qn 1)),Qa (Qv 6) (Qg 0 (Qn 5)),Qa (Qv 7) (Qf 1 false (Qn 6)),Qa (Qv 8) (Qe Qt Go.BinOp.geq (Qn 7) (Qo (Qp (Qq (Qr Qu 0))))),Qa (Qv 9) (Qd (Qn 8)),Qb 9 true (Qv 10),Qa (Qv 10) (Qg 0 (Qn 1)),Qb 9 true (Qv 11),Qa (Qv 11) (Qg 0 (Qn 10)),Qb 9 true (Qv 12),Qa (Qv 12) (Qf 1 false (Qn 11)),Qb 9 true (Qv 13),Qa (Qv 13) (Qe Qt Go.BinOp.lss (Qn 12) (Qo (Qp (Qq (Qr Qu 4))))),Qa (Qv 14) (Qm (Qn 9) (Qn 13) (Qo (Qp (Qq (Qs false))))),Qa (Qv 15) (Qd (Qn 14)),Qb 15 true (Qv 16),Qa (Qv 16) (Qg 0 (Qn 1)),Qb 15 true (Qv 17),Qa (Qv 17) (Qg 0 (Qn 16)),Qb 15 true (Qv 18),Qa (Qv 18) (Qf 1 false (Qn 17)),Qb 15 true (Qv 19),Qa (Qv 19) (MOp.iadA 4 1 (Qn 3) (Qn 18)),Qb 15 true (Qv 20),Qa (Qv 20) (Qf 1 false (Qn 19)),Qb 15 true (Qv 21),Qa (Qv 21) (Qf 7 true (Qn 1)),Qb 15 true (Qv 22),Qc (Qv 22) (MOp.callv (Qn 20) [(Qn 21)]),Qa (Qv 23) (Qm (Qn 15) (Qn 22) (Qo (Qp (Qq (Qs false))))),Qa (Qv 24) (Qd (Qn 23)),Qb 24 true (Qv 25),Qa (Qv 25) (Qg 0 (Qn 1)),Qb 24 true (Qv 26),Qa (Qv 26) (Qg 1 (Qn 25)),Qb 24 true (Qv 27),Qa (Qv 27) (Qf 1 false (Qn 26)),Qb 24 true (Qv 28),Qa (Qv 28) (Qe Leaf.s Go.BinOp.eql (Qn 27) (Qo (Qp (Qq (D.str (ByteArray.mk #[])))))),Qb 24 true (Qv 29),Qa (Qv 29) (Qd (Qn 28)),Qb 29 false (Qv 30),Qa (Qv 30) (Qg 0 (Qn 1)),Qb 29 false (Qv 31),Qa (Qv 31) (Qg 1 (Qn 30)),Qb 29 false (Qv 32),Qa (Qv 32) (Qf 1 false (Qn 31)),Qb 29 false (Qv 33),Qc (Qv 33) (Qh 110 [(Qn 32)]),Qb 24 true (Qv 34),Qa (Qv 34) (Qm (Qn 29) (Qo (Qp (Qq (Qs true)))) (Qn 33)),Qa (Qv 35) (Qm (Qn 24) (Qn 34) (Qo (Qp (Qq (Qs false))))),Qa (Qv 2) (Qd (Qn 35))]
def f79_c2:MC:=.reg true f79_r2
def f79_c6:MC:=.seq f79_c0 (.seq f79_c1 (.seq f79_c2 .ret))
attribute [go_sem] f79_r0 f79_r1 f79_r2
theorem f79_k : KK QP 79 f79 [1] f79_c6 [(RV.t 2)] 36 := by refine ⟨func79,?_,?_,?_,?_⟩<;>kernel_rfl
theorem f79_ok : callable QP 79 = true := by kernel_rfl
theorem f79_in (h : GI QP gp [(RV.t 2)] res 36 f79_c6 args) : Does QP gp 79 args res := f79_k.i f79_ok h
def f80_r0:List MO:=[Qa (Qv 2) (Qd (Qo (Qp (Qq (Qs false)))))]
def f80_c0:MC:=.r0 f80_r0
def f80_r1:List MO:=[Qa (Qv 3) (MOp.alloc [(Qr Qu 0)]),Qa none (Ql 1 (Qn 3) (Qo (Qp (Qq (Qr Qu 0)))))]
def f80_c1:MC:=.r0 f80_r1
def f80_r2:List MO:=[Qa (Qv 4) (Qd (Qn 0)),Qa (Qv 5) (Qh 111 [(Qn 4)])]
def f80_c2:MC:=.r0 f80_r2
def f80_r4:List MO:=[Qa (Qv 7) (Qf 1 false (Qn 3)),Qa (Qv 8) (Qe Qt Go.BinOp.add (Qn 7) (Qo (Qp (Qq (Qr Qu 1))))),Qa none (Ql 1 (Qn 3) (Qn 8))]
def f80_c4:MC:=.r0 f80_r4
def f80_c6:MC:=.rf (Qn 5) [6] .skip (.blk 1 f80_c4)
def f80_r9:List MO:=[Qa (Qv 9) (Qf 1 false (Qn 3)),Qa (Qv 10) (Qd (Qn 0)),Qa (Qv 11) (Qk Qt (Qn 10)),Qa (Qv 12) (Qe Qt Go.BinOp.lss (Qn 9) (Qn 11)),Qa (Qv 2) (Qd (Qn 12))]
def f80_c9:MC:=.r0 f80_r9
def f80_c13:MC:=.seq f80_c1 (.seq (.seq f80_c2 (.blk 0 f80_c6)) (.seq f80_c9 .ret))
def f80_c14:MC:=.seq f80_c0 f80_c13
attribute [go_sem] f80_r0 f80_r1 f80_r2 f80_r4 f80_r9
theorem f80_k : KK QP 80 f80 [] f80_c14 [(RV.t 2)] 13 := by refine ⟨func80,?_,?_,?_,?_⟩<;>kernel_rfl
theorem f80_ok : callable QP 80 = true := by kernel_rfl
theorem f80_in (h : GI QP gp [(RV.t 2)] res 13 f80_c14 args) : Does QP gp 80 args res := f80_k.i f80_ok h
def f87_r0:List MO:=[Qa (Qv 4) (Qf 1 false (Qn 1)),Qa (Qv 5) (Qk Qt (Qn 4)),Qa (Qv 6) (Qe Qt Go.BinOp.sub (Qn 5) (Qo (Qp (Qq (Qr Qu 1))))),Qa (Qv 3) (Qd (Qn 6))]
def f87_c0:MC:=.r0 f87_r0
def f87_r1:List MO:=[Qa (Qv 7) (Qd (Qn 3)),Qa (Qv 8) (Qe Qt Go.BinOp.geq (Qn 7) (Qo (Qp (Qq (Qr Qu 0)))))]
def f87_c1:MC:=.r0 f87_r1
def f87_r6:List MO:=[Qa (Qv 11) (Qd (Qn 0)),Qa (Qv 12) (Qd (Qn 3)),Qa (Qv 13) (Qf 1 false (Qn 1)),Qa (Qv 14) (Qd (Qn 3)),Qa (Qv 15) (Qj 7 (Qn 13) (Qn 14)),Qa (Qv 16) (Qf 7 true (Qn 15)),Qa (Qv 17) (MOp.callv (Qn 11) [(Qn 12),(Qn 16)]),Qa (Qv 18) (MOp.not (Qn 17))]
def f87_c6:MC:=.r0 f87_r6
def f87_r12:List MO:=[Qa (Qv 9) (Qd (Qn 3)),Qa (Qv 10) (Qe Qt Go.BinOp.sub (Qn 9) (Qo (Qp (Qq (Qr Qu 1))))),Qa (Qv 3) (Qd (Qn 10))]
def f87_c12:MC:=.r0 f87_r12
def f87_c17:MC:=.seq f87_c0 (.blk 0 (.loop (.seq (.seq f87_c1 (.cond (Qn 8) .skip (MC.exit 0))) (.seq (.blk 1 (.seq f87_c6 (.cond (Qn 18) .ret .skip))) f87_c12))))
attribute [go_sem] f87_r0 f87_r1 f87_r6 f87_r12
theorem f87_k : KK QP 87 f87 [] f87_c17 [] 19 := by refine ⟨func87,?_,?_,?_,?_⟩<;>kernel_rfl
theorem f87_ok : callable QP 87 = true := by kernel_rfl
theorem f87_tri (h : GT QP gp [] pre R 19 f87_c17 args) : Tri QP gp 87 args pre R := f87_k.t h
def f89_r1:List MO:=[Qa (Qv 5) (Qg 1 (Qn 1)),Qa (Qv 6) (Qf 1 false (Qn 5)),Qa (Qv 7) (Qk Qt (Qn 6)),Qa (Qv 8) (Qd (Qo (Qp (Qq (Qr Qu 0)))))]
def f89_c1:MC:=.r0 f89_r1
def f89_r2:List MO:=[Qa (Qv 9) (Qe Qt Go.BinOp.lss (Qn 8) (Qn 7))]
def f89_c2:MC:=.r0 f89_r2
def f89_r6:List MO:=[Qa (Qv 10) (Qd (Qn 8)),Qa (Qv 11) (Qj 6 (Qn 6) (Qn 8)),Qa (Qv 12) (Qf 6 true (Qn 11)),Qa (Qv 4) (MOp.alloc [(Qr Qu 0),(Qr Qu 0),(Qr Qu 0),(D.str (ByteArray.mk #[])),(D.sl []),(D.sl [])]),Qa (Qv 3) (Qd (Qn 10)),Qa none (Ql 6 (Qn 4) (Qn 12))]
def f89_c6:MC:=.r0 f89_r6
def f89_r7:List MO:=[Qa (Qv 13) (Qd (Qn 0)),Qa (Qv 14) (Qd (Qn 3)),Qa (Qv 15) (Qf 6 true (Qn 4)),Qa (Qv 16) (Qg 1 (Qn 1)),Qa (Qv 17) (Qf 1 false (Qn 16)),Qa (Qv 18) (Qk Qt (Qn 17)),Qa (Qv 19) (MOp.build [(Qr Qu 0),(Qr Qu 0),(Qr Qu 0),(D.str (ByteArray.mk #[])),(D.sl []),(D.sl []),(Qr Qu 0)] [(0,(6,(Qn 15))),(6,(1,(Qn 18)))]),Qa (Qv 20) (MOp.callv (Qn 13) [(Qn 14),(Qn 19)]),Qa (Qv 21) (MOp.not (Qn 20))]
def f89_c7:MC:=.r0 f89_r7
def f89_r14:List MO:=[Qa (Qv 22) (Qe Qt Go.BinOp.add (Qn 8) (Qo (Qp (Qq (Qr Qu 1))))),Qa (Qv 8) (Qd (Qn 22))]
def f89_c14:MC:=.r0 f89_r14
def f89_c17:MC:=.seq f89_c2 (.seq (.cond (Qn 9) .skip (MC.exit 0)) (.seq (.blk 1 (.seq f89_c6 (.seq f89_c7 (.cond (Qn 21) (MC.exit 0) .skip)))) f89_c14))
def f89_c22:MC:=.scope (.seq .skip (.seq f89_c1 (.blk 0 (.loop f89_c17))))
attribute [go_sem] f89_r1 f89_r2 f89_r6 f89_r7 f89_r14
theorem f89_k : KK QP 89 f89 [] f89_c22 [] 23 := by refine ⟨func89,?_,?_,?_,?_⟩<;>kernel_rfl
theorem f89_ok : callable QP 89 = true := by kernel_rfl
theorem f89_tri (h : GT QP gp [] pre R 23 f89_c22 args) : Tri QP gp 89 args pre R := f89_k.t h
def f90_r0:List MO:=[Qa (Qv 1) (MOp.ibox (Qn 0)),Qa (Qv 2) (Qd (Qo (Qp (Qq (Qs false)))))]
def f90_c0:MC:=.r0 f90_r0
def f90_r1:List MO:=[Qa (Qv 3) (Qg 0 (Qn 1)),Qa (Qv 4) (Qg 1 (Qn 3)),Qa (Qv 5) (Qf 3 true (Qn 4)),Qa (Qv 6) (Qh 18 [(Qn 5)]),Qa (Qv 7) (Qg 0 (Qn 1)),Qa (Qv 8) (Qg 4 (Qn 7)),Qa (Qv 9) (Qf 1 false (Qn 8)),Qa (Qv 10) (Qk Qt (Qn 9)),Qa (Qv 11) (Qe Qt Go.BinOp.eql (Qn 10) (Qo (Qp (Qq (Qr Qu 0))))),Qa (Qv 12) (Qg 0 (Qn 1)),Qa (Qv 13) (Qg 5 (Qn 12)),Qa (Qv 14) (Qf 1 false (Qn 13)),Qa (Qv 15) (Qk Qt (Qn 14)),Qa (Qv 16) (Qe Qt Go.BinOp.eql (Qn 15) (Qo (Qp (Qq (Qr Qu 0))))),Qa (Qv 17) (MOp.bslice 1 [(Qs false)] 3 [(0,(Qn 6)),(1,(Qn 11)),(2,(Qn 16))]),Qc (Qv 18) (Qh 114 [(Qn 17)]),Qa (Qv 2) (Qd (Qn 18))]
def f90_c1:MC:=.reg true f90_r1
def f90_c4:MC:=.seq f90_c0 (.seq f90_c1 .ret)
attribute [go_sem] f90_r0 f90_r1
theorem f90_k : KK QP 90 f90 [1] f90_c4 [(RV.t 2)] 19 := by refine ⟨func90,?_,?_,?_,?_⟩<;>kernel_rfl
theorem f90_ok : callable QP 90 = true := by kernel_rfl
theorem f90_in (h : GI QP gp [(RV.t 2)] res 19 f90_c4 args) : Does QP gp 90 args res := f90_k.i f90_ok h
def f91_r0:List MO:=[Qa (Qv 1) (MOp.ibox (Qn 0)),Qa (Qv 2) (Qd (Qo (Qp (Qq (Qs false)))))]
def f91_c0:MC:=.r0 f91_r0
def f91_r1:List MO:=[Qa (Qv 3) (Qg 0 (Qn 1)),Qa (Qv 4) (Qg 1 (Qn 3)),Qa (Qv 5) (Qf 3 true (Qn 4)),Qa (Qv 6) (MOp.build [(Qr Qu 0),(Qr Qu 0),(D.str (ByteArray.mk #[]))] []),Qa (Qv 7) (MOp.eqs false [Qt,Qt,Leaf.s] (Qn 5) (Qn 6)),Qa (Qv 8) (Qg 0 (Qn 1)),Qa (Qv 9) (Qg 4 (Qn 8)),Qa (Qv 10) (Qf 1 false (Qn 9)),Qa (Qv 11) (Qk Qt (Qn 10)),Qa (Qv 12) (Qe Qt Go.BinOp.eql (Qn 11) (Qo (Qp (Qq (Qr Qu 0))))),Qa (Qv 13) (Qf 7 true (Qn 1)),Qa (Qv 14) (Qh 115 [(Qn 13)]),Qa (Qv 15) (MOp.bslice 1 [(Qs false)] 3 [(0,(Qn 7)),(1,(Qn 12)),(2,(Qn 14))]),Qc (Qv 16) (Qh 114 [(Qn 15)]),Qa (Qv 2) (Qd (Qn 16))]
def f91_c1:MC:=.reg true f91_r1
def f91_c4:MC:=.seq f91_c0 (.seq f91_c1 .ret)
attribute [go_sem] f91_r0 f91_r1
theorem f91_k : KK QP 91 f91 [1] f91_c4 [(RV.t 2)] 17 := by refine ⟨func91,?_,?_,?_,?_⟩<;>kernel_rfl
theorem f91_ok : callable QP 91 = true := by kernel_rfl
theorem f91_in (h : GI QP gp [(RV.t 2)] res 17 f91_c4 args) : Does QP gp 91 args res := f91_k.i f91_ok h
def f92_r0:List MO:=[Qa (Qv 1) (MOp.ibox (Qn 0)),Qa (Qv 2) (Qd (Qo (Qp (Qq (Qs false)))))]
def f92_c0:MC:=.r0 f92_r0
def f92_r1:List MO:=[Qa (Qv 3) (Qg 0 (Qn 1)),Qa (Qv 4) (Qg 1 (Qn 3)),Qa (Qv 5) (Qf 3 true (Qn 4)),Qa (Qv 6) (MOp.build [(Qr Qu 0),(Qr Qu 0),(D.str (ByteArray.mk #[]))] []),Qa (Qv 7) (MOp.eqs false [Qt,Qt,Leaf.s] (Qn 5) (Qn 6)),Qa (Qv 8) (Qf 7 true (Qn 1)),Qa (Qv 9) (Qh 97 [(Qn 8)]),Qa (Qv 10) (Qf 7 true (Qn 1)),Qa (Qv 11) (Qh 116 [(Qn 10)]),Qa (Qv 12) (Qf 7 true (Qn 1)),Qa (Qv 13) (Qh 115 [(Qn 12)]),Qa (Qv 14) (MOp.bslice 1 [(Qs false)] 4 [(0,(Qn 7)),(1,(Qn 9)),(2,(Qn 11)),(3,(Qn 13))]),Qc (Qv 15) (Qh 114 [(Qn 14)]),Qa (Qv 2) (Qd (Qn 15))]
def f92_c1:MC:=.reg true f92_r1
def f92_c4:MC:=.seq f92_c0 (.seq f92_c1 .ret)
attribute [go_sem] f92_r0 f92_r1
theorem f92_k : KK QP 92 f92 [1] f92_c4 [(RV.t 2)] 16 := by refine ⟨func92,?_,?_,?_,?_⟩<;>kernel_rfl
theorem f92_ok : callable QP 92 = true := by kernel_rfl
theorem f92_in (h : GI QP gp [(RV.t 2)] res 16 f92_c4 args) : Does QP gp 92 args res := f92_k.i f92_ok h
def f97_r0:List MO:=[Qa (Qv 1) (MOp.ibox (Qn 0)),Qa (Qv 2) (Qd (Qo (Qp (Qq (Qs false)))))]
def f97_c0:MC:=.r0 f97_r0
def f97_r1:List MO:=[Qa (Qv 3) (Qg 0 (Qn 1)),Qa (Qv 4) (Qg 4 (Qn 3)),Qa (Qv 5) (Qf 1 false (Qn 4)),Qa (Qv 6) (Qk Qt (Qn 5)),Qa (Qv 7) (Qg 0 (Qn 1)),Qa (Qv 8) (Qg 5 (Qn 7)),Qa (Qv 9) (Qf 1 false (Qn 8)),Qa (Qv 10) (Qk Qt (Qn 9)),Qa (Qv 11) (Qe Qt Go.BinOp.eql (Qn 6) (Qn 10)),Qa (Qv 2) (Qd (Qn 11))]
def f97_c1:MC:=.r0 f97_r1
def f97_c4:MC:=.seq f97_c0 (.seq f97_c1 .ret)
attribute [go_sem] f97_r0 f97_r1
theorem f97_k : KK QP 97 f97 [1] f97_c4 [(RV.t 2)] 12 := by refine ⟨func97,?_,?_,?_,?_⟩<;>kernel_rfl
theorem f97_ok : callable QP 97 = true := by kernel_rfl
theorem f97_in (h : GI QP gp [(RV.t 2)] res 12 f97_c4 args) : Does QP gp 97 args res := f97_k.i f97_ok h
def f98_r0:List MO:=[Qa (Qv 4) (Qd (Qn 0)),Qa (Qv 5) (Qd (Qn 0)),Qa (Qv 6) (Qk Qt (Qn 5)),Qa (Qv 7) (Qd (Qn 1)),Qa (Qv 8) (Qh 119 [(Qn 4),(Qn 6),(Qn 7)])]
def f98_c0:MC:=.r0 f98_r0
attribute [go_sem] f98_r0
theorem f98_k : KK QP 98 f98 [] f98_c0 [] 9 := by refine ⟨func98,?_,?_,?_,?_⟩<;>kernel_rfl
theorem f98_ok : callable QP 98 = true := by kernel_rfl
theorem f98_tri (h : GT QP gp [] pre R 9 f98_c0 args) : Tri QP gp 98 args pre R := f98_k.t h
def f99_r0:List MO:=[Qa (Qv 2) (MOp.ibox (Qn 0)),Qa (Qv 3) (MOp.ibox (Qn 1)),Qa (Qv 4) (Qd (Qo (Qp (Qq (Qr Qu 0)))))]
def f99_c0:MC:=.r0 f99_r0
def f99_r1:List MO:=[Qa (Qv 5) (Qg 0 (Qn 2)),Qa (Qv 6) (Qf 3 true (Qn 5)),Qa (Qv 7) (Qg 0 (Qn 3)),Qa (Qv 8) (Qf 3 true (Qn 7)),Qa (Qv 9) (Qh 100 [(Qn 6),(Qn 8)]),Qa (Qv 4) (Qd (Qn 9))]
def f99_c1:MC:=.r0 f99_r1
def f99_c4:MC:=.seq f99_c0 (.seq f99_c1 .ret)
attribute [go_sem] f99_r0 f99_r1
theorem f99_k : KK QP 99 f99 [2,3] f99_c4 [(RV.t 4)] 10 := by refine ⟨func99,?_,?_,?_,?_⟩<;>kernel_rfl
theorem f99_ok : callable QP 99 = true := by kernel_rfl
theorem f99_in (h : GI QP gp [(RV.t 4)] res 10 f99_c4 args) : Does QP gp 99 args res := f99_k.i f99_ok h
def f100_r0:List MO:=[Qa (Qv 2) (MOp.ibox (Qn 0)),Qa (Qv 3) (MOp.ibox (Qn 1)),Qa (Qv 4) (Qd (Qo (Qp (Qq (Qr Qu 0)))))]
def f100_c0:MC:=.r0 f100_r0
def f100_r1:List MO:=[Qa (Qv 5) (Qf 3 true (Qn 2)),Qa (Qv 6) (Qf 3 true (Qn 3)),Qa (Qv 7) (MOp.eqs false [Qt,Qt,Leaf.s] (Qn 5) (Qn 6))]
def f100_c1:MC:=.r0 f100_r1
def f100_r2:List MO:=[Qa (Qv 4) (Qd (Qo (Qp (Qq (Qr Qu 0)))))]
def f100_c2:MC:=.r0 f100_r2
def f100_r8:List MO:=[Qa (Qv 8) (Qg 0 (Qn 2)),Qa (Qv 9) (Qf 1 false (Qn 8)),Qa (Qv 10) (Qg 0 (Qn 3)),Qa (Qv 11) (Qf 1 false (Qn 10)),Qa (Qv 12) (Qh 121 [(Qn 9),(Qn 11)]),Qa (Qv 13) (Qg 1 (Qn 2)),Qa (Qv 14) (Qf 1 false (Qn 13)),Qa (Qv 15) (Qg 1 (Qn 3)),Qa (Qv 16) (Qf 1 false (Qn 15)),Qa (Qv 17) (Qh 121 [(Qn 14),(Qn 16)]),Qa (Qv 18) (Qg 2 (Qn 2)),Qa (Qv 19) (Qf 1 false (Qn 18)),Qa (Qv 20) (Qg 2 (Qn 3)),Qa (Qv 21) (Qf 1 false (Qn 20)),Qc (Qv 22) (Qh 122 [(Qn 19),(Qn 21)]),Qa (Qv 23) (MOp.bslice 1 [(Qr Qu 0)] 3 [(0,(Qn 12)),(1,(Qn 17)),(2,(Qn 22))]),Qc (Qv 24) (Qh 120 [(Qn 23)]),Qa (Qv 4) (Qd (Qn 24))]
def f100_c8:MC:=.reg true f100_r8
def f100_c12:MC:=.seq f100_c0 (.seq (.seq f100_c1 (.cond (Qn 7) (.seq f100_c2 .ret) .skip)) (.seq f100_c8 .ret))
attribute [go_sem] f100_r0 f100_r1 f100_r2 f100_r8
theorem f100_k : KK QP 100 f100 [2,3] f100_c12 [(RV.t 4)] 25 := by refine ⟨func100,?_,?_,?_,?_⟩<;>kernel_rfl
theorem f100_ok : callable QP 100 = true := by kernel_rfl
theorem f100_in (h : GI QP gp [(RV.t 4)] res 25 f100_c12 args) : Does QP gp 100 args res := f100_k.i f100_ok h
def f106_r0:List MO:=[Qa (Qv 1) (MOp.ibox (Qn 0)),Qa (Qv 2) (Qd (Qo (Qp (Qq (Qs false)))))]
def f106_c0:MC:=.r0 f106_r0
def f106_r1:List MO:=[Qa (Qv 3) (Qg 0 (Qn 1)),Qa (Qv 4) (Qg 2 (Qn 3)),Qa (Qv 5) (Qf 3 true (Qn 4)),Qa (Qv 6) (Qh 18 [(Qn 5)]),Qa (Qv 7) (Qg 0 (Qn 1)),Qa (Qv 8) (Qg 5 (Qn 7)),Qa (Qv 9) (Qf 1 false (Qn 8)),Qa (Qv 10) (Qk Qt (Qn 9)),Qa (Qv 11) (Qe Qt Go.BinOp.eql (Qn 10) (Qo (Qp (Qq (Qr Qu 0))))),Qa (Qv 12) (Qg 0 (Qn 1)),Qa (Qv 13) (Qg 6 (Qn 12)),Qa (Qv 14) (Qf 1 false (Qn 13)),Qa (Qv 15) (Qk Qt (Qn 14)),Qa (Qv 16) (Qe Qt Go.BinOp.eql (Qn 15) (Qo (Qp (Qq (Qr Qu 0))))),Qa (Qv 17) (MOp.bslice 1 [(Qs false)] 3 [(0,(Qn 6)),(1,(Qn 11)),(2,(Qn 16))]),Qc (Qv 18) (Qh 128 [(Qn 17)]),Qa (Qv 2) (Qd (Qn 18))]
def f106_c1:MC:=.reg true f106_r1
def f106_c4:MC:=.seq f106_c0 (.seq f106_c1 .ret)
attribute [go_sem] f106_r0 f106_r1
theorem f106_k : KK QP 106 f106 [1] f106_c4 [(RV.t 2)] 19 := by refine ⟨func106,?_,?_,?_,?_⟩<;>kernel_rfl
theorem f106_ok : callable QP 106 = true := by kernel_rfl
theorem f106_in (h : GI QP gp [(RV.t 2)] res 19 f106_c4 args) : Does QP gp 106 args res := f106_k.i f106_ok h
def f107_r0:List MO:=[Qa (Qv 1) (MOp.ibox (Qn 0)),Qa (Qv 2) (Qd (Qo (Qp (Qq (Qs false)))))]
def f107_c0:MC:=.r0 f107_r0
def f107_r1:List MO:=[Qa (Qv 3) (Qf 7 true (Qn 1)),Qa (Qv 4) (Qh 129 [(Qn 3)]),Qa (Qv 5) (Qg 0 (Qn 1)),Qa (Qv 6) (Qg 5 (Qn 5)),Qa (Qv 7) (Qf 1 false (Qn 6)),Qa (Qv 8) (Qk Qt (Qn 7)),Qa (Qv 9) (Qe Qt Go.BinOp.eql (Qn 8) (Qo (Qp (Qq (Qr Qu 0))))),Qa (Qv 10) (MOp.bslice 1 [(Qs false)] 2 [(0,(Qn 4)),(1,(Qn 9))]),Qc (Qv 11) (Qh 128 [(Qn 10)]),Qa (Qv 2) (Qd (Qn 11))]
def f107_c1:MC:=.reg true f107_r1
def f107_c4:MC:=.seq f107_c0 (.seq f107_c1 .ret)
attribute [go_sem] f107_r0 f107_r1
theorem f107_k : KK QP 107 f107 [1] f107_c4 [(RV.t 2)] 12 := by refine ⟨func107,?_,?_,?_,?_⟩<;>kernel_rfl
theorem f107_ok : callable QP 107 = true := by kernel_rfl
theorem f107_in (h : GI QP gp [(RV.t 2)] res 12 f107_c4 args) : Does QP gp 107 args res := f107_k.i f107_ok h
def f108_r0:List MO:=[Qa (Qv 1) (MOp.ibox (Qn 0)),Qa (Qv 2) (Qd (Qo (Qp (Qq (Qs false)))))]
def f108_c0:MC:=.r0 f108_r0
def f108_r1:List MO:=[Qa (Qv 3) (Qf 7 true (Qn 1)),Qa (Qv 4) (Qh 129 [(Qn 3)]),Qa (Qv 5) (Qg 0 (Qn 1)),Qa (Qv 6) (Qg 5 (Qn 5)),Qa (Qv 7) (Qf 1 false (Qn 6)),Qa (Qv 8) (Qk Qt (Qn 7)),Qa (Qv 9) (Qg 0 (Qn 1)),Qa (Qv 10) (Qg 6 (Qn 9)),Qa (Qv 11) (Qf 1 false (Qn 10)),Qa (Qv 12) (Qk Qt (Qn 11)),Qa (Qv 13) (Qe Qt Go.BinOp.eql (Qn 8) (Qn 12)),Qa (Qv 14) (Qf 7 true (Qn 1)),Qa (Qv 15) (Qh 130 [(Qn 14)]),Qa (Qv 16) (MOp.bslice 1 [(Qs false)] 3 [(0,(Qn 4)),(1,(Qn 13)),(2,(Qn 15))]),Qc (Qv 17) (Qh 128 [(Qn 16)]),Qa (Qv 2) (Qd (Qn 17))]
def f108_c1:MC:=.reg true f108_r1
def f108_c4:MC:=.seq f108_c0 (.seq f108_c1 .ret)
attribute [go_sem] f108_r0 f108_r1
theorem f108_k : KK QP 108 f108 [1] f108_c4 [(RV.t 2)] 18 := by refine ⟨func108,?_,?_,?_,?_⟩<;>kernel_rfl
theorem f108_ok : callable QP 108 = true := by kernel_rfl
theorem f108_in (h : GI QP gp [(RV.t 2)] res 18 f108_c4 args) : Does QP gp 108 args res := f108_k.i f108_ok h
def f109_r0:List MO:=[Qa (Qv 1) (MOp.ibox (Qn 0)),Qa (Qv 2) (Qd (Qo (Qp (Qq (Qs false)))))]
def f109_c0:MC:=.r0 f109_r0
def f109_r1:List MO:=[Qa (Qv 3) (Qf 7 true (Qn 1)),Qa (Qv 4) (Qh 129 [(Qn 3)]),Qa (Qv 5) (Qg 0 (Qn 1)),Qa (Qv 6) (Qg 5 (Qn 5)),Qa (Qv 7) (Qf 1 false (Qn 6)),Qa (Qv 8) (Qk Qt (Qn 7)),Qa (Qv 9) (Qe Qt Go.BinOp.eql (Qn 8) (Qo (Qp (Qq (Qr Qu 0))))),Qa (Qv 10) (Qg 0 (Qn 1)),Qa (Qv 11) (Qg 6 (Qn 10)),Qa (Qv 12) (Qf 1 false (Qn 11)),Qa (Qv 13) (Qk Qt (Qn 12)),Qa (Qv 14) (Qe Qt Go.BinOp.eql (Qn 13) (Qo (Qp (Qq (Qr Qu 0))))),Qa (Qv 15) (Qg 0 (Qn 1)),Qa (Qv 16) (Qg 1 (Qn 15)),Qa (Qv 17) (Qf 1 false (Qn 16)),Qa (Qv 18) (Qe Leaf.s Go.BinOp.neq (Qn 17) (Qo (Qp (Qq (D.str (ByteArray.mk #[])))))),Qa (Qv 19) (MOp.bslice 1 [(Qs false)] 4 [(0,(Qn 4)),(1,(Qn 9)),(2,(Qn 14)),(3,(Qn 18))]),Qc (Qv 20) (Qh 128 [(Qn 19)]),Qa (Qv 2) (Qd (Qn 20))]
def f109_c1:MC:=.reg true f109_r1
def f109_c4:MC:=.seq f109_c0 (.seq f109_c1 .ret)
attribute [go_sem] f109_r0 f109_r1
theorem f109_k : KK QP 109 f109 [1] f109_c4 [(RV.t 2)] 21 := by refine ⟨func109,?_,?_,?_,?_⟩<;>kernel_rfl
theorem f109_ok : callable QP 109 = true := by kernel_rfl
theorem f109_in (h : GI QP gp [(RV.t 2)] res 21 f109_c4 args) : Does QP gp 109 args res := f109_k.i f109_ok h
def f110_r0:List MO:=[Qa (Qv 2) (Qd (Qo (Qp (Qq (Qs false)))))]
def f110_c0:MC:=.r0 f110_r0
def f110_r1:List MO:=[Qa (Qv 5) (Qd (Qn 0)),Qa (Qv 6) (MOp.rng (Qn 5))]
def f110_c1:MC:=.r0 f110_r1
def f110_r2:List MO:=[Qa (Qv 7) (MOp.nxt (Qn 6)),Qa (Qv 8) (Qi (Qn 7) 0)]
def f110_c2:MC:=.r0 f110_r2
def f110_r6:List MO:=[Qa (Qv 9) (Qi (Qn 7) 2),Qa (Qv 4) (Qd (Qn 9))]
def f110_c6:MC:=.r0 f110_r6
def f110_r7:List MO:=[Qa (Qv 10) (Qd (Qn 4)),Qa (Qv 11) (Qh 131 [(Qn 10)]),Qa (Qv 12) (MOp.not (Qn 11))]
def f110_c7:MC:=.r0 f110_r7
def f110_r8:List MO:=[Qa (Qv 2) (Qd (Qo (Qp (Qq (Qs false)))))]
def f110_c8:MC:=.r0 f110_r8
def f110_c17:MC:=.seq f110_c2 (.seq (.cond (Qn 8) .skip (MC.exit 0)) (.blk 1 (.seq f110_c6 (.seq f110_c7 (.cond (Qn 12) (.seq f110_c8 .ret) .skip)))))
def f110_r21:List MO:=[Qa (Qv 13) (Qd (Qn 0)),Qa (Qv 14) (Qe Leaf.s Go.BinOp.neq (Qn 13) (Qo (Qp (Qq (D.str (ByteArray.mk #[])))))),Qa (Qv 15) (Qd (Qn 14)),Qb 15 true (Qv 16),Qa (Qv 16) (Qd (Qn 0)),Qb 15 true (Qv 17),Qa (Qv 17) (Qk Leaf.s (Qn 16)),Qb 15 true (Qv 18),Qa (Qv 18) (Qe Qt Go.BinOp.leq (Qn 17) (Qo (Qp (Qq (Qr Qu 20))))),Qa (Qv 19) (Qm (Qn 15) (Qn 18) (Qo (Qp (Qq (Qs false))))),Qa (Qv 2) (Qd (Qn 19))]
def f110_c21:MC:=.r0 f110_r21
def f110_c25:MC:=.seq f110_c0 (.seq (.seq f110_c1 (.blk 0 (.loop f110_c17))) (.seq f110_c21 .ret))
attribute [go_sem] f110_r0 f110_r1 f110_r2 f110_r6 f110_r7 f110_r8 f110_r21
theorem f110_k : KK QP 110 f110 [] f110_c25 [(RV.t 2)] 20 := by refine ⟨func110,?_,?_,?_,?_⟩<;>kernel_rfl
theorem f110_ok : callable QP 110 = true := by kernel_rfl
theorem f110_in (h : GI QP gp [(RV.t 2)] res 20 f110_c25 args) : Does QP gp 110 args res := f110_k.i f110_ok h
def f111_r0:List MO:=[Qa (Qv 1) (MOp.ibox (Qn 0)),Qa (Qv 2) (Qd (Qo (Qp (Qq D.nilF))))]
def f111_c0:MC:=.r0 f111_r0
def f111_r1:List MO:=[Qa (Qv 3) (MOp.mkF (Go.Fn.func 132) [(Qn 1)]),Qa (Qv 2) (Qd (Qn 3))]
def f111_c1:MC:=.r0 f111_r1
def f111_c4:MC:=.seq f111_c0 (.seq f111_c1 .ret)
attribute [go_sem] f111_r0 f111_r1
theorem f111_k : KK QP 111 f111 [1] f111_c4 [(RV.t 2)] 4 := by refine ⟨func111,?_,?_,?_,?_⟩<;>kernel_rfl
theorem f111_ok : callable QP 111 = true := by kernel_rfl
theorem f111_in (h : GI QP gp [(RV.t 2)] res 4 f111_c4 args) : Does QP gp 111 args res := f111_k.i f111_ok h
def f114_r0:List MO:=[Qa (Qv 2) (Qd (Qo (Qp (Qq (Qs false)))))]
def f114_c0:MC:=.r0 f114_r0
def f114_r1:List MO:=[Qa (Qv 3) (Qd (Qn 0)),Qa (Qv 4) (Qh 133 [(Qn 3),(Qo (Qp (Qq (Qs false))))]),Qa (Qv 5) (MOp.not (Qn 4)),Qa (Qv 2) (Qd (Qn 5))]
def f114_c1:MC:=.r0 f114_r1
def f114_c4:MC:=.seq f114_c0 (.seq f114_c1 .ret)
attribute [go_sem] f114_r0 f114_r1
theorem f114_k : KK QP 114 f114 [] f114_c4 [(RV.t 2)] 6 := by refine ⟨func114,?_,?_,?_,?_⟩<;>kernel_rfl
theorem f114_ok : callable QP 114 = true := by kernel_rfl
theorem f114_in (h : GI QP gp [(RV.t 2)] res 6 f114_c4 args) : Does QP gp 114 args res := f114_k.i f114_ok h
def f115_r0:List MO:=[Qa (Qv 1) (MOp.ibox (Qn 0)),Qa (Qv 2) (Qd (Qo (Qp (Qq (Qs false)))))]
def f115_c0:MC:=.r0 f115_r0
def f115_r1:List MO:=[Qa (Qv 4) (MOp.mkF (Go.Fn.func 134) [(Qn 1)]),Qa (Qv 3) (Qd (Qn 4))]
def f115_c1:MC:=.r0 f115_r1
def f115_r2:List MO:=[Qa (Qv 5) (Qg 0 (Qn 1)),Qa (Qv 6) (Qg 5 (Qn 5)),Qa (Qv 7) (Qf 1 false (Qn 6)),Qa (Qv 8) (Qd (Qn 3)),Qa (Qv 9) (Qh 135 [(Qn 7),(Qn 8)]),Qa (Qv 10) (MOp.not (Qn 9)),Qa (Qv 2) (Qd (Qn 10))]
def f115_c2:MC:=.r0 f115_r2
def f115_c6:MC:=.seq f115_c0 (.seq f115_c1 (.seq f115_c2 .ret))
attribute [go_sem] f115_r0 f115_r1 f115_r2
theorem f115_k : KK QP 115 f115 [1] f115_c6 [(RV.t 2)] 11 := by refine ⟨func115,?_,?_,?_,?_⟩<;>kernel_rfl
theorem f115_ok : callable QP 115 = true := by kernel_rfl
theorem f115_in (h : GI QP gp [(RV.t 2)] res 11 f115_c6 args) : Does QP gp 115 args res := f115_k.i f115_ok h
def f116_r0:List MO:=[Qa (Qv 1) (MOp.ibox (Qn 0)),Qa (Qv 2) (Qd (Qo (Qp (Qq (Qs false)))))]
def f116_c0:MC:=.r0 f116_r0
def f116_r1:List MO:=[Qa (Qv 3) (Qd (Qo (Qp (Qq (D.fn (Go.Fn.func 136) [])))))]
def f116_c1:MC:=.r0 f116_r1
def f116_r2:List MO:=[Qa (Qv 4) (Qg 0 (Qn 1)),Qa (Qv 5) (Qg 4 (Qn 4)),Qa (Qv 6) (Qf 1 false (Qn 5)),Qa (Qv 7) (Qd (Qn 3)),Qa (Qv 8) (Qh 137 [(Qn 6),(Qn 7)]),Qa (Qv 9) (MOp.not (Qn 8)),Qa (Qv 10) (Qd (Qn 9)),Qb 10 true (Qv 11),Qa (Qv 11) (Qg 0 (Qn 1)),Qb 10 true (Qv 12),Qa (Qv 12) (Qg 4 (Qn 11)),Qb 10 true (Qv 13),Qa (Qv 13) (Qf 1 false (Qn 12)),Qb 10 true (Qv 14),Qa (Qv 14) (Qh 80 [(Qn 13)]),Qb 10 true (Qv 15),Qa (Qv 15) (MOp.not (Qn 14)),Qa (Qv 16) (Qm (Qn 10) (Qn 15) (Qo (Qp (Qq (Qs false))))),Qa (Qv 2) (Qd (Qn 16))]
def f116_c2:MC:=.r0 f116_r2
def f116_c6:MC:=.seq f116_c0 (.seq f116_c1 (.seq f116_c2 .ret))
attribute [go_sem] f116_r0 f116_r1 f116_r2
theorem f116_k : KK QP 116 f116 [1] f116_c6 [(RV.t 2)] 17 := by refine ⟨func116,?_,?_,?_,?_⟩<;>kernel_rfl
theorem f116_ok : callable QP 116 = true := by kernel_rfl
theorem f116_in (h : GI QP gp [(RV.t 2)] res 17 f116_c6 args) : Does QP gp 116 args res := f116_k.i f116_ok h
def f119_r0:List MO:=[Qa (Qv 6) (Qd (Qo (Qp (Qq (Qr Qu 20)))))]
def f119_c0:MC:=.r0 f119_r0
def f119_r1:List MO:=[Qa (Qv 10) (Qd (Qn 6)),Qa (Qv 7) (Qd (Qo (Qp (Qq (Qr Qu 0))))),Qa (Qv 8) (Qd (Qn 10))]
def f119_c1:MC:=.r0 f119_r1
def f119_r2:List MO:=[Qa (Qv 11) (Qd (Qn 8)),Qa (Qv 12) (Qd (Qn 1)),Qa (Qv 13) (Qe Qt Go.BinOp.leq (Qn 11) (Qn 12))]
def f119_c2:MC:=.r0 f119_r2
def f119_r7:List MO:=[Qa (Qv 14) (Qd (Qn 0)),Qa (Qv 15) (Qd (Qn 7)),Qa (Qv 16) (Qd (Qn 8)),Qa (Qv 17) (Qd (Qn 2)),Qa (Qv 18) (Qh 140 [(Qn 14),(Qn 15),(Qn 16),(Qn 17)])]
def f119_c7:MC:=.r0 f119_r7
def f119_r8:List MO:=[Qa (Qv 19) (Qd (Qn 8)),Qa (Qv 7) (Qd (Qn 19))]
def f119_c8:MC:=.r0 f119_r8
def f119_r9:List MO:=[Qa (Qv 20) (Qd (Qn 8)),Qa (Qv 21) (Qd (Qn 6)),Qa (Qv 22) (Qe Qt Go.BinOp.add (Qn 20) (Qn 21)),Qa (Qv 8) (Qd (Qn 22))]
def f119_c9:MC:=.r0 f119_r9
def f119_c13:MC:=.seq (.seq f119_c2 (.cond (Qn 13) .skip (MC.exit 0))) (.blk 1 (.seq f119_c7 (.seq f119_c8 f119_c9)))
def f119_r16:List MO:=[Qa (Qv 23) (Qd (Qn 0)),Qa (Qv 24) (Qd (Qn 7)),Qa (Qv 25) (Qd (Qn 1)),Qa (Qv 26) (Qd (Qn 2)),Qa (Qv 27) (Qh 140 [(Qn 23),(Qn 24),(Qn 25),(Qn 26)])]
def f119_c16:MC:=.r0 f119_r16
def f119_r17:List MO:=[Qa (Qv 28) (Qd (Qn 6)),Qa (Qv 29) (Qd (Qn 1)),Qa (Qv 30) (Qe Qt Go.BinOp.lss (Qn 28) (Qn 29))]
def f119_c17:MC:=.r0 f119_r17
def f119_r22:List MO:=[Qa (Qv 31) (Qd (Qn 6)),Qa (Qv 32) (Qe Qt Go.BinOp.mul (Qo (Qp (Qq (Qr Qu 2)))) (Qn 31)),Qa (Qv 7) (Qd (Qo (Qp (Qq (Qr Qu 0))))),Qa (Qv 8) (Qd (Qn 32))]
def f119_c22:MC:=.r0 f119_r22
def f119_r23:List MO:=[Qa (Qv 33) (Qd (Qn 8)),Qa (Qv 34) (Qd (Qn 1)),Qa (Qv 35) (Qe Qt Go.BinOp.leq (Qn 33) (Qn 34))]
def f119_c23:MC:=.r0 f119_r23
def f119_r28:List MO:=[Qa (Qv 36) (Qd (Qn 0)),Qa (Qv 37) (Qd (Qn 7)),Qa (Qv 38) (Qd (Qn 7)),Qa (Qv 39) (Qd (Qn 6)),Qa (Qv 40) (Qe Qt Go.BinOp.add (Qn 38) (Qn 39)),Qa (Qv 41) (Qd (Qn 8)),Qa (Qv 42) (Qd (Qn 2)),Qa (Qv 43) (Qh 141 [(Qn 36),(Qn 37),(Qn 40),(Qn 41),(Qn 42)])]
def f119_c28:MC:=.r0 f119_r28
def f119_r29:List MO:=[Qa (Qv 44) (Qd (Qn 8)),Qa (Qv 7) (Qd (Qn 44))]
def f119_c29:MC:=.r0 f119_r29
def f119_r30:List MO:=[Qa (Qv 45) (Qd (Qn 8)),Qa (Qv 46) (Qd (Qn 6)),Qa (Qv 47) (Qe Qt Go.BinOp.mul (Qo (Qp (Qq (Qr Qu 2)))) (Qn 46)),Qa (Qv 48) (Qe Qt Go.BinOp.add (Qn 45) (Qn 47)),Qa (Qv 8) (Qd (Qn 48))]
def f119_c30:MC:=.r0 f119_r30
def f119_c34:MC:=.seq (.seq f119_c23 (.cond (Qn 35) .skip (MC.exit 4))) (.blk 5 (.seq f119_c28 (.seq f119_c29 f119_c30)))
def f119_r37:List MO:=[Qa (Qv 49) (Qd (Qn 7)),Qa (Qv 50) (Qd (Qn 6)),Qa (Qv 51) (Qe Qt Go.BinOp.add (Qn 49) (Qn 50)),Qa (Qv 9) (Qd (Qn 51))]
def f119_c37:MC:=.r0 f119_r37
def f119_r38:List MO:=[Qa (Qv 52) (Qd (Qn 9)),Qa (Qv 53) (Qd (Qn 1)),Qa (Qv 54) (Qe Qt Go.BinOp.lss (Qn 52) (Qn 53))]
def f119_c38:MC:=.r0 f119_r38
def f119_r39:List MO:=[Qa (Qv 55) (Qd (Qn 0)),Qa (Qv 56) (Qd (Qn 7)),Qa (Qv 57) (Qd (Qn 9)),Qa (Qv 58) (Qd (Qn 1)),Qa (Qv 59) (Qd (Qn 2)),Qa (Qv 60) (Qh 141 [(Qn 55),(Qn 56),(Qn 57),(Qn 58),(Qn 59)])]
def f119_c39:MC:=.r0 f119_r39
def f119_r44:List MO:=[Qa (Qv 61) (Qd (Qn 6)),Qa (Qv 62) (Qe Qt Go.BinOp.mul (Qn 61) (Qo (Qp (Qq (Qr Qu 2))))),Qa (Qv 6) (Qd (Qn 62))]
def f119_c44:MC:=.r0 f119_r44
def f119_c45:MC:=.seq (.seq f119_c37 (.seq f119_c38 (.cond (Qn 54) f119_c39 .skip))) f119_c44
def f119_c49:MC:=.seq (.seq f119_c17 (.cond (Qn 30) .skip (MC.exit 2))) (.blk 3 (.seq f119_c22 (.seq (.blk 4 (.loop f119_c34)) f119_c45)))
def f119_c54:MC:=.seq f119_c1 (.seq (.blk 0 (.loop f119_c13)) (.seq f119_c16 (.blk 2 (.loop f119_c49))))
def f119_c55:MC:=.seq f119_c0 f119_c54
attribute [go_sem] f119_r0 f119_r1 f119_r2 f119_r7 f119_r8 f119_r9 f119_r16 f119_r17 f119_r22 f119_r23 f119_r28 f119_r29 f119_r30 f119_r37 f119_r38 f119_r39 f119_r44
theorem f119_k : KK QP 119 f119 [] f119_c55 [] 63 := by refine ⟨func119,?_,?_,?_,?_⟩<;>kernel_rfl
theorem f119_ok : callable QP 119 = true := by kernel_rfl
theorem f119_tri (h : GT QP gp [] pre R 63 f119_c55 args) : Tri QP gp 119 args pre R := f119_k.t h
def f120_r0:List MO:=[Qa (Qv 2) (Qd (Qo (Qp (Qq (Qr Qu 0)))))]
def f120_c0:MC:=.r0 f120_r0
def f120_r1:List MO:=[Qa (Qv 3) (Qd (Qo (Qp (Qq (Qr Qu 0)))))]
def f120_c1:MC:=.r0 f120_r1
def f120_r2:List MO:=[Qa (Qv 6) (Qd (Qn 0)),Qa (Qv 7) (Qk Qt (Qn 6)),Qa (Qv 8) (Qd (Qo (Qp (Qq (Qr Qu 0)))))]
def f120_c2:MC:=.r0 f120_r2
def f120_r3:List MO:=[Qa (Qv 9) (Qe Qt Go.BinOp.lss (Qn 8) (Qn 7))]
def f120_c3:MC:=.r0 f120_r3
def f120_r7:List MO:=[Qa (Qv 10) (Qj 1 (Qn 6) (Qn 8)),Qa (Qv 11) (Qf 1 false (Qn 10)),Qa (Qv 5) (Qd (Qn 11))]
def f120_c7:MC:=.r0 f120_r7
def f120_r8:List MO:=[Qa (Qv 12) (Qd (Qn 5)),Qa (Qv 13) (Qd (Qn 3)),Qa (Qv 14) (Qe Qt Go.BinOp.neq (Qn 12) (Qn 13))]
def f120_c8:MC:=.r0 f120_r8
def f120_r9:List MO:=[Qa (Qv 15) (Qd (Qn 5)),Qa (Qv 2) (Qd (Qn 15))]
def f120_c9:MC:=.r0 f120_r9
def f120_r17:List MO:=[Qa (Qv 16) (Qe Qt Go.BinOp.add (Qn 8) (Qo (Qp (Qq (Qr Qu 1))))),Qa (Qv 8) (Qd (Qn 16))]
def f120_c17:MC:=.r0 f120_r17
def f120_c18:MC:=.seq (.blk 1 (.seq f120_c7 (.seq f120_c8 (.cond (Qn 14) (.seq f120_c9 .ret) .skip)))) f120_c17
def f120_r24:List MO:=[Qa (Qv 17) (Qd (Qn 3)),Qa (Qv 2) (Qd (Qn 17))]
def f120_c24:MC:=.r0 f120_r24
def f120_c27:MC:=.seq (.seq f120_c2 (.blk 0 (.loop (.seq f120_c3 (.seq (.cond (Qn 9) .skip (MC.exit 0)) f120_c18))))) (.seq f120_c24 .ret)
def f120_c29:MC:=.seq f120_c0 (.seq f120_c1 f120_c27)
attribute [go_sem] f120_r0 f120_r1 f120_r2 f120_r3 f120_r7 f120_r8 f120_r9 f120_r17 f120_r24
theorem f120_k : KK QP 120 f120 [] f120_c29 [(RV.t 2)] 18 := by refine ⟨func120,?_,?_,?_,?_⟩<;>kernel_rfl
theorem f120_ok : callable QP 120 = true := by kernel_rfl
theorem f120_in (h : GI QP gp [(RV.t 2)] res 18 f120_c29 args) : Does QP gp 120 args res := f120_k.i f120_ok h
def f121_r0:List MO:=[Qa (Qv 4) (Qd (Qo (Qp (Qq (Qr Qu 0)))))]
def f121_c0:MC:=.r0 f121_r0
def f121_r1:List MO:=[Qa (Qv 7) (Qd (Qn 0)),Qa (Qv 8) (Qh 142 [(Qn 7)]),Qa (Qv 5) (Qd (Qn 8))]
def f121_c1:MC:=.r0 f121_r1
def f121_r2:List MO:=[Qa (Qv 9) (Qd (Qn 1)),Qa (Qv 10) (Qh 142 [(Qn 9)]),Qa (Qv 6) (Qd (Qn 10))]
def f121_c2:MC:=.r0 f121_r2
def f121_r3:List MO:=[Qa (Qv 11) (Qd (Qn 5))]
def f121_c3:MC:=.r0 f121_r3
def f121_r4:List MO:=[Qa (Qv 12) (Qd (Qn 6))]
def f121_c4:MC:=.r0 f121_r4
def f121_r5:List MO:=[Qa (Qv 4) (Qd (Qo (Qp (Qq (Qr Qu 0)))))]
def f121_c5:MC:=.r0 f121_r5
def f121_r11:List MO:=[Qa (Qv 4) (Qd (Qo (Qp (Qq (Qr Qu (-1))))))]
def f121_c11:MC:=.r0 f121_r11
def f121_c17:MC:=.seq f121_c3 (.cond (Qn 11) (.seq (.seq f121_c4 (.cond (Qn 12) (.seq f121_c5 .ret) .skip)) (.seq f121_c11 .ret)) .skip)
def f121_r18:List MO:=[Qa (Qv 13) (Qd (Qn 6))]
def f121_c18:MC:=.r0 f121_r18
def f121_r19:List MO:=[Qa (Qv 4) (Qd (Qo (Qp (Qq (Qr Qu 1)))))]
def f121_c19:MC:=.r0 f121_r19
def f121_r25:List MO:=[Qa (Qv 14) (Qd (Qn 0)),Qa (Qv 15) (Qd (Qn 1)),Qa (Qv 16) (Qe Qt Go.BinOp.lss (Qn 14) (Qn 15))]
def f121_c25:MC:=.r0 f121_r25
def f121_r26:List MO:=[Qa (Qv 4) (Qd (Qo (Qp (Qq (Qr Qu (-1))))))]
def f121_c26:MC:=.r0 f121_r26
def f121_r32:List MO:=[Qa (Qv 17) (Qd (Qn 0)),Qa (Qv 18) (Qd (Qn 1)),Qa (Qv 19) (Qe Qt Go.BinOp.gtr (Qn 17) (Qn 18))]
def f121_c32:MC:=.r0 f121_r32
def f121_r33:List MO:=[Qa (Qv 4) (Qd (Qo (Qp (Qq (Qr Qu 1)))))]
def f121_c33:MC:=.r0 f121_r33
def f121_r39:List MO:=[Qa (Qv 4) (Qd (Qo (Qp (Qq (Qr Qu 0)))))]
def f121_c39:MC:=.r0 f121_r39
def f121_c43:MC:=.seq (.seq f121_c25 (.cond (Qn 16) (.seq f121_c26 .ret) .skip)) (.seq (.seq f121_c32 (.cond (Qn 19) (.seq f121_c33 .ret) .skip)) (.seq f121_c39 .ret))
def f121_c45:MC:=.seq f121_c17 (.seq (.seq f121_c18 (.cond (Qn 13) (.seq f121_c19 .ret) .skip)) f121_c43)
def f121_c48:MC:=.seq f121_c0 (.seq f121_c1 (.seq f121_c2 f121_c45))
attribute [go_sem] f121_r0 f121_r1 f121_r2 f121_r3 f121_r4 f121_r5 f121_r11 f121_r18 f121_r19 f121_r25 f121_r26 f121_r32 f121_r33 f121_r39
theorem f121_k : KK QP 121 f121 [] f121_c48 [(RV.t 4)] 20 := by refine ⟨func121,?_,?_,?_,?_⟩<;>kernel_rfl
theorem f121_ok : callable QP 121 = true := by kernel_rfl
theorem f121_in (h : GI QP gp [(RV.t 4)] res 20 f121_c48 args) : Does QP gp 121 args res := f121_k.i f121_ok h
def f122_r0:List MO:=[Qa (Qv 4) (Qd (Qo (Qp (Qq (Qr Qu 0)))))]
def f122_c0:MC:=.r0 f122_r0
def f122_r1:List MO:=[Qa (Qv 7) (Qd (Qn 0)),Qa (Qv 8) (Qh 143 [(Qn 7)]),Qa (Qv 5) (Qd (Qn 8))]
def f122_c1:MC:=.r0 f122_r1
def f122_r2:List MO:=[Qa (Qv 9) (Qd (Qn 1)),Qa (Qv 10) (Qh 143 [(Qn 9)]),Qa (Qv 6) (Qd (Qn 10))]
def f122_c2:MC:=.r0 f122_r2
def f122_r3:List MO:=[Qa (Qv 11) (Qd (Qn 5))]
def f122_c3:MC:=.r0 f122_r3
def f122_r4:List MO:=[Qa (Qv 12) (Qd (Qn 6))]
def f122_c4:MC:=.r0 f122_r4
def f122_r5:List MO:=[Qa (Qv 4) (Qd (Qo (Qp (Qq (Qr Qu 0)))))]
def f122_c5:MC:=.r0 f122_r5
def f122_r11:List MO:=[Qa (Qv 4) (Qd (Qo (Qp (Qq (Qr Qu (-1))))))]
def f122_c11:MC:=.r0 f122_r11
def f122_c17:MC:=.seq f122_c3 (.cond (Qn 11) (.seq (.seq f122_c4 (.cond (Qn 12) (.seq f122_c5 .ret) .skip)) (.seq f122_c11 .ret)) .skip)
def f122_r18:List MO:=[Qa (Qv 13) (Qd (Qn 6))]
def f122_c18:MC:=.r0 f122_r18
def f122_r19:List MO:=[Qa (Qv 4) (Qd (Qo (Qp (Qq (Qr Qu 1)))))]
def f122_c19:MC:=.r0 f122_r19
def f122_r25:List MO:=[Qa (Qv 14) (Qd (Qn 0)),Qa (Qv 15) (Qd (Qn 1)),Qa (Qv 16) (Qe Leaf.s Go.BinOp.lss (Qn 14) (Qn 15))]
def f122_c25:MC:=.r0 f122_r25
def f122_r26:List MO:=[Qa (Qv 4) (Qd (Qo (Qp (Qq (Qr Qu (-1))))))]
def f122_c26:MC:=.r0 f122_r26
def f122_r32:List MO:=[Qa (Qv 17) (Qd (Qn 0)),Qa (Qv 18) (Qd (Qn 1)),Qa (Qv 19) (Qe Leaf.s Go.BinOp.gtr (Qn 17) (Qn 18))]
def f122_c32:MC:=.r0 f122_r32
def f122_r33:List MO:=[Qa (Qv 4) (Qd (Qo (Qp (Qq (Qr Qu 1)))))]
def f122_c33:MC:=.r0 f122_r33
def f122_r39:List MO:=[Qa (Qv 4) (Qd (Qo (Qp (Qq (Qr Qu 0)))))]
def f122_c39:MC:=.r0 f122_r39
def f122_c43:MC:=.seq (.seq f122_c25 (.cond (Qn 16) (.seq f122_c26 .ret) .skip)) (.seq (.seq f122_c32 (.cond (Qn 19) (.seq f122_c33 .ret) .skip)) (.seq f122_c39 .ret))
def f122_c45:MC:=.seq f122_c17 (.seq (.seq f122_c18 (.cond (Qn 13) (.seq f122_c19 .ret) .skip)) f122_c43)
def f122_c48:MC:=.seq f122_c0 (.seq f122_c1 (.seq f122_c2 f122_c45))
attribute [go_sem] f122_r0 f122_r1 f122_r2 f122_r3 f122_r4 f122_r5 f122_r11 f122_r18 f122_r19 f122_r25 f122_r26 f122_r32 f122_r33 f122_r39
theorem f122_k : KK QP 122 f122 [] f122_c48 [(RV.t 4)] 20 := by refine ⟨func122,?_,?_,?_,?_⟩<;>kernel_rfl
theorem f122_ok : callable QP 122 = true := by kernel_rfl
theorem f122_in (h : GI QP gp [(RV.t 4)] res 20 f122_c48 args) : Does QP gp 122 args res := f122_k.i f122_ok h
def f128_r0:List MO:=[Qa (Qv 2) (Qd (Qo (Qp (Qq (Qs false)))))]
def f128_c0:MC:=.r0 f128_r0
def f128_r1:List MO:=[Qa (Qv 3) (Qd (Qn 0)),Qa (Qv 4) (Qh 133 [(Qn 3),(Qo (Qp (Qq (Qs false))))]),Qa (Qv 5) (MOp.not (Qn 4)),Qa (Qv 2) (Qd (Qn 5))]
def f128_c1:MC:=.r0 f128_r1
def f128_c4:MC:=.seq f128_c0 (.seq f128_c1 .ret)
attribute [go_sem] f128_r0 f128_r1
theorem f128_k : KK QP 128 f128 [] f128_c4 [(RV.t 2)] 6 := by refine ⟨func128,?_,?_,?_,?_⟩<;>kernel_rfl
theorem f128_ok : callable QP 128 = true := by kernel_rfl
theorem f128_in (h : GI QP gp [(RV.t 2)] res 6 f128_c4 args) : Does QP gp 128 args res := f128_k.i f128_ok h
def f129_r0:List MO:=[Qa (Qv 1) (MOp.ibox (Qn 0)),Qa (Qv 2) (Qd (Qo (Qp (Qq (Qs false)))))]
def f129_c0:MC:=.r0 f129_r0
def f129_r1:List MO:=[Qa (Qv 3) (Qg 0 (Qn 1)),Qa (Qv 4) (Qg 2 (Qn 3)),Qa (Qv 5) (Qf 3 true (Qn 4)),Qa (Qv 6) (MOp.build [(Qr Qu 0),(Qr Qu 0),(D.str (ByteArray.mk #[]))] []),Qa (Qv 7) (MOp.eqs false [Qt,Qt,Leaf.s] (Qn 5) (Qn 6)),Qa (Qv 2) (Qd (Qn 7))]
def f129_c1:MC:=.r0 f129_r1
def f129_c4:MC:=.seq f129_c0 (.seq f129_c1 .ret)
attribute [go_sem] f129_r0 f129_r1
theorem f129_k : KK QP 129 f129 [1] f129_c4 [(RV.t 2)] 8 := by refine ⟨func129,?_,?_,?_,?_⟩<;>kernel_rfl
theorem f129_ok : callable QP 129 = true := by kernel_rfl
theorem f129_in (h : GI QP gp [(RV.t 2)] res 8 f129_c4 args) : Does QP gp 129 args res := f129_k.i f129_ok h
def f130_r0:List MO:=[Qa (Qv 1) (MOp.ibox (Qn 0)),Qa (Qv 2) (Qd (Qo (Qp (Qq (Qs false)))))]
def f130_c0:MC:=.r0 f130_r0
def f130_r1:List MO:=[Qa (Qv 3) (Qd (Qo (Qp (Qq (D.fn (Go.Fn.func 146) [])))))]
def f130_c1:MC:=.r0 f130_r1
def f130_r2:List MO:=[Qa (Qv 4) (Qg 0 (Qn 1)),Qa (Qv 5) (Qg 5 (Qn 4)),Qa (Qv 6) (Qf 1 false (Qn 5)),Qa (Qv 7) (Qd (Qn 3)),Qa (Qv 8) (Qh 137 [(Qn 6),(Qn 7)]),Qa (Qv 9) (MOp.not (Qn 8)),Qa (Qv 2) (Qd (Qn 9))]
def f130_c2:MC:=.r0 f130_r2
def f130_c6:MC:=.seq f130_c0 (.seq f130_c1 (.seq f130_c2 .ret))
attribute [go_sem] f130_r0 f130_r1 f130_r2
theorem f130_k : KK QP 130 f130 [1] f130_c6 [(RV.t 2)] 10 := by refine ⟨func130,?_,?_,?_,?_⟩<;>kernel_rfl
theorem f130_ok : callable QP 130 = true := by kernel_rfl
theorem f130_in (h : GI QP gp [(RV.t 2)] res 10 f130_c6 args) : Does QP gp 130 args res := f130_k.i f130_ok h
def f131_r0:List MO:=[Qa (Qv 2) (Qd (Qo (Qp (Qq (Qs false)))))]
def f131_c0:MC:=.r0 f131_r0
def f131_r1:List MO:=[Qa (Qv 3) (Qd (Qn 0)),Qa (Qv 4) (Qe Qt Go.BinOp.geq (Qn 3) (Qo (Qp (Qq (Qr Go.IntKind.i32 65))))),Qa (Qv 5) (Qd (Qn 4)),Qb 5 true (Qv 6),Qa (Qv 6) (Qd (Qn 0)),Qb 5 true (Qv 7),Qa (Qv 7) (Qe Qt Go.BinOp.leq (Qn 6) (Qo (Qp (Qq (Qr Go.IntKind.i32 90))))),Qa (Qv 8) (Qm (Qn 5) (Qn 7) (Qo (Qp (Qq (Qs false))))),Qa (Qv 9) (Qd (Qn 8)),Qb 9 false (Qv 10),Qa (Qv 10) (Qd (Qn 0)),Qb 9 false (Qv 11),Qa (Qv 11) (Qe Qt Go.BinOp.geq (Qn 10) (Qo (Qp (Qq (Qr Go.IntKind.i32 97))))),Qb 9 false (Qv 12),Qa (Qv 12) (Qd (Qn 11)),Qb 12 true (Qv 13),Qa (Qv 13) (Qd (Qn 0)),Qb 12 true (Qv 14),Qa (Qv 14) (Qe Qt Go.BinOp.leq (Qn 13) (Qo (Qp (Qq (Qr Go.IntKind.i32 122))))),Qb 9 false (Qv 15),Qa (Qv 15) (Qm (Qn 12) (Qn 14) (Qo (Qp (Qq (Qs false))))),Qa (Qv 16) (Qm (Qn 9) (Qo (Qp (Qq (Qs true)))) (Qn 15)),Qa (Qv 17) (Qd (Qn 16)),Qb 17 false (Qv 18),Qa (Qv 18) (Qd (Qn 0)),Qb 17 false (Qv 19),Qa (Qv 19) (Qe Qt Go.BinOp.geq (Qn 18) (Qo (Qp (Qq (Qr Go.IntKind.i32 48))))),Qb 17 false (Qv 20),Qa (Qv 20) (Qd (Qn 19)),Qb 20 true (Qv 21),Qa (Qv 21) (Qd (Qn 0)),Qb 20 true (Qv 22),Qa (Qv 22) (Qe Qt Go.BinOp.leq (Qn 21) (Qo (Qp (Qq (Qr Go.IntKind.i32 57))))),Qb 17 false (Qv 23),Qa (Qv 23) (Qm (Qn 20) (Qn 22) (Qo (Qp (Qq (Qs false))))),Qa (Qv 24) (Qm (Qn 17) (Qo (Qp (Qq (Qs true)))) (Qn 23)),Qa (Qv 25) (Qd (Qn 24)),Qb 25 false (Qv 26),Qa (Qv 26) (Qd (Qn 0)),Qb 25 false (Qv 27),Qa (Qv 27) (Qe Qt Go.BinOp.eql (Qn 26) (Qo (Qp (Qq (Qr Go.IntKind.i32 95))))),Qa (Qv 28) (Qm (Qn 25) (Qo (Qp (Qq (Qs true)))) (Qn 27)),Qa (Qv 29) (Qd (Qn 28)),Qb 29 false (Qv 30),Qa (Qv 30) (Qd (Qn 0)),Qb 29 false (Qv 31),Qa (Qv 31) (Qe Qt Go.BinOp.eql (Qn 30) (Qo (Qp (Qq (Qr Go.IntKind.i32 45))))),Qa (Qv 32) (Qm (Qn 29) (Qo (Qp (Qq (Qs true)))) (Qn 31)),Qa (Qv 2) (Qd (Qn 32))]
def f131_c1:MC:=.r0 f131_r1
def f131_c4:MC:=.seq f131_c0 (.seq f131_c1 .ret)
attribute [go_sem] f131_r0 f131_r1
theorem f131_k : KK QP 131 f131 [] f131_c4 [(RV.t 2)] 33 := by refine ⟨func131,?_,?_,?_,?_⟩<;>kernel_rfl
theorem f131_ok : callable QP 131 = true := by kernel_rfl
theorem f131_in (h : GI QP gp [(RV.t 2)] res 33 f131_c4 args) : Does QP gp 131 args res := f131_k.i f131_ok h
def f132_r0:List MO:=[Qa (Qv 6) MOp.mkM,Qa (Qv 3) (Qd (Qn 6))]
def f132_c0:MC:=.r0 f132_r0
def f132_r2:List MO:=[Qa (Qv 7) (Qf 1 false (Qn 1)),Qa (Qv 8) (Qk Qt (Qn 7)),Qa (Qv 9) (Qd (Qo (Qp (Qq (Qr Qu 0)))))]
def f132_c2:MC:=.r0 f132_r2
def f132_r3:List MO:=[Qa (Qv 10) (Qe Qt Go.BinOp.lss (Qn 9) (Qn 8))]
def f132_c3:MC:=.r0 f132_r3
def f132_r7:List MO:=[Qa (Qv 11) (Qj 3 (Qn 7) (Qn 9)),Qa (Qv 12) (Qf 3 true (Qn 11)),Qa (Qv 5) (MOp.alloc [(Qr Qu 0),(Qr Qu 0),(D.str (ByteArray.mk #[]))]),Qa none (Ql 3 (Qn 5) (Qn 12))]
def f132_c7:MC:=.r0 f132_r7
def f132_r8:List MO:=[Qa (Qv 13) (Qd (Qn 3)),Qa (Qv 14) (Qf 3 true (Qn 5)),Qa (Qv 15) (MOp.lkp false (Qp (Qq (Qs false))) true [Qt,Qt,Leaf.s] (Qn 13) (Qn 14)),Qa (Qv 16) (Qd (Qn 15)),Qb 16 false (Qv 17),Qa (Qv 17) (Qd (Qn 0)),Qb 16 false (Qv 18),Qa (Qv 18) (Qf 3 true (Qn 5)),Qb 16 false (Qv 19),Qa (Qv 19) (MOp.callv (Qn 17) [(Qn 18)]),Qb 16 false (Qv 20),Qa (Qv 20) (MOp.not (Qn 19)),Qa (Qv 21) (Qm (Qn 16) (Qo (Qp (Qq (Qs true)))) (Qn 20))]
def f132_c8:MC:=.r0 f132_r8
def f132_r13:List MO:=[Qa (Qv 22) (Qd (Qn 3)),Qa (Qv 23) (Qf 3 true (Qn 5)),Qa none (MOp.mupd true [Qt,Qt,Leaf.s] (Qn 22) (Qn 23) (Qo (Qp (Qq (Qs true)))))]
def f132_c13:MC:=.r0 f132_r13
def f132_r17:List MO:=[Qa (Qv 24) (Qe Qt Go.BinOp.add (Qn 9) (Qo (Qp (Qq (Qr Qu 1))))),Qa (Qv 9) (Qd (Qn 24))]
def f132_c17:MC:=.r0 f132_r17
def f132_c18:MC:=.seq (.blk 1 (.seq f132_c7 (.seq (.seq f132_c8 (.cond (Qn 21) (MC.exit 0) .skip)) f132_c13))) f132_c17
def f132_c25:MC:=.seq f132_c0 (.seq .skip (.seq f132_c2 (.blk 0 (.loop (.seq f132_c3 (.seq (.cond (Qn 10) .skip (MC.exit 0)) f132_c18))))))
def f132_c26:MC:=.scope f132_c25
attribute [go_sem] f132_r0 f132_r2 f132_r3 f132_r7 f132_r8 f132_r13 f132_r17
theorem f132_k : KK QP 132 f132 [] f132_c26 [] 25 := by refine ⟨func132,?_,?_,?_,?_⟩<;>kernel_rfl
theorem f132_ok : callable QP 132 = true := by kernel_rfl
theorem f132_tri (h : GT QP gp [] pre R 25 f132_c26 args) : Tri QP gp 132 args pre R := f132_k.t h
def f133_r0:List MO:=[Qa (Qv 4) (Qd (Qo (Qp (Qq (Qs false)))))]
def f133_c0:MC:=.r0 f133_r0
def f133_r1:List MO:=[Qa (Qv 5) (Qd (Qn 0)),Qa (Qv 6) (Qd (Qn 1)),Qa (Qv 7) (Qh 147 [(Qn 5),(Qn 6)]),Qa (Qv 8) (Qe Qt Go.BinOp.geq (Qn 7) (Qo (Qp (Qq (Qr Qu 0))))),Qa (Qv 4) (Qd (Qn 8))]
def f133_c1:MC:=.r0 f133_r1
def f133_c4:MC:=.seq f133_c0 (.seq f133_c1 .ret)
attribute [go_sem] f133_r0 f133_r1
theorem f133_k : KK QP 133 f133 [] f133_c4 [(RV.t 4)] 9 := by refine ⟨func133,?_,?_,?_,?_⟩<;>kernel_rfl
theorem f133_ok : callable QP 133 = true := by kernel_rfl
theorem f133_in (h : GI QP gp [(RV.t 4)] res 9 f133_c4 args) : Does QP gp 133 args res := f133_k.i f133_ok h
def f134_r0:List MO:=[Qa (Qv 3) (Qd (Qo (Qp (Qq (Qs false)))))]
def f134_c0:MC:=.r0 f134_r0
def f134_r1:List MO:=[Qa (Qv 4) (Qd (Qn 0)),Qa (Qv 5) (Qe Qt Go.BinOp.lss (Qn 4) (Qo (Qp (Qq (Qr Qu 0))))),Qa (Qv 6) (Qd (Qn 5)),Qb 6 false (Qv 7),Qa (Qv 7) (Qd (Qn 0)),Qb 6 false (Qv 8),Qa (Qv 8) (Qg 6 (Qn 1)),Qb 6 false (Qv 9),Qa (Qv 9) (Qf 1 false (Qn 8)),Qb 6 false (Qv 10),Qa (Qv 10) (Qe Qt Go.BinOp.geq (Qn 7) (Qn 9)),Qa (Qv 11) (Qm (Qn 6) (Qo (Qp (Qq (Qs true)))) (Qn 10)),Qa (Qv 3) (Qd (Qn 11))]
def f134_c1:MC:=.r0 f134_r1
def f134_c4:MC:=.seq f134_c0 (.seq f134_c1 .ret)
attribute [go_sem] f134_r0 f134_r1
theorem f134_k : KK QP 134 f134 [] f134_c4 [(RV.t 3)] 12 := by refine ⟨func134,?_,?_,?_,?_⟩<;>kernel_rfl
theorem f134_ok : callable QP 134 = true := by kernel_rfl
theorem f134_in (h : GI QP gp [(RV.t 3)] res 12 f134_c4 args) : Does QP gp 134 args res := f134_k.i f134_ok h
def f135_r0:List MO:=[Qa (Qv 4) (Qd (Qo (Qp (Qq (Qs false)))))]
def f135_c0:MC:=.r0 f135_r0
def f135_r1:List MO:=[Qa (Qv 5) (Qd (Qn 0)),Qa (Qv 6) (Qd (Qn 1)),Qa (Qv 7) (Qh 148 [(Qn 5),(Qn 6)]),Qa (Qv 8) (Qe Qt Go.BinOp.geq (Qn 7) (Qo (Qp (Qq (Qr Qu 0))))),Qa (Qv 4) (Qd (Qn 8))]
def f135_c1:MC:=.r0 f135_r1
def f135_c4:MC:=.seq f135_c0 (.seq f135_c1 .ret)
attribute [go_sem] f135_r0 f135_r1
theorem f135_k : KK QP 135 f135 [] f135_c4 [(RV.t 4)] 9 := by refine ⟨func135,?_,?_,?_,?_⟩<;>kernel_rfl
theorem f135_ok : callable QP 135 = true := by kernel_rfl
theorem f135_in (h : GI QP gp [(RV.t 4)] res 9 f135_c4 args) : Does QP gp 135 args res := f135_k.i f135_ok h
def f136_r0:List MO:=[Qa (Qv 1) (MOp.ibox (Qn 0)),Qa (Qv 2) (Qd (Qo (Qp (Qq (Qs false)))))]
def f136_c0:MC:=.r0 f136_r0
def f136_r1:List MO:=[Qa (Qv 3) (Qf 3 true (Qn 1)),Qa (Qv 4) (Qh 18 [(Qn 3)]),Qa (Qv 5) (MOp.not (Qn 4)),Qa (Qv 2) (Qd (Qn 5))]
def f136_c1:MC:=.r0 f136_r1
def f136_c4:MC:=.seq f136_c0 (.seq f136_c1 .ret)
attribute [go_sem] f136_r0 f136_r1
theorem f136_k : KK QP 136 f136 [1] f136_c4 [(RV.t 2)] 6 := by refine ⟨func136,?_,?_,?_,?_⟩<;>kernel_rfl
theorem f136_ok : callable QP 136 = true := by kernel_rfl
theorem f136_in (h : GI QP gp [(RV.t 2)] res 6 f136_c4 args) : Does QP gp 136 args res := f136_k.i f136_ok h
def f137_r0:List MO:=[Qa (Qv 4) (Qd (Qo (Qp (Qq (Qs false)))))]
def f137_c0:MC:=.r0 f137_r0
def f137_r1:List MO:=[Qa (Qv 5) (Qd (Qn 0)),Qa (Qv 6) (Qd (Qn 1)),Qa (Qv 7) (Qh 149 [(Qn 5),(Qn 6)]),Qa (Qv 8) (Qe Qt Go.BinOp.geq (Qn 7) (Qo (Qp (Qq (Qr Qu 0))))),Qa (Qv 4) (Qd (Qn 8))]
def f137_c1:MC:=.r0 f137_r1
def f137_c4:MC:=.seq f137_c0 (.seq f137_c1 .ret)
attribute [go_sem] f137_r0 f137_r1
theorem f137_k : KK QP 137 f137 [] f137_c4 [(RV.t 4)] 9 := by refine ⟨func137,?_,?_,?_,?_⟩<;>kernel_rfl
theorem f137_ok : callable QP 137 = true := by kernel_rfl
theorem f137_in (h : GI QP gp [(RV.t 4)] res 9 f137_c4 args) : Does QP gp 137 args res := f137_k.i f137_ok h
def f140_r0:List MO:=[Qa (Qv 10) (Qd (Qn 1)),Qa (Qv 11) (Qe Qt Go.BinOp.add (Qn 10) (Qo (Qp (Qq (Qr Qu 1))))),Qa (Qv 8) (Qd (Qn 11))]
def f140_c0:MC:=.r0 f140_r0
def f140_r1:List MO:=[Qa (Qv 12) (Qd (Qn 8)),Qa (Qv 13) (Qd (Qn 2)),Qa (Qv 14) (Qe Qt Go.BinOp.lss (Qn 12) (Qn 13))]
def f140_c1:MC:=.r0 f140_r1
def f140_r6:List MO:=[Qa (Qv 17) (Qd (Qn 8)),Qa (Qv 9) (Qd (Qn 17))]
def f140_c6:MC:=.r0 f140_r6
def f140_r7:List MO:=[Qa (Qv 18) (Qd (Qn 9)),Qa (Qv 19) (Qd (Qn 1)),Qa (Qv 20) (Qe Qt Go.BinOp.gtr (Qn 18) (Qn 19)),Qa (Qv 21) (Qd (Qn 20)),Qb 21 true (Qv 22),Qa (Qv 22) (Qd (Qn 3)),Qb 21 true (Qv 23),Qa (Qv 23) (Qd (Qn 0)),Qb 21 true (Qv 24),Qa (Qv 24) (Qd (Qn 9)),Qb 21 true (Qv 25),Qa (Qv 25) (Qj 4 (Qn 23) (Qn 24)),Qb 21 true (Qv 26),Qa (Qv 26) (Qf 4 true (Qn 25)),Qb 21 true (Qv 27),Qa (Qv 27) (Qd (Qn 0)),Qb 21 true (Qv 28),Qa (Qv 28) (Qd (Qn 9)),Qb 21 true (Qv 29),Qa (Qv 29) (Qe Qt Go.BinOp.sub (Qn 28) (Qo (Qp (Qq (Qr Qu 1))))),Qb 21 true (Qv 30),Qa (Qv 30) (Qj 4 (Qn 27) (Qn 29)),Qb 21 true (Qv 31),Qa (Qv 31) (Qf 4 true (Qn 30)),Qb 21 true (Qv 32),Qc (Qv 32) (MOp.callv (Qn 22) [(Qn 26),(Qn 31)]),Qb 21 true (Qv 33),Qa (Qv 33) (Qe Qt Go.BinOp.lss (Qn 32) (Qo (Qp (Qq (Qr Qu 0))))),Qa (Qv 34) (Qm (Qn 21) (Qn 33) (Qo (Qp (Qq (Qs false)))))]
def f140_c7:MC:=.reg true f140_r7
def f140_r12:List MO:=[Qa (Qv 37) (Qd (Qn 0)),Qa (Qv 38) (Qd (Qn 9)),Qa (Qv 39) (Qd (Qn 0)),Qa (Qv 40) (Qd (Qn 9)),Qa (Qv 41) (Qe Qt Go.BinOp.sub (Qn 40) (Qo (Qp (Qq (Qr Qu 1))))),Qa (Qv 42) (Qd (Qn 0)),Qa (Qv 43) (Qd (Qn 9)),Qa (Qv 44) (Qe Qt Go.BinOp.sub (Qn 43) (Qo (Qp (Qq (Qr Qu 1))))),Qa (Qv 45) (Qj 4 (Qn 42) (Qn 44)),Qa (Qv 46) (Qf 4 true (Qn 45)),Qa (Qv 47) (Qd (Qn 0)),Qa (Qv 48) (Qd (Qn 9)),Qa (Qv 49) (Qj 4 (Qn 47) (Qn 48)),Qa (Qv 50) (Qf 4 true (Qn 49)),Qa (Qv 51) (Qj 4 (Qn 37) (Qn 38)),Qa none (Ql 4 (Qn 51) (Qn 46)),Qa (Qv 52) (Qj 4 (Qn 39) (Qn 41)),Qa none (Ql 4 (Qn 52) (Qn 50))]
def f140_c12:MC:=.reg true f140_r12
def f140_r14:List MO:=[Qa (Qv 35) (Qd (Qn 9)),Qa (Qv 36) (Qe Qt Go.BinOp.sub (Qn 35) (Qo (Qp (Qq (Qr Qu 1))))),Qa (Qv 9) (Qd (Qn 36))]
def f140_c14:MC:=.r0 f140_r14
def f140_c19:MC:=.seq f140_c6 (.blk 2 (.loop (.seq (.seq f140_c7 (.cond (Qn 34) .skip (MC.exit 2))) (.seq (.blk 3 f140_c12) f140_c14))))
def f140_r21:List MO:=[Qa (Qv 15) (Qd (Qn 8)),Qa (Qv 16) (Qe Qt Go.BinOp.add (Qn 15) (Qo (Qp (Qq (Qr Qu 1))))),Qa (Qv 8) (Qd (Qn 16))]
def f140_c21:MC:=.r0 f140_r21
def f140_c26:MC:=.seq f140_c0 (.blk 0 (.loop (.seq (.seq f140_c1 (.cond (Qn 14) .skip (MC.exit 0))) (.seq (.blk 1 f140_c19) f140_c21))))
attribute [go_sem] f140_r0 f140_r1 f140_r6 f140_r7 f140_r12 f140_r14 f140_r21
theorem f140_k : KK QP 140 f140 [] f140_c26 [] 53 := by refine ⟨func140,?_,?_,?_,?_⟩<;>kernel_rfl
theorem f140_ok : callable QP 140 = true := by kernel_rfl
theorem f140_tri (h : GT QP gp [] pre R 53 f140_c26 args) : Tri QP gp 140 args pre R := f140_k.t h
def f142_r0:List MO:=[Qa (Qv 2) (Qd (Qo (Qp (Qq (Qs false)))))]
def f142_c0:MC:=.r0 f142_r0
def f142_r1:List MO:=[Qa (Qv 3) (Qd (Qn 0)),Qa (Qv 4) (Qd (Qn 0)),Qa (Qv 5) (Qe Qt Go.BinOp.neq (Qn 3) (Qn 4)),Qa (Qv 2) (Qd (Qn 5))]
def f142_c1:MC:=.r0 f142_r1
def f142_c4:MC:=.seq f142_c0 (.seq f142_c1 .ret)
attribute [go_sem] f142_r0 f142_r1
theorem f142_k : KK QP 142 f142 [] f142_c4 [(RV.t 2)] 6 := by refine ⟨func142,?_,?_,?_,?_⟩<;>kernel_rfl
theorem f142_ok : callable QP 142 = true := by kernel_rfl
theorem f142_in (h : GI QP gp [(RV.t 2)] res 6 f142_c4 args) : Does QP gp 142 args res := f142_k.i f142_ok h
def f143_r0:List MO:=[Qa (Qv 2) (Qd (Qo (Qp (Qq (Qs false)))))]
def f143_c0:MC:=.r0 f143_r0
def f143_r1:List MO:=[Qa (Qv 3) (Qd (Qn 0)),Qa (Qv 4) (Qd (Qn 0)),Qa (Qv 5) (Qe Leaf.s Go.BinOp.neq (Qn 3) (Qn 4)),Qa (Qv 2) (Qd (Qn 5))]
def f143_c1:MC:=.r0 f143_r1
def f143_c4:MC:=.seq f143_c0 (.seq f143_c1 .ret)
attribute [go_sem] f143_r0 f143_r1
theorem f143_k : KK QP 143 f143 [] f143_c4 [(RV.t 2)] 6 := by refine ⟨func143,?_,?_,?_,?_⟩<;>kernel_rfl
theorem f143_ok : callable QP 143 = true := by kernel_rfl
theorem f143_in (h : GI QP gp [(RV.t 2)] res 6 f143_c4 args) : Does QP gp 143 args res := f143_k.i f143_ok h
def f146_r0:List MO:=[Qa (Qv 1) (MOp.ibox (Qn 0)),Qa (Qv 2) (Qd (Qo (Qp (Qq (Qs false)))))]
def f146_c0:MC:=.r0 f146_r0
def f146_r1:List MO:=[Qa (Qv 3) (Qf 3 true (Qn 1)),Qa (Qv 4) (Qh 18 [(Qn 3)]),Qa (Qv 5) (MOp.not (Qn 4)),Qa (Qv 2) (Qd (Qn 5))]
def f146_c1:MC:=.r0 f146_r1
def f146_c4:MC:=.seq f146_c0 (.seq f146_c1 .ret)
attribute [go_sem] f146_r0 f146_r1
theorem f146_k : KK QP 146 f146 [1] f146_c4 [(RV.t 2)] 6 := by refine ⟨func146,?_,?_,?_,?_⟩<;>kernel_rfl
theorem f146_ok : callable QP 146 = true := by kernel_rfl
theorem f146_in (h : GI QP gp [(RV.t 2)] res 6 f146_c4 args) : Does QP gp 146 args res := f146_k.i f146_ok h
def f147_r0:List MO:=[Qa (Qv 4) (Qd (Qo (Qp (Qq (Qr Qu 0)))))]
def f147_c0:MC:=.r0 f147_r0
def f147_r1:List MO:=[Qa (Qv 6) (Qd (Qn 0)),Qa (Qv 7) (Qk Qt (Qn 6)),Qa (Qv 8) (Qd (Qo (Qp (Qq (Qr Qu 0)))))]
def f147_c1:MC:=.r0 f147_r1
def f147_r2:List MO:=[Qa (Qv 9) (Qe Qt Go.BinOp.lss (Qn 8) (Qn 7))]
def f147_c2:MC:=.r0 f147_r2
def f147_r6:List MO:=[Qa (Qv 10) (Qd (Qn 8)),Qa (Qv 5) (Qd (Qn 10))]
def f147_c6:MC:=.r0 f147_r6
def f147_r7:List MO:=[Qa (Qv 11) (Qd (Qn 1)),Qa (Qv 12) (Qd (Qn 0)),Qa (Qv 13) (Qd (Qn 5)),Qa (Qv 14) (Qj 1 (Qn 12) (Qn 13)),Qa (Qv 15) (Qf 1 false (Qn 14)),Qa (Qv 16) (Qe Leaf.b Go.BinOp.eql (Qn 11) (Qn 15))]
def f147_c7:MC:=.r0 f147_r7
def f147_r8:List MO:=[Qa (Qv 17) (Qd (Qn 5)),Qa (Qv 4) (Qd (Qn 17))]
def f147_c8:MC:=.r0 f147_r8
def f147_r16:List MO:=[Qa (Qv 18) (Qe Qt Go.BinOp.add (Qn 8) (Qo (Qp (Qq (Qr Qu 1))))),Qa (Qv 8) (Qd (Qn 18))]
def f147_c16:MC:=.r0 f147_r16
def f147_c17:MC:=.seq (.blk 1 (.seq f147_c6 (.seq f147_c7 (.cond (Qn 16) (.seq f147_c8 .ret) .skip)))) f147_c16
def f147_r23:List MO:=[Qa (Qv 4) (Qd (Qo (Qp (Qq (Qr Qu (-1))))))]
def f147_c23:MC:=.r0 f147_r23
def f147_c26:MC:=.seq (.seq f147_c1 (.blk 0 (.loop (.seq f147_c2 (.seq (.cond (Qn 9) .skip (MC.exit 0)) f147_c17))))) (.seq f147_c23 .ret)
def f147_c27:MC:=.seq f147_c0 f147_c26
attribute [go_sem] f147_r0 f147_r1 f147_r2 f147_r6 f147_r7 f147_r8 f147_r16 f147_r23
theorem f147_k : KK QP 147 f147 [] f147_c27 [(RV.t 4)] 19 := by refine ⟨func147,?_,?_,?_,?_⟩<;>kernel_rfl
theorem f147_ok : callable QP 147 = true := by kernel_rfl
theorem f147_in (h : GI QP gp [(RV.t 4)] res 19 f147_c27 args) : Does QP gp 147 args res := f147_k.i f147_ok h
def f148_r0:List MO:=[Qa (Qv 4) (Qd (Qo (Qp (Qq (Qr Qu 0)))))]
def f148_c0:MC:=.r0 f148_r0
def f148_r1:List MO:=[Qa (Qv 6) (Qd (Qn 0)),Qa (Qv 7) (Qk Qt (Qn 6)),Qa (Qv 8) (Qd (Qo (Qp (Qq (Qr Qu 0)))))]
def f148_c1:MC:=.r0 f148_r1
def f148_r2:List MO:=[Qa (Qv 9) (Qe Qt Go.BinOp.lss (Qn 8) (Qn 7))]
def f148_c2:MC:=.r0 f148_r2
def f148_r6:List MO:=[Qa (Qv 10) (Qd (Qn 8)),Qa (Qv 5) (Qd (Qn 10))]
def f148_c6:MC:=.r0 f148_r6
def f148_r7:List MO:=[Qa (Qv 11) (Qd (Qn 1)),Qa (Qv 12) (Qd (Qn 0)),Qa (Qv 13) (Qd (Qn 5)),Qa (Qv 14) (Qj 1 (Qn 12) (Qn 13)),Qa (Qv 15) (Qf 1 false (Qn 14)),Qa (Qv 16) (MOp.callv (Qn 11) [(Qn 15)])]
def f148_c7:MC:=.r0 f148_r7
def f148_r8:List MO:=[Qa (Qv 17) (Qd (Qn 5)),Qa (Qv 4) (Qd (Qn 17))]
def f148_c8:MC:=.r0 f148_r8
def f148_r16:List MO:=[Qa (Qv 18) (Qe Qt Go.BinOp.add (Qn 8) (Qo (Qp (Qq (Qr Qu 1))))),Qa (Qv 8) (Qd (Qn 18))]
def f148_c16:MC:=.r0 f148_r16
def f148_c17:MC:=.seq (.blk 1 (.seq f148_c6 (.seq f148_c7 (.cond (Qn 16) (.seq f148_c8 .ret) .skip)))) f148_c16
def f148_r23:List MO:=[Qa (Qv 4) (Qd (Qo (Qp (Qq (Qr Qu (-1))))))]
def f148_c23:MC:=.r0 f148_r23
def f148_c26:MC:=.seq (.seq f148_c1 (.blk 0 (.loop (.seq f148_c2 (.seq (.cond (Qn 9) .skip (MC.exit 0)) f148_c17))))) (.seq f148_c23 .ret)
def f148_c27:MC:=.seq f148_c0 f148_c26
attribute [go_sem] f148_r0 f148_r1 f148_r2 f148_r6 f148_r7 f148_r8 f148_r16 f148_r23
theorem f148_k : KK QP 148 f148 [] f148_c27 [(RV.t 4)] 19 := by refine ⟨func148,?_,?_,?_,?_⟩<;>kernel_rfl
theorem f148_ok : callable QP 148 = true := by kernel_rfl
theorem f148_in (h : GI QP gp [(RV.t 4)] res 19 f148_c27 args) : Does QP gp 148 args res := f148_k.i f148_ok h
def f149_r0:List MO:=[Qa (Qv 4) (Qd (Qo (Qp (Qq (Qr Qu 0)))))]
def f149_c0:MC:=.r0 f149_r0
def f149_r1:List MO:=[Qa (Qv 6) (Qd (Qn 0)),Qa (Qv 7) (Qk Qt (Qn 6)),Qa (Qv 8) (Qd (Qo (Qp (Qq (Qr Qu 0)))))]
def f149_c1:MC:=.r0 f149_r1
def f149_r2:List MO:=[Qa (Qv 9) (Qe Qt Go.BinOp.lss (Qn 8) (Qn 7))]
def f149_c2:MC:=.r0 f149_r2
def f149_r6:List MO:=[Qa (Qv 10) (Qd (Qn 8)),Qa (Qv 5) (Qd (Qn 10))]
def f149_c6:MC:=.r0 f149_r6
def f149_r7:List MO:=[Qa (Qv 11) (Qd (Qn 1)),Qa (Qv 12) (Qd (Qn 0)),Qa (Qv 13) (Qd (Qn 5)),Qa (Qv 14) (Qj 3 (Qn 12) (Qn 13)),Qa (Qv 15) (Qf 3 true (Qn 14)),Qa (Qv 16) (MOp.callv (Qn 11) [(Qn 15)])]
def f149_c7:MC:=.r0 f149_r7
def f149_r8:List MO:=[Qa (Qv 17) (Qd (Qn 5)),Qa (Qv 4) (Qd (Qn 17))]
def f149_c8:MC:=.r0 f149_r8
def f149_r16:List MO:=[Qa (Qv 18) (Qe Qt Go.BinOp.add (Qn 8) (Qo (Qp (Qq (Qr Qu 1))))),Qa (Qv 8) (Qd (Qn 18))]
def f149_c16:MC:=.r0 f149_r16
def f149_c17:MC:=.seq (.blk 1 (.seq f149_c6 (.seq f149_c7 (.cond (Qn 16) (.seq f149_c8 .ret) .skip)))) f149_c16
def f149_r23:List MO:=[Qa (Qv 4) (Qd (Qo (Qp (Qq (Qr Qu (-1))))))]
def f149_c23:MC:=.r0 f149_r23
def f149_c26:MC:=.seq (.seq f149_c1 (.blk 0 (.loop (.seq f149_c2 (.seq (.cond (Qn 9) .skip (MC.exit 0)) f149_c17))))) (.seq f149_c23 .ret)
def f149_c27:MC:=.seq f149_c0 f149_c26
attribute [go_sem] f149_r0 f149_r1 f149_r2 f149_r6 f149_r7 f149_r8 f149_r16 f149_r23
theorem f149_k : KK QP 149 f149 [] f149_c27 [(RV.t 4)] 19 := by refine ⟨func149,?_,?_,?_,?_⟩<;>kernel_rfl
theorem f149_ok : callable QP 149 = true := by kernel_rfl
theorem f149_in (h : GI QP gp [(RV.t 4)] res 19 f149_c27 args) : Does QP gp 149 args res := f149_k.i f149_ok h
end Go.Fw.L07
