/- Small codes. -/
import Derived.Test.YtakgmpkfpkmkaaaGreatDoorFd
import Derived.Test.YtakgmpkfpkmkaaaGreatDoorProg
set_option linter.all false
namespace Go.Fw.L07
open Go Go.Fw
open Go.Proofs.Tryz renaming prog -> QP
open Go.Proofs.Tryz (f10 f108 f109 f11 f110 f113 f114 f115 f116 f120 f121 f122 f125 f13 f141 f142 f143 f144 f145 f146 f147 f148 f15 f166 f167 f168 f169 f171 f172 f18 f187 f188 f189 f190 f191 f192 f20 f203 f204 f205 f206 f208 f228 f229 f23 f24 f26 f34 f35 f43 f44 f45 f46 f47 f50 f51 f54 f56 f57 f63 f7 f71 f72 f74 f75 f76 f82 f83 f84 f85 f9 func10 func108 func109 func11 func110 func113 func114 func115 func116 func120 func121 func122 func125 func13 func141 func142 func143 func144 func145 func146 func147 func148 func15 func166 func167 func168 func169 func171 func172 func18 func187 func188 func189 func190 func191 func192 func20 func203 func204 func205 func206 func208 func228 func229 func23 func24 func26 func34 func35 func43 func44 func45 func46 func47 func50 func51 func54 func56 func57 func63 func7 func71 func72 func74 func75 func76 func82 func83 func84 func85 func9)
open Go.Fw.MO renaming op -> Qa,chk -> Qb,opx -> Qc
open Go.Fw.MOp renaming mv -> Qd,bin -> Qe,load -> Qf,fad -> Qg,call -> Qh,ext -> Qi,iad -> Qj,len -> Qk,store -> Ql,pick -> Qm
open Go.Fw.Opd renaming t -> Qn,c -> Qo
open Go.Fw.V renaming one -> Qp
open Go.Fw.A renaming d -> Qq
open Go.Fw.D renaming int -> Qr,bool -> Qs
open Go.Fw.Leaf renaming i -> Qt
open Go.IntKind renaming i64 -> Qu
open Option renaming some -> Qv
variable {gp : Heap} {args : List V} {res : V} {pre : List Ch} {R : V -> List Ch -> Prop}
def f7_r0:List MO:=[Qa (Qv 1) (MOp.box (Qn 0)),Qa (Qv 2) (Qd (Qo (Qp (Qq (Qs false)))))]
def f7_c0:MC:=.r0 f7_r0
def f7_r1:List MO:=[Qa (Qv 12) (Qh 9 []),Qa (Qv 3) (Qd (Qn 12))]
def f7_c1:MC:=.r0 f7_r1
def f7_r2:List MO:=[Qa (Qv 13) (Qf 2 true (Qn 1)),Qa (Qv 14) (Qh 10 [(Qn 13),(Qo (Qp (Qq (Qs true))))]),Qa none (Ql 2 (Qn 1) (Qn 14))]
def f7_c2:MC:=.r0 f7_r2
def f7_r3:List MO:=[Qa (Qv 16) (Qf 2 true (Qn 1)),Qa (Qv 17) (Qh 13 [(Qn 16)]),Qa (Qv 15) (Qd (Qn 17)),Qa (Qv 18) (Qi (Qn 15) 0),Qa (Qv 19) (Qi (Qn 15) 1),Qa (Qv 4) (Qd (Qn 18)),Qa (Qv 5) (Qd (Qn 19))]
def f7_c3:MC:=.r0 f7_r3
def f7_r4:List MO:=[Qa (Qv 20) (Qd (Qn 5)),Qa (Qv 21) (Qe Qt Go.BinOp.neq (Qn 20) (Qo (Qp (Qq (Qr Qu 0)))))]
def f7_c4:MC:=.r0 f7_r4
def f7_r5:List MO:=[Qa (Qv 22) (Qd (Qn 3)),Qa (Qv 23) (Qd (Qn 22)),Qb 23 true (Qv 24),Qa (Qv 24) (Qd (Qn 4)),Qb 23 true (Qv 25),Qa (Qv 25) (Qk Qt (Qn 24)),Qb 23 true (Qv 26),Qa (Qv 26) (Qe Qt Go.BinOp.eql (Qn 25) (Qo (Qp (Qq (Qr Qu 0))))),Qa (Qv 27) (Qm (Qn 23) (Qn 26) (Qo (Qp (Qq (Qs false))))),Qa (Qv 2) (Qd (Qn 27))]
def f7_c5:MC:=.r0 f7_r5
def f7_r11:List MO:=[Qa (Qv 6) (Qd (Qo (Qp (Qq (Qr Qu 0)))))]
def f7_c11:MC:=.r0 f7_r11
def f7_r12:List MO:=[Qa (Qv 7) (Qd (Qo (Qp (Qq (Qr Qu 0)))))]
def f7_c12:MC:=.r0 f7_r12
def f7_r13:List MO:=[Qa (Qv 28) (Qd (Qn 7)),Qa (Qv 29) (Qd (Qn 4)),Qa (Qv 30) (Qk Qt (Qn 29)),Qa (Qv 31) (Qe Qt Go.BinOp.lss (Qn 28) (Qn 30))]
def f7_c13:MC:=.r0 f7_r13
def f7_r18:List MO:=[Qa (Qv 34) (Qd (Qn 4)),Qa (Qv 35) (Qd (Qn 7)),Qa (Qv 36) (Qj 1 (Qn 34) (Qn 35)),Qa (Qv 37) (Qf 1 false (Qn 36)),Qa (Qv 38) (Qk Leaf.s (Qn 37)),Qa (Qv 8) (Qd (Qn 38))]
def f7_c18:MC:=.r0 f7_r18
def f7_r19:List MO:=[Qa (Qv 39) (Qd (Qn 8)),Qa (Qv 40) (Qe Qt Go.BinOp.gtr (Qn 39) (Qo (Qp (Qq (Qr Qu 0))))),Qa (Qv 41) (Qd (Qn 40)),Qb 41 true (Qv 42),Qa (Qv 42) (Qd (Qn 4)),Qb 41 true (Qv 43),Qa (Qv 43) (Qd (Qn 7)),Qb 41 true (Qv 44),Qa (Qv 44) (Qj 1 (Qn 42) (Qn 43)),Qb 41 true (Qv 45),Qa (Qv 45) (Qf 1 false (Qn 44)),Qb 41 true (Qv 46),Qa (Qv 46) (Qd (Qn 8)),Qb 41 true (Qv 47),Qa (Qv 47) (Qe Qt Go.BinOp.sub (Qn 46) (Qo (Qp (Qq (Qr Qu 1))))),Qb 41 true (Qv 48),Qa (Qv 48) (MOp.idxS (Qn 45) (Qn 47)),Qb 41 true (Qv 49),Qa (Qv 49) (Qe Qt Go.BinOp.neq (Qn 48) (Qo (Qp (Qq (Qr Go.IntKind.u8 32))))),Qa (Qv 50) (Qm (Qn 41) (Qn 49) (Qo (Qp (Qq (Qs false))))),Qa (Qv 51) (Qd (Qn 50)),Qb 51 true (Qv 52),Qa (Qv 52) (Qd (Qn 4)),Qb 51 true (Qv 53),Qa (Qv 53) (Qd (Qn 7)),Qb 51 true (Qv 54),Qa (Qv 54) (Qj 1 (Qn 52) (Qn 53)),Qb 51 true (Qv 55),Qa (Qv 55) (Qf 1 false (Qn 54)),Qb 51 true (Qv 56),Qa (Qv 56) (Qd (Qn 8)),Qb 51 true (Qv 57),Qa (Qv 57) (Qe Qt Go.BinOp.sub (Qn 56) (Qo (Qp (Qq (Qr Qu 1))))),Qb 51 true (Qv 58),Qa (Qv 58) (MOp.idxS (Qn 55) (Qn 57)),Qb 51 true (Qv 59),Qa (Qv 59) (Qe Qt Go.BinOp.neq (Qn 58) (Qo (Qp (Qq (Qr Go.IntKind.u8 34))))),Qa (Qv 60) (Qm (Qn 51) (Qn 59) (Qo (Qp (Qq (Qs false)))))]
def f7_c19:MC:=.r0 f7_r19
def f7_r24:List MO:=[Qa (Qv 61) (Qd (Qn 8)),Qa (Qv 62) (Qe Qt Go.BinOp.sub (Qn 61) (Qo (Qp (Qq (Qr Qu 1))))),Qa (Qv 8) (Qd (Qn 62))]
def f7_c24:MC:=.r0 f7_r24
def f7_r29:List MO:=[Qa (Qv 63) (Qd (Qn 4)),Qa (Qv 64) (Qd (Qn 7)),Qa (Qv 65) (Qj 1 (Qn 63) (Qn 64)),Qa (Qv 66) (Qf 1 false (Qn 65)),Qa (Qv 67) (Qd (Qn 8)),Qa (Qv 68) (MOp.slcS (Qn 66) (Qv (Qn 67)) none),Qa (Qv 9) (Qd (Qn 68))]
def f7_c29:MC:=.r0 f7_r29
def f7_r30:List MO:=[Qa (Qv 69) (Qd (Qn 9)),Qa (Qv 70) (Qk Leaf.s (Qn 69)),Qa (Qv 71) (Qe Qt Go.BinOp.gtr (Qn 70) (Qo (Qp (Qq (Qr Qu 2))))),Qa (Qv 72) (Qd (Qn 71)),Qb 72 true (Qv 73),Qa (Qv 73) (Qd (Qn 9)),Qb 72 true (Qv 74),Qa (Qv 74) (MOp.slcS (Qn 73) none (Qv (Qo (Qp (Qq (Qr Qu 2)))))),Qb 72 true (Qv 75),Qa (Qv 75) (Qe Leaf.s Go.BinOp.eql (Qn 74) (Qo (Qp (Qq (D.str (ByteArray.mk #[38,97])))))),Qa (Qv 76) (Qm (Qn 72) (Qn 75) (Qo (Qp (Qq (Qs false)))))]
def f7_c30:MC:=.r0 f7_r30
def f7_r31:List MO:=[Qa (Qv 77) (Qd (Qn 6)),Qa (Qv 78) (Qe Qt Go.BinOp.add (Qn 77) (Qo (Qp (Qq (Qr Qu 1))))),Qa (Qv 6) (Qd (Qn 78))]
def f7_c31:MC:=.r0 f7_r31
def f7_r32:List MO:=[Qa (Qv 79) (Qd (Qn 9)),Qa (Qv 80) (MOp.slcS (Qn 79) (Qv (Qo (Qp (Qq (Qr Qu 2))))) none),Qa (Qv 81) (Qd (Qn 6)),Qc (Qv 82) (Qh 20 [(Qn 81)]),Qa (Qv 83) (Qe Leaf.s Go.BinOp.neq (Qn 80) (Qn 82))]
def f7_c32:MC:=.reg true f7_r32
def f7_r33:List MO:=[Qa (Qv 2) (Qd (Qo (Qp (Qq (Qs false)))))]
def f7_c33:MC:=.r0 f7_r33
def f7_c42:MC:=.seq f7_c30 (.cond (Qn 76) (.seq f7_c31 (.seq f7_c32 (.cond (Qn 83) (.seq f7_c33 .ret) .skip))) .skip)
def f7_r43:List MO:=[Qa (Qv 84) (Qd (Qn 9)),Qa (Qv 85) (Qk Leaf.s (Qn 84)),Qa (Qv 86) (Qe Qt Go.BinOp.gtr (Qn 85) (Qo (Qp (Qq (Qr Qu 2))))),Qa (Qv 87) (Qd (Qn 86)),Qb 87 true (Qv 88),Qa (Qv 88) (Qd (Qn 9)),Qb 87 true (Qv 89),Qa (Qv 89) (MOp.slcS (Qn 88) none (Qv (Qo (Qp (Qq (Qr Qu 2)))))),Qb 87 true (Qv 90),Qa (Qv 90) (Qe Leaf.s Go.BinOp.eql (Qn 89) (Qo (Qp (Qq (D.str (ByteArray.mk #[42,97])))))),Qa (Qv 91) (Qm (Qn 87) (Qn 90) (Qo (Qp (Qq (Qs false)))))]
def f7_c43:MC:=.r0 f7_r43
def f7_r44:List MO:=[Qa (Qv 10) (Qd (Qo (Qp (Qq (Qs false)))))]
def f7_c44:MC:=.r0 f7_r44
def f7_r45:List MO:=[Qa (Qv 11) (Qd (Qo (Qp (Qq (Qr Qu 1)))))]
def f7_c45:MC:=.r0 f7_r45
def f7_r46:List MO:=[Qa (Qv 92) (Qd (Qn 11)),Qa (Qv 93) (Qd (Qn 6)),Qa (Qv 94) (Qe Qt Go.BinOp.leq (Qn 92) (Qn 93))]
def f7_c46:MC:=.r0 f7_r46
def f7_r51:List MO:=[Qa (Qv 97) (Qd (Qn 10)),Qa (Qv 98) (Qd (Qn 97)),Qb 98 false (Qv 99),Qa (Qv 99) (Qd (Qn 9)),Qb 98 false (Qv 100),Qa (Qv 100) (MOp.slcS (Qn 99) (Qv (Qo (Qp (Qq (Qr Qu 2))))) none),Qb 98 false (Qv 101),Qa (Qv 101) (Qd (Qn 11)),Qb 98 false (Qv 102),Qc (Qv 102) (Qh 20 [(Qn 101)]),Qb 98 false (Qv 103),Qa (Qv 103) (Qe Leaf.s Go.BinOp.eql (Qn 100) (Qn 102)),Qa (Qv 104) (Qm (Qn 98) (Qo (Qp (Qq (Qs true)))) (Qn 103)),Qa (Qv 10) (Qd (Qn 104))]
def f7_c51:MC:=.reg true f7_r51
def f7_r53:List MO:=[Qa (Qv 95) (Qd (Qn 11)),Qa (Qv 96) (Qe Qt Go.BinOp.add (Qn 95) (Qo (Qp (Qq (Qr Qu 1))))),Qa (Qv 11) (Qd (Qn 96))]
def f7_c53:MC:=.r0 f7_r53
def f7_c58:MC:=.seq f7_c45 (.blk 4 (.loop (.seq (.seq f7_c46 (.cond (Qn 94) .skip (MC.exit 4))) (.seq (.blk 5 f7_c51) f7_c53))))
def f7_r59:List MO:=[Qa (Qv 105) (Qd (Qn 10)),Qa (Qv 106) (MOp.not (Qn 105))]
def f7_c59:MC:=.r0 f7_r59
def f7_r60:List MO:=[Qa (Qv 2) (Qd (Qo (Qp (Qq (Qs false)))))]
def f7_c60:MC:=.r0 f7_r60
def f7_c67:MC:=.seq f7_c44 (.seq f7_c58 (.seq f7_c59 (.cond (Qn 106) (.seq f7_c60 .ret) .skip)))
def f7_c72:MC:=.seq f7_c29 (.seq f7_c42 (.seq f7_c43 (.cond (Qn 91) f7_c67 .skip)))
def f7_c74:MC:=.seq f7_c18 (.seq (.blk 2 (.loop (.seq (.seq f7_c19 (.cond (Qn 60) .skip (MC.exit 2))) (.blk 3 f7_c24)))) f7_c72)
def f7_r76:List MO:=[Qa (Qv 32) (Qd (Qn 7)),Qa (Qv 33) (Qe Qt Go.BinOp.add (Qn 32) (Qo (Qp (Qq (Qr Qu 1))))),Qa (Qv 7) (Qd (Qn 33))]
def f7_c76:MC:=.r0 f7_r76
def f7_c81:MC:=.seq f7_c12 (.blk 0 (.loop (.seq (.seq f7_c13 (.cond (Qn 31) .skip (MC.exit 0))) (.seq (.blk 1 f7_c74) f7_c76))))
def f7_r82:List MO:=[Qa (Qv 107) (Qd (Qn 3)),Qa (Qv 2) (Qd (Qn 107))]
def f7_c82:MC:=.r0 f7_r82
def f7_c87:MC:=.seq (.seq f7_c4 (.cond (Qn 21) (.seq f7_c5 .ret) .skip)) (.seq f7_c11 (.seq f7_c81 (.seq f7_c82 .ret)))
def f7_c90:MC:=.seq f7_c1 (.seq f7_c2 (.seq f7_c3 f7_c87))
def f7_c91:MC:=.seq f7_c0 f7_c90
attribute [go_sem] f7_r0 f7_r1 f7_r2 f7_r3 f7_r4 f7_r5 f7_r11 f7_r12 f7_r13 f7_r18 f7_r19 f7_r24 f7_r29 f7_r30 f7_r31 f7_r32 f7_r33 f7_r43 f7_r44 f7_r45 f7_r46 f7_r51 f7_r53 f7_r59 f7_r60 f7_r76 f7_r82
theorem f7_k : KK QP 7 f7 [] f7_c91 [(RV.t 2)] 108 := by refine ⟨func7,?_,?_,?_,?_⟩<;>kernel_rfl
theorem f7_ok : callable QP 7 = true := by kernel_rfl
theorem f7_in (h : GI QP gp [(RV.t 2)] res 108 f7_c91 args) : Does QP gp 7 args res := f7_k.i f7_ok h
def f9_r0:List MO:=[Qa (Qv 0) (Qd (Qo (Qp (Qq (Qs false)))))]
def f9_c0:MC:=.r0 f9_r0
def f9_r1:List MO:=[Qa (Qv 10) (MOp.bslice 1 [(Qr Qu 0)] 2 [(0,(Qo (Qp (Qq (Qr Qu 1))))),(1,(Qo (Qp (Qq (Qr Qu 0)))))]),Qa (Qv 11) (MOp.build [(Qr Qu 0),(Qr Qu 0),(Qr Qu 0),(D.str (ByteArray.mk #[])),(D.sl []),(D.sl [])] [(0,(1,(Qo (Qp (Qq (Qr Qu 1)))))),(5,(1,(Qn 10)))]),Qa (Qv 12) (MOp.build [(Qr Qu 0),(Qr Qu 0),(D.str (ByteArray.mk #[]))] [(0,(1,(Qo (Qp (Qq (Qr Qu 3)))))),(2,(1,(Qo (Qp (Qq (D.str (ByteArray.mk #[107])))))))]),Qa (Qv 13) (MOp.bslice 3 [(Qr Qu 0),(Qr Qu 0),(D.str (ByteArray.mk #[]))] 1 [(0,(Qn 12))]),Qa (Qv 14) (MOp.bslice 1 [(Qr Qu 0)] 1 [(0,(Qo (Qp (Qq (Qr Qu 2)))))]),Qa (Qv 15) (MOp.build [(Qr Qu 0),(Qr Qu 0),(Qr Qu 0),(D.str (ByteArray.mk #[])),(D.sl []),(D.sl [])] [(0,(1,(Qo (Qp (Qq (Qr Qu 2)))))),(4,(1,(Qn 13))),(5,(1,(Qn 14)))]),Qa (Qv 16) (MOp.build [(Qr Qu 0),(Qr Qu 0),(D.str (ByteArray.mk #[]))] [(0,(1,(Qo (Qp (Qq (Qr Qu 2)))))),(1,(1,(Qo (Qp (Qq (Qr Qu 5))))))]),Qa (Qv 17) (MOp.build [(Qr Qu 0),(Qr Qu 0),(Qr Qu 0),(D.str (ByteArray.mk #[])),(D.sl []),(D.sl [])] [(1,(3,(Qn 16)))]),Qa (Qv 18) (MOp.bslice 6 [(Qr Qu 0),(Qr Qu 0),(Qr Qu 0),(D.str (ByteArray.mk #[])),(D.sl []),(D.sl [])] 3 [(0,(Qn 11)),(1,(Qn 15)),(2,(Qn 17))]),Qa (Qv 19) (MOp.build [(Qr Qu 0),(D.sl [])] [(1,(1,(Qn 18)))]),Qa (Qv 1) (MOp.alloc [(Qr Qu 0),(D.sl [])]),Qa none (Ql 2 (Qn 1) (Qn 19))]
def f9_c1:MC:=.r0 f9_r1
def f9_r2:List MO:=[Qa (Qv 21) (Qf 2 true (Qn 1)),Qa (Qv 22) (Qh 11 [(Qn 21)]),Qa (Qv 20) (Qd (Qn 22)),Qa (Qv 23) (Qi (Qn 20) 0),Qa (Qv 24) (Qi (Qn 20) 1),Qa (Qv 2) (Qd (Qn 23)),Qa (Qv 3) (Qd (Qn 24))]
def f9_c2:MC:=.r0 f9_r2
def f9_r3:List MO:=[Qa (Qv 26) (Qf 2 true (Qn 1)),Qa (Qv 27) (Qh 13 [(Qn 26)]),Qa (Qv 25) (Qd (Qn 27)),Qa (Qv 28) (Qi (Qn 25) 0),Qa (Qv 29) (Qi (Qn 25) 1),Qa (Qv 4) (Qd (Qn 28)),Qa (Qv 5) (Qd (Qn 29))]
def f9_c3:MC:=.r0 f9_r3
def f9_r4:List MO:=[Qa (Qv 31) (Qf 2 true (Qn 1)),Qa (Qv 32) (Qh 15 [(Qn 31)]),Qa (Qv 30) (Qd (Qn 32)),Qa (Qv 33) (Qi (Qn 30) 0),Qa (Qv 34) (Qi (Qn 30) 1),Qa (Qv 6) (Qd (Qn 33)),Qa (Qv 7) (Qd (Qn 34))]
def f9_c4:MC:=.r0 f9_r4
def f9_r5:List MO:=[Qa (Qv 36) (Qg 1 (Qn 1)),Qa (Qv 37) (Qf 1 false (Qn 36)),Qa (Qv 38) (MOp.build [(Qr Qu 0),(D.sl [])] [(0,(1,(Qo (Qp (Qq (Qr Qu 1)))))),(1,(1,(Qn 37)))]),Qa (Qv 39) (Qh 11 [(Qn 38)]),Qa (Qv 35) (Qd (Qn 39)),Qa (Qv 40) (Qi (Qn 35) 0),Qa (Qv 41) (Qi (Qn 35) 1),Qa (Qv 8) (Qd (Qn 40)),Qa (Qv 9) (Qd (Qn 41))]
def f9_c5:MC:=.r0 f9_r5
def f9_r6:List MO:=[Qa (Qv 42) (Qd (Qn 2)),Qa (Qv 43) (Qe Leaf.s Go.BinOp.eql (Qn 42) (Qo (Qp (Qq (D.str (ByteArray.mk #[38,97,49,10,45,10,32,32,34,107,34,58,32,53,10,45,32,42,97,49,10])))))),Qa (Qv 44) (Qd (Qn 43)),Qb 44 true (Qv 45),Qa (Qv 45) (Qd (Qn 3)),Qb 44 true (Qv 46),Qa (Qv 46) (Qe Qt Go.BinOp.eql (Qn 45) (Qo (Qp (Qq (Qr Qu 0))))),Qa (Qv 47) (Qm (Qn 44) (Qn 46) (Qo (Qp (Qq (Qs false))))),Qa (Qv 48) (Qd (Qn 47)),Qb 48 true (Qv 49),Qa (Qv 49) (Qd (Qn 4)),Qb 48 true (Qv 50),Qa (Qv 50) (Qk Qt (Qn 49)),Qb 48 true (Qv 51),Qa (Qv 51) (Qe Qt Go.BinOp.eql (Qn 50) (Qo (Qp (Qq (Qr Qu 4))))),Qa (Qv 52) (Qm (Qn 48) (Qn 51) (Qo (Qp (Qq (Qs false))))),Qa (Qv 53) (Qd (Qn 52)),Qb 53 true (Qv 54),Qa (Qv 54) (Qd (Qn 5)),Qb 53 true (Qv 55),Qa (Qv 55) (Qe Qt Go.BinOp.eql (Qn 54) (Qo (Qp (Qq (Qr Qu 0))))),Qa (Qv 56) (Qm (Qn 53) (Qn 55) (Qo (Qp (Qq (Qs false))))),Qa (Qv 57) (Qd (Qn 56)),Qb 57 true (Qv 58),Qa (Qv 58) (Qd (Qn 6)),Qb 57 true (Qv 59),Qa (Qv 59) (Qd (Qn 2)),Qb 57 true (Qv 60),Qa (Qv 60) (Qk Leaf.s (Qn 59)),Qb 57 true (Qv 61),Qa (Qv 61) (Qe Qt Go.BinOp.eql (Qn 58) (Qn 60)),Qa (Qv 62) (Qm (Qn 57) (Qn 61) (Qo (Qp (Qq (Qs false))))),Qa (Qv 63) (Qd (Qn 62)),Qb 63 true (Qv 64),Qa (Qv 64) (Qd (Qn 7)),Qb 63 true (Qv 65),Qa (Qv 65) (Qe Qt Go.BinOp.eql (Qn 64) (Qo (Qp (Qq (Qr Qu 0))))),Qa (Qv 66) (Qm (Qn 63) (Qn 65) (Qo (Qp (Qq (Qs false))))),Qa (Qv 67) (Qd (Qn 66)),Qb 67 true (Qv 68),Qa (Qv 68) (Qd (Qn 9)),Qb 67 true (Qv 69),Qa (Qv 69) (Qe Qt Go.BinOp.eql (Qn 68) (Qo (Qp (Qq (Qr Qu 72))))),Qa (Qv 70) (Qm (Qn 67) (Qn 69) (Qo (Qp (Qq (Qs false))))),Qa (Qv 0) (Qd (Qn 70))]
def f9_c6:MC:=.r0 f9_r6
def f9_c11:MC:=.seq f9_c3 (.seq f9_c4 (.seq f9_c5 (.seq f9_c6 .ret)))
def f9_c14:MC:=.seq f9_c0 (.seq f9_c1 (.seq f9_c2 f9_c11))
attribute [go_sem] f9_r0 f9_r1 f9_r2 f9_r3 f9_r4 f9_r5 f9_r6
theorem f9_k : KK QP 9 f9 [] f9_c14 [(RV.t 0)] 71 := by refine ⟨func9,?_,?_,?_,?_⟩<;>kernel_rfl
theorem f9_ok : callable QP 9 = true := by kernel_rfl
theorem f9_in (h : GI QP gp [(RV.t 0)] res 71 f9_c14 args) : Does QP gp 9 args res := f9_k.i f9_ok h
def f10_r0:List MO:=[Qa (Qv 2) (MOp.box (Qn 0)),Qa (Qv 4) (MOp.alloc [(Qr Qu 0),(D.sl [])])]
def f10_c0:MC:=.r0 f10_r0
def f10_r1:List MO:=[Qa (Qv 7) (Qf 2 true (Qn 2)),Qa (Qv 8) (Qh 24 [(Qn 7)]),Qa none (Ql 2 (Qn 2) (Qn 8))]
def f10_c1:MC:=.r0 f10_r1
def f10_r2:List MO:=[Qa (Qv 10) (Qf 2 true (Qn 2)),Qa (Qv 11) (Qh 25 [(Qn 10)]),Qa (Qv 9) (Qd (Qn 11)),Qa (Qv 12) (Qi (Qn 9) 0),Qa (Qv 13) (Qi (Qn 9) 1),Qa (Qv 5) (MOp.alloc [(Qr Qu 0),(D.sl [])]),Qa none (Ql 2 (Qn 5) (Qn 12)),Qa (Qv 6) (Qd (Qn 13))]
def f10_c2:MC:=.r0 f10_r2
def f10_r3:List MO:=[Qa (Qv 14) (Qd (Qn 1)),Qa (Qv 15) (Qd (Qn 14)),Qb 15 true (Qv 16),Qa (Qv 16) (Qd (Qn 6)),Qb 15 true (Qv 17),Qa (Qv 17) (Qe Qt Go.BinOp.eql (Qn 16) (Qo (Qp (Qq (Qr Qu 0))))),Qa (Qv 18) (Qm (Qn 15) (Qn 17) (Qo (Qp (Qq (Qs false)))))]
def f10_c3:MC:=.r0 f10_r3
def f10_r4:List MO:=[Qa (Qv 19) (Qf 2 true (Qn 5)),Qa none (Ql 2 (Qn 4) (Qn 19))]
def f10_c4:MC:=.r0 f10_r4
def f10_r10:List MO:=[Qa (Qv 20) (Qf 2 true (Qn 2)),Qa none (Ql 2 (Qn 4) (Qn 20))]
def f10_c10:MC:=.r0 f10_r10
def f10_c14:MC:=.seq f10_c2 (.seq (.seq f10_c3 (.cond (Qn 18) (.seq f10_c4 .ret) .skip)) (.seq f10_c10 .ret))
def f10_c16:MC:=.seq f10_c0 (.seq f10_c1 f10_c14)
attribute [go_sem] f10_r0 f10_r1 f10_r2 f10_r3 f10_r4 f10_r10
theorem f10_k : KK QP 10 f10 [] f10_c16 [(RV.cell 4 2 true)] 21 := by refine ⟨func10,?_,?_,?_,?_⟩<;>kernel_rfl
theorem f10_ok : callable QP 10 = true := by kernel_rfl
theorem f10_in (h : GI QP gp [(RV.cell 4 2 true)] res 21 f10_c16 args) : Does QP gp 10 args res := f10_k.i f10_ok h
def f11_r0:List MO:=[Qa (Qv 1) (MOp.ibox (Qn 0)),Qa (Qv 2) (Qd (Qo (Qp (Qq (D.str (ByteArray.mk #[])))))),Qa (Qv 3) (Qd (Qo (Qp (Qq (Qr Qu 0)))))]
def f11_c0:MC:=.r0 f11_r0
def f11_r1:List MO:=[Qa (Qv 10) (Qf 2 true (Qn 1)),Qa (Qv 11) (Qh 26 [(Qn 10)]),Qa (Qv 9) (Qd (Qn 11)),Qa (Qv 12) (Qi (Qn 9) 0),Qa (Qv 13) (Qi (Qn 9) 1),Qa (Qv 4) (Qd (Qn 12)),Qa (Qv 5) (Qd (Qn 13))]
def f11_c1:MC:=.r0 f11_r1
def f11_r2:List MO:=[Qa (Qv 6) (MOp.bldN 56 5)]
def f11_c2:MC:=.r0 f11_r2
def f11_r3:List MO:=[Qa (Qv 14) (Qd (Qn 4)),Qa (Qv 15) (Qk Qt (Qn 14)),Qa (Qv 16) (Qd (Qo (Qp (Qq (Qr Qu 0)))))]
def f11_c3:MC:=.r0 f11_r3
def f11_r4:List MO:=[Qa (Qv 17) (Qe Qt Go.BinOp.lss (Qn 16) (Qn 15))]
def f11_c4:MC:=.r0 f11_r4
def f11_r8:List MO:=[Qa (Qv 18) (Qj 1 (Qn 14) (Qn 16)),Qa (Qv 19) (Qf 1 false (Qn 18)),Qa (Qv 8) (Qd (Qn 19))]
def f11_c8:MC:=.r0 f11_r8
def f11_r9:List MO:=[Qa (Qv 20) (Qd (Qn 8)),Qa (Qv 21) (Qe Leaf.s Go.BinOp.add (Qn 20) (Qo (Qp (Qq (D.str (ByteArray.mk #[10])))))),Qa (Qv 22) (Qh 27 [(Qn 6),(Qn 21)])]
def f11_c9:MC:=.r0 f11_r9
def f11_r12:List MO:=[Qa (Qv 23) (Qe Qt Go.BinOp.add (Qn 16) (Qo (Qp (Qq (Qr Qu 1))))),Qa (Qv 16) (Qd (Qn 23))]
def f11_c12:MC:=.r0 f11_r12
def f11_c15:MC:=.seq f11_c4 (.seq (.cond (Qn 17) .skip (MC.exit 0)) (.seq (.blk 1 (.seq f11_c8 f11_c9)) f11_c12))
def f11_r19:List MO:=[Qa (Qv 24) (Qh 28 [(Qn 6)]),Qa (Qv 25) (Qd (Qn 5)),Qa (Qv 2) (Qd (Qn 24)),Qa (Qv 3) (Qd (Qn 25))]
def f11_c19:MC:=.r0 f11_r19
def f11_c23:MC:=.seq f11_c2 (.seq (.seq f11_c3 (.blk 0 (.loop f11_c15))) (.seq f11_c19 .ret))
def f11_c25:MC:=.seq f11_c0 (.seq f11_c1 f11_c23)
attribute [go_sem] f11_r0 f11_r1 f11_r2 f11_r3 f11_r4 f11_r8 f11_r9 f11_r12 f11_r19
theorem f11_k : KK QP 11 f11 [1] f11_c25 [(RV.t 2),(RV.t 3)] 26 := by refine ⟨func11,?_,?_,?_,?_⟩<;>kernel_rfl
theorem f11_ok : callable QP 11 = true := by kernel_rfl
theorem f11_in (h : GI QP gp [(RV.t 2),(RV.t 3)] res 26 f11_c25 args) : Does QP gp 11 args res := f11_k.i f11_ok h
def f13_r0:List MO:=[Qa (Qv 1) (MOp.ibox (Qn 0)),Qa (Qv 2) (Qd (Qo (Qp A.nil))),Qa (Qv 3) (Qd (Qo (Qp (Qq (Qr Qu 0)))))]
def f13_c0:MC:=.r0 f13_r0
def f13_r1:List MO:=[Qa (Qv 4) (Qf 2 true (Qn 1)),Qa (Qv 5) (Qh 26 [(Qn 4)]),Qa (Qv 6) (Qi (Qn 5) 0),Qa (Qv 7) (Qi (Qn 5) 1),Qa (Qv 2) (Qd (Qn 6)),Qa (Qv 3) (Qd (Qn 7))]
def f13_c1:MC:=.r0 f13_r1
def f13_c4:MC:=.seq f13_c0 (.seq f13_c1 .ret)
attribute [go_sem] f13_r0 f13_r1
theorem f13_k : KK QP 13 f13 [1] f13_c4 [(RV.t 2),(RV.t 3)] 8 := by refine ⟨func13,?_,?_,?_,?_⟩<;>kernel_rfl
theorem f13_ok : callable QP 13 = true := by kernel_rfl
theorem f13_in (h : GI QP gp [(RV.t 2),(RV.t 3)] res 8 f13_c4 args) : Does QP gp 13 args res := f13_k.i f13_ok h
def f15_r0:List MO:=[Qa (Qv 1) (MOp.ibox (Qn 0)),Qa (Qv 2) (Qd (Qo (Qp (Qq (Qr Qu 0))))),Qa (Qv 3) (Qd (Qo (Qp (Qq (Qr Qu 0)))))]
def f15_c0:MC:=.r0 f15_r0
def f15_r1:List MO:=[Qa (Qv 7) (Qf 2 true (Qn 1)),Qa (Qv 8) (Qh 11 [(Qn 7)]),Qa (Qv 6) (Qd (Qn 8)),Qa (Qv 9) (Qi (Qn 6) 0),Qa (Qv 10) (Qi (Qn 6) 1),Qa (Qv 4) (Qd (Qn 9)),Qa (Qv 5) (Qd (Qn 10))]
def f15_c1:MC:=.r0 f15_r1
def f15_r2:List MO:=[Qa (Qv 11) (Qd (Qn 4)),Qa (Qv 12) (Qk Leaf.s (Qn 11)),Qa (Qv 13) (Qd (Qn 5)),Qa (Qv 2) (Qd (Qn 12)),Qa (Qv 3) (Qd (Qn 13))]
def f15_c2:MC:=.r0 f15_r2
def f15_c6:MC:=.seq f15_c0 (.seq f15_c1 (.seq f15_c2 .ret))
attribute [go_sem] f15_r0 f15_r1 f15_r2
theorem f15_k : KK QP 15 f15 [1] f15_c6 [(RV.t 2),(RV.t 3)] 14 := by refine ⟨func15,?_,?_,?_,?_⟩<;>kernel_rfl
theorem f15_ok : callable QP 15 = true := by kernel_rfl
theorem f15_in (h : GI QP gp [(RV.t 2),(RV.t 3)] res 14 f15_c6 args) : Does QP gp 15 args res := f15_k.i f15_ok h
def f18_r0:List MO:=[Qa (Qv 1) (MOp.ibox (Qn 0)),Qa (Qv 2) (MOp.alloc [(Qr Qu 0),(Qr Qu 0),(D.str (ByteArray.mk #[]))])]
def f18_c0:MC:=.r0 f18_r0
def f18_r1:List MO:=[Qa (Qv 3) (Qg 0 (Qn 1)),Qa (Qv 4) (Qf 1 false (Qn 3)),Qa (Qv 5) (Qg 1 (Qn 1)),Qa (Qv 6) (Qf 1 false (Qn 5)),Qa (Qv 7) (Qg 2 (Qn 1)),Qa (Qv 8) (Qf 1 false (Qn 7)),Qa (Qv 9) (Qh 34 [(Qn 8)]),Qa (Qv 10) (MOp.build [(Qr Qu 0),(Qr Qu 0),(D.str (ByteArray.mk #[]))] [(0,(1,(Qn 4))),(1,(1,(Qn 6))),(2,(1,(Qn 9)))]),Qa none (Ql 3 (Qn 2) (Qn 10))]
def f18_c1:MC:=.reg true f18_r1
def f18_c4:MC:=.seq f18_c0 (.seq f18_c1 .ret)
attribute [go_sem] f18_r0 f18_r1
theorem f18_k : KK QP 18 f18 [1] f18_c4 [(RV.cell 2 3 true)] 11 := by refine ⟨func18,?_,?_,?_,?_⟩<;>kernel_rfl
theorem f18_ok : callable QP 18 = true := by kernel_rfl
theorem f18_in (h : GI QP gp [(RV.cell 2 3 true)] res 11 f18_c4 args) : Does QP gp 18 args res := f18_k.i f18_ok h
def f20_r0:List MO:=[Qa (Qv 2) (Qd (Qo (Qp (Qq (D.str (ByteArray.mk #[]))))))]
def f20_c0:MC:=.r0 f20_r0
def f20_r1:List MO:=[Qa (Qv 3) (Qd (Qn 0)),Qa (Qv 4) (Qe Qt Go.BinOp.lss (Qn 3) (Qo (Qp (Qq (Qr Qu 10)))))]
def f20_c1:MC:=.r0 f20_r1
def f20_r2:List MO:=[Qa (Qv 5) (Qd (Qn 0)),Qa (Qv 6) (MOp.max (Qn 5) (Qo (Qp (Qq (Qr Qu 0))))),Qa (Qv 7) (Qd (Qn 0)),Qa (Qv 8) (MOp.max (Qn 7) (Qo (Qp (Qq (Qr Qu 0))))),Qa (Qv 9) (Qe Qt Go.BinOp.add (Qn 8) (Qo (Qp (Qq (Qr Qu 1))))),Qa (Qv 10) (MOp.slcS (Qo (Qp (Qq (D.str (ByteArray.mk #[48,49,50,51,52,53,54,55,56,57]))))) (Qv (Qn 6)) (Qv (Qn 9))),Qa (Qv 2) (Qd (Qn 10))]
def f20_c2:MC:=.r0 f20_r2
def f20_r8:List MO:=[Qa (Qv 11) (Qd (Qn 0)),Qa (Qv 12) (Qe Qt Go.BinOp.quo (Qn 11) (Qo (Qp (Qq (Qr Qu 10))))),Qc (Qv 13) (Qh 20 [(Qn 12)]),Qa (Qv 14) (Qd (Qn 0)),Qa (Qv 15) (Qe Qt Go.BinOp.rem (Qn 14) (Qo (Qp (Qq (Qr Qu 10))))),Qa (Qv 16) (Qd (Qn 0)),Qa (Qv 17) (Qe Qt Go.BinOp.rem (Qn 16) (Qo (Qp (Qq (Qr Qu 10))))),Qa (Qv 18) (Qe Qt Go.BinOp.add (Qn 17) (Qo (Qp (Qq (Qr Qu 1))))),Qa (Qv 19) (MOp.slcS (Qo (Qp (Qq (D.str (ByteArray.mk #[48,49,50,51,52,53,54,55,56,57]))))) (Qv (Qn 15)) (Qv (Qn 18))),Qa (Qv 20) (Qe Leaf.s Go.BinOp.add (Qn 13) (Qn 19)),Qa (Qv 2) (Qd (Qn 20))]
def f20_c8:MC:=.reg true f20_r8
def f20_c12:MC:=.seq f20_c0 (.seq (.seq f20_c1 (.cond (Qn 4) (.seq f20_c2 .ret) .skip)) (.seq f20_c8 .ret))
attribute [go_sem] f20_r0 f20_r1 f20_r2 f20_r8
theorem f20_k : KK QP 20 f20 [] f20_c12 [(RV.t 2)] 21 := by refine ⟨func20,?_,?_,?_,?_⟩<;>kernel_rfl
theorem f20_ok : callable QP 20 = true := by kernel_rfl
theorem f20_in (h : GI QP gp [(RV.t 2)] res 21 f20_c12 args) : Does QP gp 20 args res := f20_k.i f20_ok h
def f23_r0:List MO:=[Qa (Qv 2) (MOp.ibox (Qn 0)),Qa (Qv 3) (MOp.ibox (Qn 1)),Qa (Qv 4) (Qd (Qo (Qp (Qq (Qs false)))))]
def f23_c0:MC:=.r0 f23_r0
def f23_r1:List MO:=[Qa (Qv 5) (Qd (Qo (Qp (Qq (D.fn (Go.Fn.func 43) [])))))]
def f23_c1:MC:=.r0 f23_r1
def f23_r2:List MO:=[Qa (Qv 6) (Qg 0 (Qn 2)),Qa (Qv 7) (Qf 1 false (Qn 6)),Qa (Qv 8) (Qg 0 (Qn 3)),Qa (Qv 9) (Qf 1 false (Qn 8)),Qa (Qv 10) (Qe Qt Go.BinOp.eql (Qn 7) (Qn 9)),Qa (Qv 11) (Qd (Qn 10)),Qb 11 true (Qv 12),Qa (Qv 12) (Qg 1 (Qn 2)),Qb 11 true (Qv 13),Qa (Qv 13) (Qf 1 false (Qn 12)),Qb 11 true (Qv 14),Qa (Qv 14) (Qg 1 (Qn 3)),Qb 11 true (Qv 15),Qa (Qv 15) (Qf 1 false (Qn 14)),Qb 11 true (Qv 16),Qa (Qv 16) (Qd (Qn 5)),Qb 11 true (Qv 17),Qa (Qv 17) (Qh 46 [(Qn 13),(Qn 15),(Qn 16)]),Qa (Qv 18) (Qm (Qn 11) (Qn 17) (Qo (Qp (Qq (Qs false))))),Qa (Qv 4) (Qd (Qn 18))]
def f23_c2:MC:=.r0 f23_r2
def f23_c6:MC:=.seq f23_c0 (.seq f23_c1 (.seq f23_c2 .ret))
attribute [go_sem] f23_r0 f23_r1 f23_r2
theorem f23_k : KK QP 23 f23 [2,3] f23_c6 [(RV.t 4)] 19 := by refine ⟨func23,?_,?_,?_,?_⟩<;>kernel_rfl
theorem f23_ok : callable QP 23 = true := by kernel_rfl
theorem f23_in (h : GI QP gp [(RV.t 4)] res 19 f23_c6 args) : Does QP gp 23 args res := f23_k.i f23_ok h
def f24_r0:List MO:=[Qa (Qv 1) (MOp.ibox (Qn 0)),Qa (Qv 2) (MOp.alloc [(Qr Qu 0),(D.sl [])])]
def f24_c0:MC:=.r0 f24_r0
def f24_r1:List MO:=[Qa (Qv 9) (Qg 0 (Qn 1)),Qa (Qv 10) (Qf 1 false (Qn 9)),Qa (Qv 11) (MOp.build [(Qr Qu 0),(D.sl [])] [(0,(1,(Qn 10)))]),Qa (Qv 3) (MOp.alloc [(Qr Qu 0),(D.sl [])]),Qa none (Ql 2 (Qn 3) (Qn 11))]
def f24_c1:MC:=.r0 f24_r1
def f24_r2:List MO:=[Qa (Qv 4) (Qd (Qo (Qp (Qq (Qr Qu 0)))))]
def f24_c2:MC:=.r0 f24_r2
def f24_r3:List MO:=[Qa (Qv 12) (Qd (Qn 4)),Qa (Qv 13) (Qg 1 (Qn 1)),Qa (Qv 14) (Qf 1 false (Qn 13)),Qa (Qv 15) (Qk Qt (Qn 14)),Qa (Qv 16) (Qe Qt Go.BinOp.lss (Qn 12) (Qn 15)),Qa (Qv 17) (Qd (Qn 16)),Qb 17 true (Qv 18),Qa (Qv 18) (Qd (Qn 4)),Qb 17 true (Qv 19),Qa (Qv 19) (Qe Qt Go.BinOp.lss (Qn 18) (Qo (Qp (Qq (Qr Qu 201))))),Qa (Qv 20) (Qm (Qn 17) (Qn 19) (Qo (Qp (Qq (Qs false)))))]
def f24_c3:MC:=.r0 f24_r3
def f24_r8:List MO:=[Qa (Qv 23) (Qg 1 (Qn 1)),Qa (Qv 24) (Qf 1 false (Qn 23)),Qa (Qv 25) (Qd (Qn 4)),Qa (Qv 26) (Qj 6 (Qn 24) (Qn 25)),Qa (Qv 27) (Qf 6 true (Qn 26)),Qa (Qv 5) (MOp.alloc [(Qr Qu 0),(Qr Qu 0),(Qr Qu 0),(D.str (ByteArray.mk #[])),(D.sl []),(D.sl [])]),Qa none (Ql 6 (Qn 5) (Qn 27))]
def f24_c8:MC:=.r0 f24_r8
def f24_r9:List MO:=[Qa (Qv 28) (Qg 0 (Qn 5)),Qa (Qv 29) (Qf 1 false (Qn 28)),Qa (Qv 30) (Qg 1 (Qn 5)),Qa (Qv 31) (Qf 3 true (Qn 30)),Qa (Qv 32) (Qh 18 [(Qn 31)]),Qa (Qv 33) (MOp.build [(Qr Qu 0),(Qr Qu 0),(Qr Qu 0),(D.str (ByteArray.mk #[])),(D.sl []),(D.sl [])] [(0,(1,(Qn 29))),(1,(3,(Qn 32)))]),Qa (Qv 6) (MOp.alloc [(Qr Qu 0),(Qr Qu 0),(Qr Qu 0),(D.str (ByteArray.mk #[])),(D.sl []),(D.sl [])]),Qa none (Ql 6 (Qn 6) (Qn 33))]
def f24_c9:MC:=.reg true f24_r9
def f24_r10:List MO:=[Qa (Qv 7) (Qd (Qo (Qp (Qq (Qr Qu 0)))))]
def f24_c10:MC:=.r0 f24_r10
def f24_r11:List MO:=[Qa (Qv 34) (Qd (Qn 7)),Qa (Qv 35) (Qg 4 (Qn 5)),Qa (Qv 36) (Qf 1 false (Qn 35)),Qa (Qv 37) (Qk Qt (Qn 36)),Qa (Qv 38) (Qe Qt Go.BinOp.lss (Qn 34) (Qn 37)),Qa (Qv 39) (Qd (Qn 38)),Qb 39 true (Qv 40),Qa (Qv 40) (Qd (Qn 7)),Qb 39 true (Qv 41),Qa (Qv 41) (Qe Qt Go.BinOp.lss (Qn 40) (Qo (Qp (Qq (Qr Qu 12))))),Qa (Qv 42) (Qm (Qn 39) (Qn 41) (Qo (Qp (Qq (Qs false)))))]
def f24_c11:MC:=.r0 f24_r11
def f24_r16:List MO:=[Qa (Qv 45) (Qg 4 (Qn 6)),Qa (Qv 46) (Qf 1 false (Qn 45)),Qa (Qv 47) (Qg 4 (Qn 5)),Qa (Qv 48) (Qf 1 false (Qn 47)),Qa (Qv 49) (Qd (Qn 7)),Qa (Qv 50) (Qj 3 (Qn 48) (Qn 49)),Qa (Qv 51) (Qf 3 true (Qn 50)),Qa (Qv 52) (Qh 18 [(Qn 51)]),Qa (Qv 53) (MOp.bslice 3 [(Qr Qu 0),(Qr Qu 0),(D.str (ByteArray.mk #[]))] 1 [(0,(Qn 52))]),Qa (Qv 54) (MOp.app 39 3 32 (Qn 46) (Qn 53)),Qa (Qv 55) (Qg 4 (Qn 6)),Qa none (Ql 1 (Qn 55) (Qn 54))]
def f24_c16:MC:=.reg true f24_r16
def f24_r18:List MO:=[Qa (Qv 43) (Qd (Qn 7)),Qa (Qv 44) (Qe Qt Go.BinOp.add (Qn 43) (Qo (Qp (Qq (Qr Qu 1))))),Qa (Qv 7) (Qd (Qn 44))]
def f24_c18:MC:=.r0 f24_r18
def f24_c23:MC:=.seq f24_c10 (.blk 2 (.loop (.seq (.seq f24_c11 (.cond (Qn 42) .skip (MC.exit 2))) (.seq (.blk 3 f24_c16) f24_c18))))
def f24_r24:List MO:=[Qa (Qv 8) (Qd (Qo (Qp (Qq (Qr Qu 0)))))]
def f24_c24:MC:=.r0 f24_r24
def f24_r25:List MO:=[Qa (Qv 56) (Qd (Qn 8)),Qa (Qv 57) (Qg 5 (Qn 5)),Qa (Qv 58) (Qf 1 false (Qn 57)),Qa (Qv 59) (Qk Qt (Qn 58)),Qa (Qv 60) (Qe Qt Go.BinOp.lss (Qn 56) (Qn 59)),Qa (Qv 61) (Qd (Qn 60)),Qb 61 true (Qv 62),Qa (Qv 62) (Qd (Qn 8)),Qb 61 true (Qv 63),Qa (Qv 63) (Qe Qt Go.BinOp.lss (Qn 62) (Qo (Qp (Qq (Qr Qu 12))))),Qa (Qv 64) (Qm (Qn 61) (Qn 63) (Qo (Qp (Qq (Qs false)))))]
def f24_c25:MC:=.r0 f24_r25
def f24_r30:List MO:=[Qa (Qv 67) (Qg 5 (Qn 6)),Qa (Qv 68) (Qf 1 false (Qn 67)),Qa (Qv 69) (Qg 5 (Qn 5)),Qa (Qv 70) (Qf 1 false (Qn 69)),Qa (Qv 71) (Qd (Qn 8)),Qa (Qv 72) (Qj 1 (Qn 70) (Qn 71)),Qa (Qv 73) (Qf 1 false (Qn 72)),Qa (Qv 74) (MOp.bslice 1 [(Qr Qu 0)] 1 [(0,(Qn 73))]),Qa (Qv 75) (MOp.app 3 1 8 (Qn 68) (Qn 74)),Qa (Qv 76) (Qg 5 (Qn 6)),Qa none (Ql 1 (Qn 76) (Qn 75))]
def f24_c30:MC:=.reg true f24_r30
def f24_r32:List MO:=[Qa (Qv 65) (Qd (Qn 8)),Qa (Qv 66) (Qe Qt Go.BinOp.add (Qn 65) (Qo (Qp (Qq (Qr Qu 1))))),Qa (Qv 8) (Qd (Qn 66))]
def f24_c32:MC:=.r0 f24_r32
def f24_c37:MC:=.seq f24_c24 (.blk 4 (.loop (.seq (.seq f24_c25 (.cond (Qn 64) .skip (MC.exit 4))) (.seq (.blk 5 f24_c30) f24_c32))))
def f24_r38:List MO:=[Qa (Qv 77) (Qg 1 (Qn 3)),Qa (Qv 78) (Qf 1 false (Qn 77)),Qa (Qv 79) (Qf 6 true (Qn 6)),Qa (Qv 80) (MOp.bslice 6 [(Qr Qu 0),(Qr Qu 0),(Qr Qu 0),(D.str (ByteArray.mk #[])),(D.sl []),(D.sl [])] 1 [(0,(Qn 79))]),Qa (Qv 81) (MOp.app 43 6 88 (Qn 78) (Qn 80)),Qa (Qv 82) (Qg 1 (Qn 3)),Qa none (Ql 1 (Qn 82) (Qn 81))]
def f24_c38:MC:=.r0 f24_r38
def f24_c41:MC:=.seq f24_c9 (.seq f24_c23 (.seq f24_c37 f24_c38))
def f24_r44:List MO:=[Qa (Qv 21) (Qd (Qn 4)),Qa (Qv 22) (Qe Qt Go.BinOp.add (Qn 21) (Qo (Qp (Qq (Qr Qu 1))))),Qa (Qv 4) (Qd (Qn 22))]
def f24_c44:MC:=.r0 f24_r44
def f24_c46:MC:=.seq (.seq f24_c3 (.cond (Qn 20) .skip (MC.exit 0))) (.seq (.blk 1 (.seq f24_c8 f24_c41)) f24_c44)
def f24_r50:List MO:=[Qa (Qv 83) (Qf 2 true (Qn 3)),Qa none (Ql 2 (Qn 2) (Qn 83))]
def f24_c50:MC:=.r0 f24_r50
def f24_c54:MC:=.seq f24_c1 (.seq (.seq f24_c2 (.blk 0 (.loop f24_c46))) (.seq f24_c50 .ret))
def f24_c55:MC:=.seq f24_c0 f24_c54
attribute [go_sem] f24_r0 f24_r1 f24_r2 f24_r3 f24_r8 f24_r9 f24_r10 f24_r11 f24_r16 f24_r18 f24_r24 f24_r25 f24_r30 f24_r32 f24_r38 f24_r44 f24_r50
theorem f24_k : KK QP 24 f24 [1] f24_c55 [(RV.cell 2 2 true)] 84 := by refine ⟨func24,?_,?_,?_,?_⟩<;>kernel_rfl
theorem f24_ok : callable QP 24 = true := by kernel_rfl
theorem f24_in (h : GI QP gp [(RV.cell 2 2 true)] res 84 f24_c55 args) : Does QP gp 24 args res := f24_k.i f24_ok h
def f26_r0:List MO:=[Qa (Qv 1) (MOp.ibox (Qn 0)),Qa (Qv 2) (Qd (Qo (Qp A.nil))),Qa (Qv 3) (Qd (Qo (Qp (Qq (Qr Qu 0)))))]
def f26_c0:MC:=.r0 f26_r0
def f26_r1:List MO:=[Qa (Qv 10) (Qf 2 true (Qn 1)),Qa (Qv 11) (Qh 53 [(Qn 10)]),Qa (Qv 12) (MOp.not (Qn 11))]
def f26_c1:MC:=.r0 f26_r1
def f26_r2:List MO:=[Qa (Qv 2) (Qd (Qo (Qp A.nil))),Qa (Qv 3) (Qd (Qo (Qp (Qq (Qr Qu 72)))))]
def f26_c2:MC:=.r0 f26_r2
def f26_r8:List MO:=[Qa (Qv 13) (Qf 2 true (Qn 1)),Qa (Qv 14) (Qh 54 [(Qn 13)])]
def f26_c8:MC:=.r0 f26_r8
def f26_r9:List MO:=[Qa (Qv 2) (Qd (Qo (Qp A.nil))),Qa (Qv 3) (Qd (Qo (Qp (Qq (Qr Qu 73)))))]
def f26_c9:MC:=.r0 f26_r9
def f26_r15:List MO:=[Qa (Qv 16) (Qf 2 true (Qn 1)),Qa (Qv 17) (Qh 55 [(Qn 16)]),Qa (Qv 15) (Qd (Qn 17)),Qa (Qv 18) (Qi (Qn 15) 0),Qa (Qv 19) (Qi (Qn 15) 1),Qa (Qv 4) (Qd (Qn 18)),Qa (Qv 5) (Qd (Qn 19))]
def f26_c15:MC:=.r0 f26_r15
def f26_r16:List MO:=[Qa (Qv 20) (Qf 2 true (Qn 1)),Qa (Qv 21) (Qd (Qn 4)),Qa (Qv 22) (Qh 56 [(Qn 20),(Qn 21)]),Qa (Qv 23) (Qe Qt Go.BinOp.gtr (Qn 22) (Qo (Qp (Qq (Qr Qu 200)))))]
def f26_c16:MC:=.r0 f26_r16
def f26_r17:List MO:=[Qa (Qv 2) (Qd (Qo (Qp A.nil))),Qa (Qv 3) (Qd (Qo (Qp (Qq (Qr Qu 71)))))]
def f26_c17:MC:=.r0 f26_r17
def f26_r23:List MO:=[Qa (Qv 24) (Qf 2 true (Qn 1)),Qa (Qv 25) (Qd (Qn 4)),Qa (Qv 26) MOp.mkM,Qa (Qv 27) (MOp.build [(Qr Qu 0),(D.sl []),(D.sl []),(D.raw (Go.Value.map none))] [(0,(2,(Qn 24))),(2,(1,(Qn 25))),(3,(1,(Qn 26)))]),Qa (Qv 28) (MOp.box (Qn 27)),Qa (Qv 6) (Qd (Qn 28))]
def f26_c23:MC:=.r0 f26_r23
def f26_r24:List MO:=[Qa (Qv 7) (MOp.alloc [(D.sl [])])]
def f26_c24:MC:=.r0 f26_r24
def f26_r25:List MO:=[Qa (Qv 8) (MOp.alloc [(Qr Qu 0)]),Qa none (Ql 1 (Qn 8) (Qo (Qp (Qq (Qr Qu 0)))))]
def f26_c25:MC:=.r0 f26_r25
def f26_r27:List MO:=[Qa (Qv 29) (Qd (Qn 6)),Qa (Qv 30) (Qh 57 [(Qn 29)])]
def f26_c27:MC:=.r0 f26_r27
def f26_r28:List MO:=[Qa (Qv 9) (MOp.alloc [(D.str (ByteArray.mk #[])),(Qr Qu 0),(Qr Qu 0)]),Qa none (Ql 3 (Qn 9) (Qn 31))]
def f26_c28:MC:=.r0 f26_r28
def f26_r29:List MO:=[Qa (Qv 32) (Qf 1 false (Qn 7)),Qa (Qv 33) (Qg 0 (Qn 9)),Qa (Qv 34) (Qf 1 false (Qn 33)),Qa (Qv 35) (MOp.bslice 1 [(D.str (ByteArray.mk #[]))] 1 [(0,(Qn 34))]),Qa (Qv 36) (MOp.app 9 1 16 (Qn 32) (Qn 35)),Qa none (Ql 1 (Qn 7) (Qn 36))]
def f26_c29:MC:=.r0 f26_r29
def f26_r30:List MO:=[Qa (Qv 37) (Qf 1 false (Qn 8)),Qa (Qv 38) (Qg 0 (Qn 9)),Qa (Qv 39) (Qf 1 false (Qn 38)),Qa (Qv 40) (Qk Leaf.s (Qn 39)),Qa (Qv 41) (Qe Qt Go.BinOp.add (Qn 40) (Qo (Qp (Qq (Qr Qu 1))))),Qa (Qv 42) (Qe Qt Go.BinOp.add (Qn 37) (Qn 41)),Qa none (Ql 1 (Qn 8) (Qn 42))]
def f26_c30:MC:=.r0 f26_r30
def f26_r31:List MO:=[Qa (Qv 43) (Qf 1 false (Qn 8)),Qa (Qv 44) (Qe Qt Go.BinOp.gtr (Qn 43) (Qo (Qp (Qq (Qr Qu 8000)))))]
def f26_c31:MC:=.r0 f26_r31
def f26_c39:MC:=.rf (Qn 30) [31] f26_c28 (.blk 1 (.seq f26_c29 (.seq f26_c30 (.seq f26_c31 (.cond (Qn 44) (MC.exit 0) .skip)))))
def f26_r42:List MO:=[Qa (Qv 45) (Qf 1 false (Qn 8)),Qa (Qv 46) (Qe Qt Go.BinOp.gtr (Qn 45) (Qo (Qp (Qq (Qr Qu 8000)))))]
def f26_c42:MC:=.r0 f26_r42
def f26_r43:List MO:=[Qa (Qv 2) (Qd (Qo (Qp A.nil))),Qa (Qv 3) (Qd (Qo (Qp (Qq (Qr Qu 20)))))]
def f26_c43:MC:=.r0 f26_r43
def f26_r49:List MO:=[Qa (Qv 47) (Qf 1 false (Qn 7)),Qa (Qv 2) (Qd (Qn 47)),Qa (Qv 3) (Qd (Qo (Qp (Qq (Qr Qu 0)))))]
def f26_c49:MC:=.r0 f26_r49
def f26_c53:MC:=.seq (.seq f26_c27 (.blk 0 f26_c39)) (.seq (.seq f26_c42 (.cond (Qn 46) (.seq f26_c43 .ret) .skip)) (.seq f26_c49 .ret))
def f26_c57:MC:=.seq f26_c23 (.seq f26_c24 (.seq f26_c25 (.seq .skip f26_c53)))
def f26_c59:MC:=.seq f26_c15 (.seq (.seq f26_c16 (.cond (Qn 23) (.seq f26_c17 .ret) .skip)) f26_c57)
def f26_c61:MC:=.seq (.seq f26_c1 (.cond (Qn 12) (.seq f26_c2 .ret) .skip)) (.seq (.seq f26_c8 (.cond (Qn 14) (.seq f26_c9 .ret) .skip)) f26_c59)
def f26_c63:MC:=.seq f26_c0 (.scope f26_c61)
attribute [go_sem] f26_r0 f26_r1 f26_r2 f26_r8 f26_r9 f26_r15 f26_r16 f26_r17 f26_r23 f26_r24 f26_r25 f26_r27 f26_r28 f26_r29 f26_r30 f26_r31 f26_r42 f26_r43 f26_r49
theorem f26_k : KK QP 26 f26 [1] f26_c63 [(RV.t 2),(RV.t 3)] 48 := by refine ⟨func26,?_,?_,?_,?_⟩<;>kernel_rfl
theorem f26_ok : callable QP 26 = true := by kernel_rfl
theorem f26_in (h : GI QP gp [(RV.t 2),(RV.t 3)] res 48 f26_c63 args) : Does QP gp 26 args res := f26_k.i f26_ok h
def f34_r0:List MO:=[Qa (Qv 2) (Qd (Qo (Qp (Qq (D.str (ByteArray.mk #[]))))))]
def f34_c0:MC:=.r0 f34_r0
def f34_r1:List MO:=[Qa (Qv 3) (Qd (Qn 0)),Qa (Qv 4) (Qd (Qn 0)),Qa (Qv 5) (Qk Leaf.s (Qn 4)),Qa (Qv 6) (MOp.min (Qn 5) (Qo (Qp (Qq (Qr Qu 100))))),Qa (Qv 7) (MOp.slcS (Qn 3) none (Qv (Qn 6))),Qa (Qv 2) (Qd (Qn 7))]
def f34_c1:MC:=.r0 f34_r1
def f34_c4:MC:=.seq f34_c0 (.seq f34_c1 .ret)
attribute [go_sem] f34_r0 f34_r1
theorem f34_k : KK QP 34 f34 [] f34_c4 [(RV.t 2)] 8 := by refine ⟨func34,?_,?_,?_,?_⟩<;>kernel_rfl
theorem f34_ok : callable QP 34 = true := by kernel_rfl
theorem f34_in (h : GI QP gp [(RV.t 2)] res 8 f34_c4 args) : Does QP gp 34 args res := f34_k.i f34_ok h
def f35_r0:List MO:=[Qa (Qv 1) (MOp.ibox (Qn 0)),Qa (Qv 2) (Qd (Qo (Qp (Qq (Qs false)))))]
def f35_c0:MC:=.r0 f35_r0
def f35_r1:List MO:=[Qa (Qv 3) (Qg 0 (Qn 1)),Qa (Qv 4) (Qf 1 false (Qn 3))]
def f35_c1:MC:=.r0 f35_r1
def f35_r2:List MO:=[Qa (Qv 6) (Qe Qt Go.BinOp.eql (Qn 4) (Qo (Qp (Qq (Qr Qu 0))))),Qa (Qv 5) (Qd (Qn 6))]
def f35_c2:MC:=.r0 f35_r2
def f35_r3:List MO:=[Qa (Qv 7) (Qf 3 true (Qn 1)),Qa (Qv 8) (MOp.build [(Qr Qu 0),(Qr Qu 0),(D.str (ByteArray.mk #[]))] []),Qa (Qv 9) (MOp.eqs false [Qt,Qt,Leaf.s] (Qn 7) (Qn 8)),Qa (Qv 2) (Qd (Qn 9))]
def f35_c3:MC:=.r0 f35_r3
def f35_r6:List MO:=[Qa (Qv 11) (Qe Qt Go.BinOp.eql (Qn 4) (Qo (Qp (Qq (Qr Qu 1))))),Qa (Qv 10) (Qd (Qn 11))]
def f35_c6:MC:=.r0 f35_r6
def f35_r7:List MO:=[Qa (Qv 12) (Qg 2 (Qn 1)),Qa (Qv 13) (Qf 1 false (Qn 12)),Qa (Qv 14) (Qe Leaf.s Go.BinOp.eql (Qn 13) (Qo (Qp (Qq (D.str (ByteArray.mk #[])))))),Qa (Qv 15) (Qd (Qn 14)),Qb 15 true (Qv 16),Qa (Qv 16) (Qg 1 (Qn 1)),Qb 15 true (Qv 17),Qa (Qv 17) (Qf 1 false (Qn 16)),Qb 15 true (Qv 18),Qa (Qv 18) (Qe Qt Go.BinOp.eql (Qn 17) (Qo (Qp (Qq (Qr Qu 0))))),Qb 15 true (Qv 19),Qa (Qv 19) (Qd (Qn 18)),Qb 19 false (Qv 20),Qa (Qv 20) (Qg 1 (Qn 1)),Qb 19 false (Qv 21),Qa (Qv 21) (Qf 1 false (Qn 20)),Qb 19 false (Qv 22),Qa (Qv 22) (Qe Qt Go.BinOp.eql (Qn 21) (Qo (Qp (Qq (Qr Qu 1))))),Qb 15 true (Qv 23),Qa (Qv 23) (Qm (Qn 19) (Qo (Qp (Qq (Qs true)))) (Qn 22)),Qa (Qv 24) (Qm (Qn 15) (Qn 23) (Qo (Qp (Qq (Qs false))))),Qa (Qv 2) (Qd (Qn 24))]
def f35_c7:MC:=.r0 f35_r7
def f35_r10:List MO:=[Qa (Qv 26) (Qe Qt Go.BinOp.eql (Qn 4) (Qo (Qp (Qq (Qr Qu 2))))),Qa (Qv 25) (Qd (Qn 26))]
def f35_c10:MC:=.r0 f35_r10
def f35_r11:List MO:=[Qa (Qv 27) (Qg 2 (Qn 1)),Qa (Qv 28) (Qf 1 false (Qn 27)),Qa (Qv 29) (Qe Leaf.s Go.BinOp.eql (Qn 28) (Qo (Qp (Qq (D.str (ByteArray.mk #[])))))),Qa (Qv 30) (Qd (Qn 29)),Qb 30 true (Qv 31),Qa (Qv 31) (Qg 1 (Qn 1)),Qb 30 true (Qv 32),Qa (Qv 32) (Qf 1 false (Qn 31)),Qb 30 true (Qv 33),Qa (Qv 33) (Qe Qt Go.BinOp.geq (Qn 32) (Qo (Qp (Qq (Qr Qu (-999999999999999)))))),Qa (Qv 34) (Qm (Qn 30) (Qn 33) (Qo (Qp (Qq (Qs false))))),Qa (Qv 35) (Qd (Qn 34)),Qb 35 true (Qv 36),Qa (Qv 36) (Qg 1 (Qn 1)),Qb 35 true (Qv 37),Qa (Qv 37) (Qf 1 false (Qn 36)),Qb 35 true (Qv 38),Qa (Qv 38) (Qe Qt Go.BinOp.leq (Qn 37) (Qo (Qp (Qq (Qr Qu 999999999999999))))),Qa (Qv 39) (Qm (Qn 35) (Qn 38) (Qo (Qp (Qq (Qs false))))),Qa (Qv 2) (Qd (Qn 39))]
def f35_c11:MC:=.r0 f35_r11
def f35_r14:List MO:=[Qa (Qv 41) (Qe Qt Go.BinOp.eql (Qn 4) (Qo (Qp (Qq (Qr Qu 3))))),Qa (Qv 40) (Qd (Qn 41))]
def f35_c14:MC:=.r0 f35_r14
def f35_r15:List MO:=[Qa (Qv 42) (Qg 1 (Qn 1)),Qa (Qv 43) (Qf 1 false (Qn 42)),Qa (Qv 44) (Qe Qt Go.BinOp.eql (Qn 43) (Qo (Qp (Qq (Qr Qu 0))))),Qa (Qv 45) (Qd (Qn 44)),Qb 45 true (Qv 46),Qa (Qv 46) (Qg 2 (Qn 1)),Qb 45 true (Qv 47),Qa (Qv 47) (Qf 1 false (Qn 46)),Qb 45 true (Qv 48),Qa (Qv 48) (Qh 63 [(Qn 47)]),Qa (Qv 49) (Qm (Qn 45) (Qn 48) (Qo (Qp (Qq (Qs false))))),Qa (Qv 2) (Qd (Qn 49))]
def f35_c15:MC:=.r0 f35_r15
def f35_c22:MC:=.seq f35_c10 (.cond (Qn 25) (.seq f35_c11 .ret) (.seq f35_c14 (.cond (Qn 40) (.seq f35_c15 .ret) .skip)))
def f35_c25:MC:=.cond (Qn 5) (.seq f35_c3 .ret) (.seq f35_c6 (.cond (Qn 10) (.seq f35_c7 .ret) f35_c22))
def f35_r29:List MO:=[Qa (Qv 2) (Qd (Qo (Qp (Qq (Qs false)))))]
def f35_c29:MC:=.r0 f35_r29
def f35_c32:MC:=.seq (.seq f35_c1 (.blk 0 (.seq f35_c2 f35_c25))) (.seq f35_c29 .ret)
def f35_c33:MC:=.seq f35_c0 f35_c32
attribute [go_sem] f35_r0 f35_r1 f35_r2 f35_r3 f35_r6 f35_r7 f35_r10 f35_r11 f35_r14 f35_r15 f35_r29
theorem f35_k : KK QP 35 f35 [1] f35_c33 [(RV.t 2)] 50 := by refine ⟨func35,?_,?_,?_,?_⟩<;>kernel_rfl
theorem f35_ok : callable QP 35 = true := by kernel_rfl
theorem f35_in (h : GI QP gp [(RV.t 2)] res 50 f35_c33 args) : Does QP gp 35 args res := f35_k.i f35_ok h
def f43_r0:List MO:=[Qa (Qv 2) (MOp.ibox (Qn 0)),Qa (Qv 3) (MOp.ibox (Qn 1)),Qa (Qv 4) (Qd (Qo (Qp (Qq (Qs false)))))]
def f43_c0:MC:=.r0 f43_r0
def f43_r1:List MO:=[Qa (Qv 5) (Qg 0 (Qn 2)),Qa (Qv 6) (Qf 1 false (Qn 5)),Qa (Qv 7) (Qg 0 (Qn 3)),Qa (Qv 8) (Qf 1 false (Qn 7)),Qa (Qv 9) (Qe Qt Go.BinOp.eql (Qn 6) (Qn 8)),Qa (Qv 10) (Qd (Qn 9)),Qb 10 true (Qv 11),Qa (Qv 11) (Qg 1 (Qn 2)),Qb 10 true (Qv 12),Qa (Qv 12) (Qf 3 true (Qn 11)),Qb 10 true (Qv 13),Qa (Qv 13) (Qg 1 (Qn 3)),Qb 10 true (Qv 14),Qa (Qv 14) (Qf 3 true (Qn 13)),Qb 10 true (Qv 15),Qa (Qv 15) (MOp.eqs false [Qt,Qt,Leaf.s] (Qn 12) (Qn 14)),Qa (Qv 16) (Qm (Qn 10) (Qn 15) (Qo (Qp (Qq (Qs false))))),Qa (Qv 17) (Qd (Qn 16)),Qb 17 true (Qv 18),Qa (Qv 18) (Qg 4 (Qn 2)),Qb 17 true (Qv 19),Qa (Qv 19) (Qf 1 false (Qn 18)),Qb 17 true (Qv 20),Qa (Qv 20) (Qg 4 (Qn 3)),Qb 17 true (Qv 21),Qa (Qv 21) (Qf 1 false (Qn 20)),Qb 17 true (Qv 22),Qa (Qv 22) (Qh 44 [(Qn 19),(Qn 21)]),Qa (Qv 23) (Qm (Qn 17) (Qn 22) (Qo (Qp (Qq (Qs false))))),Qa (Qv 24) (Qd (Qn 23)),Qb 24 true (Qv 25),Qa (Qv 25) (Qg 5 (Qn 2)),Qb 24 true (Qv 26),Qa (Qv 26) (Qf 1 false (Qn 25)),Qb 24 true (Qv 27),Qa (Qv 27) (Qg 5 (Qn 3)),Qb 24 true (Qv 28),Qa (Qv 28) (Qf 1 false (Qn 27)),Qb 24 true (Qv 29),Qa (Qv 29) (Qh 45 [(Qn 26),(Qn 28)]),Qa (Qv 30) (Qm (Qn 24) (Qn 29) (Qo (Qp (Qq (Qs false))))),Qa (Qv 4) (Qd (Qn 30))]
def f43_c1:MC:=.r0 f43_r1
def f43_c4:MC:=.seq f43_c0 (.seq f43_c1 .ret)
attribute [go_sem] f43_r0 f43_r1
theorem f43_k : KK QP 43 f43 [2,3] f43_c4 [(RV.t 4)] 31 := by refine ⟨func43,?_,?_,?_,?_⟩<;>kernel_rfl
theorem f43_ok : callable QP 43 = true := by kernel_rfl
theorem f43_in (h : GI QP gp [(RV.t 4)] res 31 f43_c4 args) : Does QP gp 43 args res := f43_k.i f43_ok h
def f44_r0:List MO:=[Qa (Qv 4) (Qd (Qo (Qp (Qq (Qs false)))))]
def f44_c0:MC:=.r0 f44_r0
def f44_r1:List MO:=[Qa (Qv 6) (Qd (Qn 0)),Qa (Qv 7) (Qk Qt (Qn 6)),Qa (Qv 8) (Qd (Qn 1)),Qa (Qv 9) (Qk Qt (Qn 8)),Qa (Qv 10) (Qe Qt Go.BinOp.neq (Qn 7) (Qn 9))]
def f44_c1:MC:=.r0 f44_r1
def f44_r2:List MO:=[Qa (Qv 4) (Qd (Qo (Qp (Qq (Qs false)))))]
def f44_c2:MC:=.r0 f44_r2
def f44_r8:List MO:=[Qa (Qv 11) (Qd (Qn 0)),Qa (Qv 12) (Qk Qt (Qn 11)),Qa (Qv 13) (Qd (Qo (Qp (Qq (Qr Qu 0)))))]
def f44_c8:MC:=.r0 f44_r8
def f44_r9:List MO:=[Qa (Qv 14) (Qe Qt Go.BinOp.lss (Qn 13) (Qn 12))]
def f44_c9:MC:=.r0 f44_r9
def f44_r13:List MO:=[Qa (Qv 15) (Qd (Qn 13)),Qa (Qv 5) (Qd (Qn 15))]
def f44_c13:MC:=.r0 f44_r13
def f44_r14:List MO:=[Qa (Qv 16) (Qd (Qn 0)),Qa (Qv 17) (Qd (Qn 5)),Qa (Qv 18) (Qj 3 (Qn 16) (Qn 17)),Qa (Qv 19) (Qf 3 true (Qn 18)),Qa (Qv 20) (Qd (Qn 1)),Qa (Qv 21) (Qd (Qn 5)),Qa (Qv 22) (Qj 3 (Qn 20) (Qn 21)),Qa (Qv 23) (Qf 3 true (Qn 22)),Qa (Qv 24) (MOp.eqs true [Qt,Qt,Leaf.s] (Qn 19) (Qn 23))]
def f44_c14:MC:=.reg true f44_r14
def f44_r15:List MO:=[Qa (Qv 4) (Qd (Qo (Qp (Qq (Qs false)))))]
def f44_c15:MC:=.r0 f44_r15
def f44_r23:List MO:=[Qa (Qv 25) (Qe Qt Go.BinOp.add (Qn 13) (Qo (Qp (Qq (Qr Qu 1))))),Qa (Qv 13) (Qd (Qn 25))]
def f44_c23:MC:=.r0 f44_r23
def f44_c24:MC:=.seq (.blk 1 (.seq f44_c13 (.seq f44_c14 (.cond (Qn 24) (.seq f44_c15 .ret) .skip)))) f44_c23
def f44_r30:List MO:=[Qa (Qv 4) (Qd (Qo (Qp (Qq (Qs true)))))]
def f44_c30:MC:=.r0 f44_r30
def f44_c33:MC:=.seq (.seq f44_c8 (.blk 0 (.loop (.seq f44_c9 (.seq (.cond (Qn 14) .skip (MC.exit 0)) f44_c24))))) (.seq f44_c30 .ret)
def f44_c35:MC:=.seq f44_c0 (.seq (.seq f44_c1 (.cond (Qn 10) (.seq f44_c2 .ret) .skip)) f44_c33)
attribute [go_sem] f44_r0 f44_r1 f44_r2 f44_r8 f44_r9 f44_r13 f44_r14 f44_r15 f44_r23 f44_r30
theorem f44_k : KK QP 44 f44 [] f44_c35 [(RV.t 4)] 26 := by refine ⟨func44,?_,?_,?_,?_⟩<;>kernel_rfl
theorem f44_ok : callable QP 44 = true := by kernel_rfl
theorem f44_in (h : GI QP gp [(RV.t 4)] res 26 f44_c35 args) : Does QP gp 44 args res := f44_k.i f44_ok h
def f45_r0:List MO:=[Qa (Qv 4) (Qd (Qo (Qp (Qq (Qs false)))))]
def f45_c0:MC:=.r0 f45_r0
def f45_r1:List MO:=[Qa (Qv 6) (Qd (Qn 0)),Qa (Qv 7) (Qk Qt (Qn 6)),Qa (Qv 8) (Qd (Qn 1)),Qa (Qv 9) (Qk Qt (Qn 8)),Qa (Qv 10) (Qe Qt Go.BinOp.neq (Qn 7) (Qn 9))]
def f45_c1:MC:=.r0 f45_r1
def f45_r2:List MO:=[Qa (Qv 4) (Qd (Qo (Qp (Qq (Qs false)))))]
def f45_c2:MC:=.r0 f45_r2
def f45_r8:List MO:=[Qa (Qv 11) (Qd (Qn 0)),Qa (Qv 12) (Qk Qt (Qn 11)),Qa (Qv 13) (Qd (Qo (Qp (Qq (Qr Qu 0)))))]
def f45_c8:MC:=.r0 f45_r8
def f45_r9:List MO:=[Qa (Qv 14) (Qe Qt Go.BinOp.lss (Qn 13) (Qn 12))]
def f45_c9:MC:=.r0 f45_r9
def f45_r13:List MO:=[Qa (Qv 15) (Qd (Qn 13)),Qa (Qv 5) (Qd (Qn 15))]
def f45_c13:MC:=.r0 f45_r13
def f45_r14:List MO:=[Qa (Qv 16) (Qd (Qn 0)),Qa (Qv 17) (Qd (Qn 5)),Qa (Qv 18) (Qj 1 (Qn 16) (Qn 17)),Qa (Qv 19) (Qf 1 false (Qn 18)),Qa (Qv 20) (Qd (Qn 1)),Qa (Qv 21) (Qd (Qn 5)),Qa (Qv 22) (Qj 1 (Qn 20) (Qn 21)),Qa (Qv 23) (Qf 1 false (Qn 22)),Qa (Qv 24) (Qe Qt Go.BinOp.neq (Qn 19) (Qn 23))]
def f45_c14:MC:=.reg true f45_r14
def f45_r15:List MO:=[Qa (Qv 4) (Qd (Qo (Qp (Qq (Qs false)))))]
def f45_c15:MC:=.r0 f45_r15
def f45_r23:List MO:=[Qa (Qv 25) (Qe Qt Go.BinOp.add (Qn 13) (Qo (Qp (Qq (Qr Qu 1))))),Qa (Qv 13) (Qd (Qn 25))]
def f45_c23:MC:=.r0 f45_r23
def f45_c24:MC:=.seq (.blk 1 (.seq f45_c13 (.seq f45_c14 (.cond (Qn 24) (.seq f45_c15 .ret) .skip)))) f45_c23
def f45_r30:List MO:=[Qa (Qv 4) (Qd (Qo (Qp (Qq (Qs true)))))]
def f45_c30:MC:=.r0 f45_r30
def f45_c33:MC:=.seq (.seq f45_c8 (.blk 0 (.loop (.seq f45_c9 (.seq (.cond (Qn 14) .skip (MC.exit 0)) f45_c24))))) (.seq f45_c30 .ret)
def f45_c35:MC:=.seq f45_c0 (.seq (.seq f45_c1 (.cond (Qn 10) (.seq f45_c2 .ret) .skip)) f45_c33)
attribute [go_sem] f45_r0 f45_r1 f45_r2 f45_r8 f45_r9 f45_r13 f45_r14 f45_r15 f45_r23 f45_r30
theorem f45_k : KK QP 45 f45 [] f45_c35 [(RV.t 4)] 26 := by refine ⟨func45,?_,?_,?_,?_⟩<;>kernel_rfl
theorem f45_ok : callable QP 45 = true := by kernel_rfl
theorem f45_in (h : GI QP gp [(RV.t 4)] res 26 f45_c35 args) : Does QP gp 45 args res := f45_k.i f45_ok h
def f46_r0:List MO:=[Qa (Qv 6) (Qd (Qo (Qp (Qq (Qs false)))))]
def f46_c0:MC:=.r0 f46_r0
def f46_r1:List MO:=[Qa (Qv 10) (Qd (Qn 0)),Qa (Qv 11) (Qk Qt (Qn 10)),Qa (Qv 12) (Qd (Qn 1)),Qa (Qv 13) (Qk Qt (Qn 12)),Qa (Qv 14) (Qe Qt Go.BinOp.neq (Qn 11) (Qn 13))]
def f46_c1:MC:=.r0 f46_r1
def f46_r2:List MO:=[Qa (Qv 6) (Qd (Qo (Qp (Qq (Qs false)))))]
def f46_c2:MC:=.r0 f46_r2
def f46_r8:List MO:=[Qa (Qv 15) (Qd (Qn 0)),Qa (Qv 16) (Qk Qt (Qn 15)),Qa (Qv 17) (Qd (Qo (Qp (Qq (Qr Qu 0)))))]
def f46_c8:MC:=.r0 f46_r8
def f46_r9:List MO:=[Qa (Qv 18) (Qe Qt Go.BinOp.lss (Qn 17) (Qn 16))]
def f46_c9:MC:=.r0 f46_r9
def f46_r13:List MO:=[Qa (Qv 19) (Qd (Qn 17)),Qa (Qv 20) (Qj 6 (Qn 15) (Qn 17)),Qa (Qv 21) (Qf 6 true (Qn 20)),Qa (Qv 8) (MOp.alloc [(Qr Qu 0),(Qr Qu 0),(Qr Qu 0),(D.str (ByteArray.mk #[])),(D.sl []),(D.sl [])]),Qa (Qv 7) (Qd (Qn 19)),Qa none (Ql 6 (Qn 8) (Qn 21))]
def f46_c13:MC:=.r0 f46_r13
def f46_r14:List MO:=[Qa (Qv 22) (Qd (Qn 1)),Qa (Qv 23) (Qd (Qn 7)),Qa (Qv 24) (Qj 6 (Qn 22) (Qn 23)),Qa (Qv 25) (Qf 6 true (Qn 24)),Qa (Qv 9) (MOp.alloc [(Qr Qu 0),(Qr Qu 0),(Qr Qu 0),(D.str (ByteArray.mk #[])),(D.sl []),(D.sl [])]),Qa none (Ql 6 (Qn 9) (Qn 25))]
def f46_c14:MC:=.r0 f46_r14
def f46_r15:List MO:=[Qa (Qv 26) (Qd (Qn 2)),Qa (Qv 27) (Qf 6 true (Qn 8)),Qa (Qv 28) (Qf 6 true (Qn 9)),Qa (Qv 29) (MOp.callv (Qn 26) [(Qn 27),(Qn 28)]),Qa (Qv 30) (MOp.not (Qn 29))]
def f46_c15:MC:=.r0 f46_r15
def f46_r16:List MO:=[Qa (Qv 6) (Qd (Qo (Qp (Qq (Qs false)))))]
def f46_c16:MC:=.r0 f46_r16
def f46_c23:MC:=.seq f46_c13 (.seq f46_c14 (.seq f46_c15 (.cond (Qn 30) (.seq f46_c16 .ret) .skip)))
def f46_r25:List MO:=[Qa (Qv 31) (Qe Qt Go.BinOp.add (Qn 17) (Qo (Qp (Qq (Qr Qu 1))))),Qa (Qv 17) (Qd (Qn 31))]
def f46_c25:MC:=.r0 f46_r25
def f46_c31:MC:=.seq f46_c8 (.blk 0 (.loop (.seq f46_c9 (.seq (.cond (Qn 18) .skip (MC.exit 0)) (.seq (.blk 1 f46_c23) f46_c25)))))
def f46_r32:List MO:=[Qa (Qv 6) (Qd (Qo (Qp (Qq (Qs true)))))]
def f46_c32:MC:=.r0 f46_r32
def f46_c36:MC:=.seq (.seq f46_c1 (.cond (Qn 14) (.seq f46_c2 .ret) .skip)) (.seq f46_c31 (.seq f46_c32 .ret))
def f46_c37:MC:=.seq f46_c0 f46_c36
attribute [go_sem] f46_r0 f46_r1 f46_r2 f46_r8 f46_r9 f46_r13 f46_r14 f46_r15 f46_r16 f46_r25 f46_r32
theorem f46_k : KK QP 46 f46 [] f46_c37 [(RV.t 6)] 32 := by refine ⟨func46,?_,?_,?_,?_⟩<;>kernel_rfl
theorem f46_ok : callable QP 46 = true := by kernel_rfl
theorem f46_in (h : GI QP gp [(RV.t 6)] res 32 f46_c37 args) : Does QP gp 46 args res := f46_k.i f46_ok h
def f47_r0:List MO:=[Qa (Qv 1) (MOp.ibox (Qn 0)),Qa (Qv 2) (Qd (Qo (Qp (Qq (Qr Qu 0))))),Qa (Qv 3) (Qd (Qo (Qp (Qq (Qr Qu 0)))))]
def f47_c0:MC:=.r0 f47_r0
def f47_r1:List MO:=[Qa (Qv 4) (Qf 2 true (Qn 1)),Qa (Qv 5) (Qh 72 [(Qn 4)]),Qa (Qv 6) (Qh 71 [(Qn 5)]),Qa (Qv 7) (Qi (Qn 6) 0),Qa (Qv 8) (Qi (Qn 6) 1),Qa (Qv 2) (Qd (Qn 7)),Qa (Qv 3) (Qd (Qn 8))]
def f47_c1:MC:=.r0 f47_r1
def f47_c4:MC:=.seq f47_c0 (.seq f47_c1 .ret)
attribute [go_sem] f47_r0 f47_r1
theorem f47_k : KK QP 47 f47 [1] f47_c4 [(RV.t 2),(RV.t 3)] 9 := by refine ⟨func47,?_,?_,?_,?_⟩<;>kernel_rfl
theorem f47_ok : callable QP 47 = true := by kernel_rfl
theorem f47_in (h : GI QP gp [(RV.t 2),(RV.t 3)] res 9 f47_c4 args) : Does QP gp 47 args res := f47_k.i f47_ok h
def f50_r0:List MO:=[Qa (Qv 2) (MOp.ibox (Qn 0)),Qa (Qv 4) (Qd (Qo (Qp A.nil))),Qa (Qv 5) (Qd (Qo (Qp (Qq (Qr Qu 0)))))]
def f50_c0:MC:=.r0 f50_r0
def f50_r1:List MO:=[Qa (Qv 12) (Qf 2 true (Qn 2)),Qa (Qv 13) (Qd (Qn 1)),Qa (Qv 14) (Qh 74 [(Qn 12),(Qn 13)]),Qa (Qv 11) (Qd (Qn 14)),Qa (Qv 15) (Qi (Qn 11) 0),Qa (Qv 16) (Qi (Qn 11) 1),Qa (Qv 6) (MOp.alloc [(Qr Qu 0),(Qr Qu 0),(Qr Qu 0),(D.str (ByteArray.mk #[])),(D.sl []),(D.sl []),(Qr Qu 0)]),Qa none (Ql 7 (Qn 6) (Qn 15)),Qa (Qv 7) (Qd (Qn 16))]
def f50_c1:MC:=.r0 f50_r1
def f50_r2:List MO:=[Qa (Qv 8) (Qd (Qo (Qp A.nil)))]
def f50_c2:MC:=.r0 f50_r2
def f50_r3:List MO:=[Qa (Qv 17) (Qf 7 true (Qn 6)),Qa (Qv 18) (Qh 75 [(Qn 17)]),Qa (Qv 19) (Qk Qt (Qn 18)),Qa (Qv 20) (Qd (Qo (Qp (Qq (Qr Qu 0)))))]
def f50_c3:MC:=.r0 f50_r3
def f50_r4:List MO:=[Qa (Qv 21) (Qe Qt Go.BinOp.lss (Qn 20) (Qn 19))]
def f50_c4:MC:=.r0 f50_r4
def f50_r8:List MO:=[Qa (Qv 22) (Qj 4 (Qn 18) (Qn 20)),Qa (Qv 23) (Qf 4 true (Qn 22)),Qa (Qv 10) (MOp.alloc [(Qr Qu 0),(Qr Qu 0),(D.str (ByteArray.mk #[])),(Qr Qu 0)]),Qa none (Ql 4 (Qn 10) (Qn 23))]
def f50_c8:MC:=.r0 f50_r8
def f50_r9:List MO:=[Qa (Qv 24) (Qd (Qn 8)),Qa (Qv 25) (Qg 0 (Qn 10)),Qa (Qv 26) (Qf 3 true (Qn 25)),Qa (Qv 27) (MOp.bslice 3 [(Qr Qu 0),(Qr Qu 0),(D.str (ByteArray.mk #[]))] 1 [(0,(Qn 26))]),Qa (Qv 28) (MOp.app 39 3 32 (Qn 24) (Qn 27)),Qa (Qv 8) (Qd (Qn 28))]
def f50_c9:MC:=.r0 f50_r9
def f50_r12:List MO:=[Qa (Qv 29) (Qe Qt Go.BinOp.add (Qn 20) (Qo (Qp (Qq (Qr Qu 1))))),Qa (Qv 20) (Qd (Qn 29))]
def f50_c12:MC:=.r0 f50_r12
def f50_c15:MC:=.seq f50_c4 (.seq (.cond (Qn 21) .skip (MC.exit 0)) (.seq (.blk 1 (.seq f50_c8 f50_c9)) f50_c12))
def f50_r19:List MO:=[Qa (Qv 30) (Qd (Qn 8)),Qa (Qv 31) (Qd (Qn 7)),Qa (Qv 4) (Qd (Qn 30)),Qa (Qv 5) (Qd (Qn 31))]
def f50_c19:MC:=.r0 f50_r19
def f50_c23:MC:=.seq f50_c2 (.seq (.seq f50_c3 (.blk 0 (.loop f50_c15))) (.seq f50_c19 .ret))
def f50_c25:MC:=.seq f50_c0 (.seq f50_c1 f50_c23)
theorem f50_k : KK QP 50 f50 [2] f50_c25 [(RV.t 4),(RV.t 5)] 32 := by refine ⟨func50,?_,?_,?_,?_⟩<;>kernel_rfl
theorem f50_ok : callable QP 50 = true := by kernel_rfl
theorem f50_in (h : GI QP gp [(RV.t 4),(RV.t 5)] res 32 f50_c25 args) : Does QP gp 50 args res := f50_k.i f50_ok h
def f51_r0:List MO:=[Qa (Qv 2) (MOp.ibox (Qn 0)),Qa (Qv 4) (Qd (Qo (Qp A.nil))),Qa (Qv 5) (Qd (Qo (Qp (Qq (Qr Qu 0)))))]
def f51_c0:MC:=.r0 f51_r0
def f51_r1:List MO:=[Qa (Qv 12) (Qf 2 true (Qn 2)),Qa (Qv 13) (Qd (Qn 1)),Qa (Qv 14) (Qh 74 [(Qn 12),(Qn 13)]),Qa (Qv 11) (Qd (Qn 14)),Qa (Qv 15) (Qi (Qn 11) 0),Qa (Qv 16) (Qi (Qn 11) 1),Qa (Qv 6) (MOp.alloc [(Qr Qu 0),(Qr Qu 0),(Qr Qu 0),(D.str (ByteArray.mk #[])),(D.sl []),(D.sl []),(Qr Qu 0)]),Qa none (Ql 7 (Qn 6) (Qn 15)),Qa (Qv 7) (Qd (Qn 16))]
def f51_c1:MC:=.r0 f51_r1
def f51_r2:List MO:=[Qa (Qv 17) (Qd (Qn 7)),Qa (Qv 18) (Qe Qt Go.BinOp.eql (Qn 17) (Qo (Qp (Qq (Qr Qu 0))))),Qa (Qv 19) (Qd (Qn 18)),Qb 19 true (Qv 20),Qa (Qv 20) (Qg 0 (Qn 6)),Qb 19 true (Qv 21),Qa (Qv 21) (Qg 0 (Qn 20)),Qb 19 true (Qv 22),Qa (Qv 22) (Qf 1 false (Qn 21)),Qb 19 true (Qv 23),Qa (Qv 23) (Qe Qt Go.BinOp.eql (Qn 22) (Qo (Qp (Qq (Qr Qu 1))))),Qa (Qv 24) (Qm (Qn 19) (Qn 23) (Qo (Qp (Qq (Qs false)))))]
def f51_c2:MC:=.r0 f51_r2
def f51_r3:List MO:=[Qa (Qv 25) (Qg 0 (Qn 6)),Qa (Qv 26) (Qg 5 (Qn 25)),Qa (Qv 27) (Qf 1 false (Qn 26)),Qa (Qv 28) (Qh 76 [(Qn 27)]),Qa (Qv 29) (Qd (Qn 7)),Qa (Qv 4) (Qd (Qn 28)),Qa (Qv 5) (Qd (Qn 29))]
def f51_c3:MC:=.r0 f51_r3
def f51_r9:List MO:=[Qa (Qv 8) (Qd (Qo (Qp A.nil)))]
def f51_c9:MC:=.r0 f51_r9
def f51_r10:List MO:=[Qa (Qv 30) (Qf 7 true (Qn 6)),Qa (Qv 31) (Qh 75 [(Qn 30)]),Qa (Qv 32) (Qk Qt (Qn 31)),Qa (Qv 33) (Qd (Qo (Qp (Qq (Qr Qu 0)))))]
def f51_c10:MC:=.r0 f51_r10
def f51_r11:List MO:=[Qa (Qv 34) (Qe Qt Go.BinOp.lss (Qn 33) (Qn 32))]
def f51_c11:MC:=.r0 f51_r11
def f51_r15:List MO:=[Qa (Qv 35) (Qj 4 (Qn 31) (Qn 33)),Qa (Qv 36) (Qf 4 true (Qn 35)),Qa (Qv 10) (MOp.alloc [(Qr Qu 0),(Qr Qu 0),(D.str (ByteArray.mk #[])),(Qr Qu 0)]),Qa none (Ql 4 (Qn 10) (Qn 36))]
def f51_c15:MC:=.r0 f51_r15
def f51_r16:List MO:=[Qa (Qv 37) (Qd (Qn 8)),Qa (Qv 38) (Qg 3 (Qn 10)),Qa (Qv 39) (Qf 1 false (Qn 38)),Qa (Qv 40) (MOp.bslice 1 [(Qr Qu 0)] 1 [(0,(Qn 39))]),Qa (Qv 41) (MOp.app 3 1 8 (Qn 37) (Qn 40)),Qa (Qv 8) (Qd (Qn 41))]
def f51_c16:MC:=.r0 f51_r16
def f51_r19:List MO:=[Qa (Qv 42) (Qe Qt Go.BinOp.add (Qn 33) (Qo (Qp (Qq (Qr Qu 1))))),Qa (Qv 33) (Qd (Qn 42))]
def f51_c19:MC:=.r0 f51_r19
def f51_c22:MC:=.seq f51_c11 (.seq (.cond (Qn 34) .skip (MC.exit 0)) (.seq (.blk 1 (.seq f51_c15 f51_c16)) f51_c19))
def f51_r26:List MO:=[Qa (Qv 43) (Qd (Qn 8)),Qa (Qv 44) (Qd (Qn 7)),Qa (Qv 4) (Qd (Qn 43)),Qa (Qv 5) (Qd (Qn 44))]
def f51_c26:MC:=.r0 f51_r26
def f51_c30:MC:=.seq f51_c9 (.seq (.seq f51_c10 (.blk 0 (.loop f51_c22))) (.seq f51_c26 .ret))
def f51_c32:MC:=.seq f51_c1 (.seq (.seq f51_c2 (.cond (Qn 24) (.seq f51_c3 .ret) .skip)) f51_c30)
def f51_c33:MC:=.seq f51_c0 f51_c32
theorem f51_k : KK QP 51 f51 [2] f51_c33 [(RV.t 4),(RV.t 5)] 45 := by refine ⟨func51,?_,?_,?_,?_⟩<;>kernel_rfl
theorem f51_ok : callable QP 51 = true := by kernel_rfl
theorem f51_in (h : GI QP gp [(RV.t 4),(RV.t 5)] res 45 f51_c33 args) : Does QP gp 51 args res := f51_k.i f51_ok h
def f54_r0:List MO:=[Qa (Qv 1) (MOp.ibox (Qn 0)),Qa (Qv 2) (Qd (Qo (Qp (Qq (Qs false)))))]
def f54_c0:MC:=.r0 f54_r0
def f54_r1:List MO:=[Qa (Qv 8) (Qf 2 true (Qn 1)),Qa (Qv 9) (Qh 77 [(Qn 8)]),Qa (Qv 7) (Qd (Qn 9)),Qa (Qv 10) (Qi (Qn 7) 0),Qa (Qv 11) (Qi (Qn 7) 1),Qa (Qv 3) (Qd (Qn 10)),Qa (Qv 4) (Qd (Qn 11))]
def f54_c1:MC:=.r0 f54_r1
def f54_r2:List MO:=[Qa (Qv 12) (Qd (Qn 3)),Qa (Qv 13) (Qk Qt (Qn 12)),Qa (Qv 14) (Qd (Qo (Qp (Qq (Qr Qu 0)))))]
def f54_c2:MC:=.r0 f54_r2
def f54_r3:List MO:=[Qa (Qv 15) (Qe Qt Go.BinOp.lss (Qn 14) (Qn 13))]
def f54_c3:MC:=.r0 f54_r3
def f54_r7:List MO:=[Qa (Qv 16) (Qd (Qn 14)),Qa (Qv 17) (Qj 1 (Qn 12) (Qn 14)),Qa (Qv 18) (Qf 1 false (Qn 17)),Qa (Qv 5) (Qd (Qn 16)),Qa (Qv 6) (Qd (Qn 18))]
def f54_c7:MC:=.r0 f54_r7
def f54_r8:List MO:=[Qa (Qv 19) (Qg 1 (Qn 1)),Qa (Qv 20) (Qf 1 false (Qn 19)),Qa (Qv 21) (Qd (Qn 5)),Qa (Qv 22) (Qj 6 (Qn 20) (Qn 21)),Qa (Qv 23) (Qg 5 (Qn 22)),Qa (Qv 24) (Qf 1 false (Qn 23)),Qa (Qv 25) (Qk Qt (Qn 24)),Qa (Qv 26) (Qe Qt Go.BinOp.gtr (Qn 25) (Qo (Qp (Qq (Qr Qu 0)))))]
def f54_c8:MC:=.r0 f54_r8
def f54_r9:List MO:=[Qa (Qv 27) (Qd (Qn 6)),Qa (Qv 28) (Qe Qt Go.BinOp.add (Qn 27) (Qo (Qp (Qq (Qr Qu 1))))),Qa (Qv 6) (Qd (Qn 28))]
def f54_c9:MC:=.r0 f54_r9
def f54_r13:List MO:=[Qa (Qv 29) (Qd (Qn 6)),Qa (Qv 30) (Qe Qt Go.BinOp.gtr (Qn 29) (Qo (Qp (Qq (Qr Qu 24)))))]
def f54_c13:MC:=.r0 f54_r13
def f54_r14:List MO:=[Qa (Qv 2) (Qd (Qo (Qp (Qq (Qs true)))))]
def f54_c14:MC:=.r0 f54_r14
def f54_c20:MC:=.seq (.seq f54_c8 (.cond (Qn 26) f54_c9 .skip)) (.seq f54_c13 (.cond (Qn 30) (.seq f54_c14 .ret) .skip))
def f54_r23:List MO:=[Qa (Qv 31) (Qe Qt Go.BinOp.add (Qn 14) (Qo (Qp (Qq (Qr Qu 1))))),Qa (Qv 14) (Qd (Qn 31))]
def f54_c23:MC:=.r0 f54_r23
def f54_c26:MC:=.seq f54_c3 (.seq (.cond (Qn 15) .skip (MC.exit 0)) (.seq (.blk 1 (.seq f54_c7 f54_c20)) f54_c23))
def f54_r30:List MO:=[Qa (Qv 2) (Qd (Qo (Qp (Qq (Qs false)))))]
def f54_c30:MC:=.r0 f54_r30
def f54_c34:MC:=.seq f54_c1 (.seq (.seq f54_c2 (.blk 0 (.loop f54_c26))) (.seq f54_c30 .ret))
def f54_c35:MC:=.seq f54_c0 f54_c34
attribute [go_sem] f54_r0 f54_r1 f54_r2 f54_r3 f54_r7 f54_r8 f54_r9 f54_r13 f54_r14 f54_r23 f54_r30
theorem f54_k : KK QP 54 f54 [1] f54_c35 [(RV.t 2)] 32 := by refine ⟨func54,?_,?_,?_,?_⟩<;>kernel_rfl
theorem f54_ok : callable QP 54 = true := by kernel_rfl
theorem f54_in (h : GI QP gp [(RV.t 2)] res 32 f54_c35 args) : Does QP gp 54 args res := f54_k.i f54_ok h
def f56_r0:List MO:=[Qa (Qv 2) (MOp.ibox (Qn 0)),Qa (Qv 4) (Qd (Qo (Qp (Qq (Qr Qu 0)))))]
def f56_c0:MC:=.r0 f56_r0
def f56_r1:List MO:=[Qa (Qv 11) (Qf 2 true (Qn 2)),Qa (Qv 12) (Qh 81 [(Qn 11)]),Qa (Qv 10) (Qd (Qn 12)),Qa (Qv 13) (Qi (Qn 10) 0),Qa (Qv 14) (Qi (Qn 10) 1),Qa (Qv 5) (Qd (Qn 13)),Qa (Qv 6) (Qd (Qn 14))]
def f56_c1:MC:=.r0 f56_r1
def f56_r2:List MO:=[Qa (Qv 7) (Qd (Qo (Qp (Qq (Qr Qu 0)))))]
def f56_c2:MC:=.r0 f56_r2
def f56_r3:List MO:=[Qa (Qv 15) (Qd (Qn 5)),Qa (Qv 16) (Qk Qt (Qn 15)),Qa (Qv 17) (Qd (Qo (Qp (Qq (Qr Qu 0)))))]
def f56_c3:MC:=.r0 f56_r3
def f56_r4:List MO:=[Qa (Qv 18) (Qe Qt Go.BinOp.lss (Qn 17) (Qn 16))]
def f56_c4:MC:=.r0 f56_r4
def f56_r8:List MO:=[Qa (Qv 19) (Qd (Qn 17)),Qa (Qv 20) (Qj 1 (Qn 15) (Qn 17)),Qa (Qv 21) (Qf 1 false (Qn 20)),Qa (Qv 8) (Qd (Qn 19)),Qa (Qv 9) (Qd (Qn 21))]
def f56_c8:MC:=.r0 f56_r8
def f56_r9:List MO:=[Qa (Qv 22) (Qd (Qn 1)),Qa (Qv 23) (Qd (Qn 8)),Qa (Qv 24) (Qj 1 (Qn 22) (Qn 23)),Qa (Qv 25) (Qf 1 false (Qn 24)),Qa (Qv 26) (Qe Qt Go.BinOp.gtr (Qn 25) (Qo (Qp (Qq (Qr Qu 0)))))]
def f56_c9:MC:=.r0 f56_r9
def f56_r10:List MO:=[Qa (Qv 9) (Qd (Qo (Qp (Qq (Qr Qu 1)))))]
def f56_c10:MC:=.r0 f56_r10
def f56_r14:List MO:=[Qa (Qv 27) (Qd (Qn 7)),Qa (Qv 28) (Qd (Qn 9)),Qa (Qv 29) (Qe Qt Go.BinOp.add (Qn 27) (Qn 28)),Qa (Qv 7) (Qd (Qn 29))]
def f56_c14:MC:=.r0 f56_r14
def f56_c16:MC:=.seq f56_c8 (.seq (.seq f56_c9 (.cond (Qn 26) f56_c10 .skip)) f56_c14)
def f56_r18:List MO:=[Qa (Qv 30) (Qe Qt Go.BinOp.add (Qn 17) (Qo (Qp (Qq (Qr Qu 1))))),Qa (Qv 17) (Qd (Qn 30))]
def f56_c18:MC:=.r0 f56_r18
def f56_c24:MC:=.seq f56_c3 (.blk 0 (.loop (.seq f56_c4 (.seq (.cond (Qn 18) .skip (MC.exit 0)) (.seq (.blk 1 f56_c16) f56_c18)))))
def f56_r25:List MO:=[Qa (Qv 31) (Qd (Qn 7)),Qa (Qv 4) (Qd (Qn 31))]
def f56_c25:MC:=.r0 f56_r25
def f56_c30:MC:=.seq f56_c1 (.seq f56_c2 (.seq f56_c24 (.seq f56_c25 .ret)))
def f56_c31:MC:=.seq f56_c0 f56_c30
attribute [go_sem] f56_r0 f56_r1 f56_r2 f56_r3 f56_r4 f56_r8 f56_r9 f56_r10 f56_r14 f56_r18 f56_r25
theorem f56_k : KK QP 56 f56 [2] f56_c31 [(RV.t 4)] 32 := by refine ⟨func56,?_,?_,?_,?_⟩<;>kernel_rfl
theorem f56_ok : callable QP 56 = true := by kernel_rfl
theorem f56_in (h : GI QP gp [(RV.t 4)] res 32 f56_c31 args) : Does QP gp 56 args res := f56_k.i f56_ok h
def f57_r0:List MO:=[Qa (Qv 1) (MOp.box (Qn 0)),Qa (Qv 2) (Qd (Qo (Qp (Qq D.nilF))))]
def f57_c0:MC:=.r0 f57_r0
def f57_r1:List MO:=[Qa (Qv 3) (MOp.mkF (Go.Fn.func 82) [(Qn 1)]),Qa (Qv 2) (Qd (Qn 3))]
def f57_c1:MC:=.r0 f57_r1
def f57_c4:MC:=.seq f57_c0 (.seq f57_c1 .ret)
attribute [go_sem] f57_r0 f57_r1
theorem f57_k : KK QP 57 f57 [] f57_c4 [(RV.t 2)] 4 := by refine ⟨func57,?_,?_,?_,?_⟩<;>kernel_rfl
theorem f57_ok : callable QP 57 = true := by kernel_rfl
theorem f57_tri (h : GT QP gp [(RV.t 2)] pre R 4 f57_c4 args) : Tri QP gp 57 args pre R := f57_k.t h
-- f58: trC none
def f63_r0:List MO:=[Qa (Qv 2) (Qd (Qo (Qp (Qq (Qs false)))))]
def f63_c0:MC:=.r0 f63_r0
def f63_r1:List MO:=[Qa (Qv 7) (Qd (Qn 0)),Qa (Qv 8) (MOp.rng (Qn 7))]
def f63_c1:MC:=.r0 f63_r1
def f63_r2:List MO:=[Qa (Qv 9) (MOp.nxt (Qn 8)),Qa (Qv 10) (Qi (Qn 9) 0)]
def f63_c2:MC:=.r0 f63_r2
def f63_r6:List MO:=[Qa (Qv 11) (Qi (Qn 9) 1),Qa (Qv 12) (Qi (Qn 9) 2),Qa (Qv 3) (Qd (Qn 11)),Qa (Qv 4) (Qd (Qn 12))]
def f63_c6:MC:=.r0 f63_r6
def f63_r7:List MO:=[Qa (Qv 14) (Qd (Qn 0)),Qa (Qv 15) (Qd (Qn 3)),Qa (Qv 16) (MOp.slcS (Qn 14) (Qv (Qn 15)) none),Qa (Qv 17) (Qh 93 [(Qn 16)]),Qa (Qv 13) (Qd (Qn 17)),Qa (Qv 18) (Qi (Qn 13) 0),Qa (Qv 19) (Qi (Qn 13) 1),Qa (Qv 5) (Qd (Qn 18)),Qa (Qv 6) (Qd (Qn 19))]
def f63_c7:MC:=.r0 f63_r7
def f63_r8:List MO:=[Qa (Qv 20) (Qd (Qn 4)),Qa (Qv 21) (Qe Qt Go.BinOp.eql (Qn 20) (Qo (Qp (Qq (Qr Go.IntKind.i32 65533))))),Qa (Qv 22) (Qd (Qn 21)),Qb 22 true (Qv 23),Qa (Qv 23) (Qd (Qn 6)),Qb 22 true (Qv 24),Qa (Qv 24) (Qe Qt Go.BinOp.eql (Qn 23) (Qo (Qp (Qq (Qr Qu 1))))),Qa (Qv 25) (Qm (Qn 22) (Qn 24) (Qo (Qp (Qq (Qs false)))))]
def f63_c8:MC:=.r0 f63_r8
def f63_r9:List MO:=[Qa (Qv 2) (Qd (Qo (Qp (Qq (Qs false)))))]
def f63_c9:MC:=.r0 f63_r9
def f63_c16:MC:=.seq f63_c6 (.seq f63_c7 (.seq f63_c8 (.cond (Qn 25) (.seq f63_c9 .ret) .skip)))
def f63_r23:List MO:=[Qa (Qv 2) (Qd (Qo (Qp (Qq (Qs true)))))]
def f63_c23:MC:=.r0 f63_r23
def f63_c26:MC:=.seq (.seq f63_c1 (.blk 0 (.loop (.seq f63_c2 (.seq (.cond (Qn 10) .skip (MC.exit 0)) (.blk 1 f63_c16)))))) (.seq f63_c23 .ret)
def f63_c27:MC:=.seq f63_c0 f63_c26
attribute [go_sem] f63_r0 f63_r1 f63_r2 f63_r6 f63_r7 f63_r8 f63_r9 f63_r23
theorem f63_k : KK QP 63 f63 [] f63_c27 [(RV.t 2)] 26 := by refine ⟨func63,?_,?_,?_,?_⟩<;>kernel_rfl
theorem f63_ok : callable QP 63 = true := by kernel_rfl
theorem f63_in (h : GI QP gp [(RV.t 2)] res 26 f63_c27 args) : Does QP gp 63 args res := f63_k.i f63_ok h
def f71_r0:List MO:=[Qa (Qv 2) (Qd (Qo (Qp (Qq (Qr Qu 0))))),Qa (Qv 3) (Qd (Qo (Qp (Qq (Qr Qu 0)))))]
def f71_c0:MC:=.r0 f71_r0
def f71_r1:List MO:=[Qa (Qv 4) (MOp.alloc [(Qr Qu 0),(Qr Qu 0)])]
def f71_c1:MC:=.r0 f71_r1
def f71_r2:List MO:=[Qa (Qv 5) (Qd (Qn 0)),Qa (Qv 6) (MOp.mkI 176 (Qn 4)),Qa (Qv 7) (Qh 68 [(Qn 5),(Qn 6)])]
def f71_c2:MC:=.r0 f71_r2
def f71_r3:List MO:=[Qa (Qv 8) (Qg 0 (Qn 4)),Qa (Qv 9) (Qf 1 false (Qn 8)),Qa (Qv 10) (Qg 1 (Qn 4)),Qa (Qv 11) (Qf 1 false (Qn 10)),Qa (Qv 2) (Qd (Qn 9)),Qa (Qv 3) (Qd (Qn 11))]
def f71_c3:MC:=.reg true f71_r3
def f71_r9:List MO:=[Qa (Qv 2) (Qd (Qo (Qp (Qq (Qr Qu 0))))),Qa (Qv 3) (Qd (Qo (Qp (Qq (Qr Qu 0)))))]
def f71_c9:MC:=.r0 f71_r9
def f71_c13:MC:=.seq f71_c1 (.seq (.seq f71_c2 (.cond (Qn 7) (.seq f71_c3 .ret) .skip)) (.seq f71_c9 .ret))
def f71_c14:MC:=.seq f71_c0 f71_c13
attribute [go_sem] f71_r0 f71_r1 f71_r2 f71_r3 f71_r9
theorem f71_k : KK QP 71 f71 [] f71_c14 [(RV.t 2),(RV.t 3)] 12 := by refine ⟨func71,?_,?_,?_,?_⟩<;>kernel_rfl
theorem f71_ok : callable QP 71 = true := by kernel_rfl
theorem f71_in (h : GI QP gp [(RV.t 2),(RV.t 3)] res 12 f71_c14 args) : Does QP gp 71 args res := f71_k.i f71_ok h
def f72_r0:List MO:=[Qa (Qv 1) (MOp.ibox (Qn 0)),Qa (Qv 2) (MOp.alloc [D.nilI])]
def f72_c0:MC:=.r0 f72_r0
def f72_r1:List MO:=[Qa (Qv 6) (Qg 1 (Qn 1)),Qa (Qv 7) (Qf 1 false (Qn 6)),Qa (Qv 8) (Qk Qt (Qn 7)),Qa (Qv 9) (Qe Qt Go.BinOp.gtr (Qn 8) (Qo (Qp (Qq (Qr Qu 200))))),Qa (Qv 5) (Qd (Qn 9))]
def f72_c1:MC:=.r0 f72_r1
def f72_r2:List MO:=[Qa (Qv 10) (MOp.build [(Qr Qu 0),(Qr Qu 0)] [(0,(1,(Qo (Qp (Qq (Qr Qu 0)))))),(1,(1,(Qo (Qp (Qq (Qr Qu 71))))))]),Qa (Qv 11) (MOp.mkI 175 (Qn 10)),Qa none (Ql 1 (Qn 2) (Qn 11))]
def f72_c2:MC:=.r0 f72_r2
def f72_r5:List MO:=[Qa (Qv 13) (Qf 2 true (Qn 1)),Qa (Qv 14) (Qg 0 (Qn 1)),Qa (Qv 15) (Qf 1 false (Qn 14)),Qa (Qv 16) (Qh 108 [(Qn 13),(Qn 15)]),Qa (Qv 17) (MOp.not (Qn 16)),Qa (Qv 12) (Qd (Qn 17))]
def f72_c5:MC:=.r0 f72_r5
def f72_r6:List MO:=[Qa (Qv 18) (MOp.build [(Qr Qu 0),(Qr Qu 0)] [(0,(1,(Qo (Qp (Qq (Qr Qu (-1))))))),(1,(1,(Qo (Qp (Qq (Qr Qu 70))))))]),Qa (Qv 19) (MOp.mkI 175 (Qn 18)),Qa none (Ql 1 (Qn 2) (Qn 19))]
def f72_c6:MC:=.r0 f72_r6
def f72_c13:MC:=.seq f72_c1 (.cond (Qn 5) (.seq f72_c2 .ret) (.seq f72_c5 (.cond (Qn 12) (.seq f72_c6 .ret) .skip)))
def f72_r15:List MO:=[Qa (Qv 20) (Qf 2 true (Qn 1)),Qa (Qv 21) (Qh 109 [(Qn 20)])]
def f72_c15:MC:=.r0 f72_r15
def f72_r16:List MO:=[Qa (Qv 3) (Qd (Qn 22))]
def f72_c16:MC:=.r0 f72_r16
def f72_r17:List MO:=[Qa (Qv 4) (MOp.alloc [(Qr Qu 0),(Qr Qu 0),(Qr Qu 0),(D.str (ByteArray.mk #[])),(D.sl []),(D.sl []),(Qr Qu 0)]),Qa none (Ql 7 (Qn 4) (Qn 23))]
def f72_c17:MC:=.r0 f72_r17
def f72_r19:List MO:=[Qa (Qv 24) (Qf 7 true (Qn 4)),Qa (Qv 25) (Qh 110 [(Qn 24)]),Qa (Qv 26) (MOp.not (Qn 25))]
def f72_c19:MC:=.r0 f72_r19
def f72_r20:List MO:=[Qa (Qv 27) (Qd (Qn 3)),Qa (Qv 28) (MOp.build [(Qr Qu 0),(Qr Qu 0)] [(0,(1,(Qn 27))),(1,(1,(Qo (Qp (Qq (Qr Qu 70))))))]),Qa (Qv 29) (MOp.mkI 175 (Qn 28)),Qa none (Ql 1 (Qn 2) (Qn 29))]
def f72_c20:MC:=.r0 f72_r20
def f72_c27:MC:=.rf (Qn 21) [22,23] (.seq f72_c16 f72_c17) (.blk 2 (.seq f72_c19 (.cond (Qn 26) (.seq f72_c20 .ret) .skip)))
def f72_r30:List MO:=[Qa none (Ql 1 (Qn 2) (Qo (Qp (Qq D.nilI))))]
def f72_c30:MC:=.r0 f72_r30
def f72_c34:MC:=.seq (.blk 0 f72_c13) (.seq (.seq f72_c15 (.blk 1 f72_c27)) (.seq f72_c30 .ret))
def f72_c35:MC:=.seq f72_c0 f72_c34
attribute [go_sem] f72_r0 f72_r1 f72_r2 f72_r5 f72_r6 f72_r15 f72_r16 f72_r17 f72_r19 f72_r20 f72_r30
theorem f72_k : KK QP 72 f72 [1] f72_c35 [(RV.cell 2 1 false)] 30 := by refine ⟨func72,?_,?_,?_,?_⟩<;>kernel_rfl
theorem f72_ok : callable QP 72 = true := by kernel_rfl
theorem f72_in (h : GI QP gp [(RV.cell 2 1 false)] res 30 f72_c35 args) : Does QP gp 72 args res := f72_k.i f72_ok h
def f74_r0:List MO:=[Qa (Qv 2) (MOp.ibox (Qn 0)),Qa (Qv 4) (MOp.alloc [(Qr Qu 0),(Qr Qu 0),(Qr Qu 0),(D.str (ByteArray.mk #[])),(D.sl []),(D.sl []),(Qr Qu 0)]),Qa (Qv 5) (Qd (Qo (Qp (Qq (Qr Qu 0)))))]
def f74_c0:MC:=.r0 f74_r0
def f74_r1:List MO:=[Qa (Qv 6) (Qf 2 true (Qn 2)),Qa (Qv 7) (Qd (Qn 1)),Qa (Qv 8) (Qh 108 [(Qn 6),(Qn 7)]),Qa (Qv 9) (MOp.not (Qn 8))]
def f74_c1:MC:=.r0 f74_r1
def f74_r2:List MO:=[Qa (Qv 10) (MOp.build [(Qr Qu 0),(Qr Qu 0),(Qr Qu 0),(D.str (ByteArray.mk #[])),(D.sl []),(D.sl []),(Qr Qu 0)] []),Qa none (Ql 7 (Qn 4) (Qn 10)),Qa (Qv 5) (Qd (Qo (Qp (Qq (Qr Qu 2)))))]
def f74_c2:MC:=.r0 f74_r2
def f74_r8:List MO:=[Qa (Qv 11) (Qg 1 (Qn 2)),Qa (Qv 12) (Qf 1 false (Qn 11)),Qa (Qv 13) (Qd (Qn 1)),Qa (Qv 14) (Qj 6 (Qn 12) (Qn 13)),Qa (Qv 15) (Qf 6 true (Qn 14)),Qa (Qv 16) (Qg 1 (Qn 2)),Qa (Qv 17) (Qf 1 false (Qn 16)),Qa (Qv 18) (Qk Qt (Qn 17)),Qa (Qv 19) (MOp.build [(Qr Qu 0),(Qr Qu 0),(Qr Qu 0),(D.str (ByteArray.mk #[])),(D.sl []),(D.sl []),(Qr Qu 0)] [(0,(6,(Qn 15))),(6,(1,(Qn 18)))]),Qa none (Ql 7 (Qn 4) (Qn 19)),Qa (Qv 5) (Qd (Qo (Qp (Qq (Qr Qu 0)))))]
def f74_c8:MC:=.reg true f74_r8
def f74_c12:MC:=.seq f74_c0 (.seq (.seq f74_c1 (.cond (Qn 9) (.seq f74_c2 .ret) .skip)) (.seq f74_c8 .ret))
attribute [go_sem] f74_r0 f74_r1 f74_r2 f74_r8
theorem f74_k : KK QP 74 f74 [2] f74_c12 [(RV.cell 4 7 true),(RV.t 5)] 20 := by refine ⟨func74,?_,?_,?_,?_⟩<;>kernel_rfl
theorem f74_ok : callable QP 74 = true := by kernel_rfl
theorem f74_in (h : GI QP gp [(RV.cell 4 7 true),(RV.t 5)] res 20 f74_c12 args) : Does QP gp 74 args res := f74_k.i f74_ok h
def f75_r0:List MO:=[Qa (Qv 1) (MOp.ibox (Qn 0)),Qa (Qv 2) (Qd (Qo (Qp A.nil)))]
def f75_c0:MC:=.r0 f75_r0
def f75_r1:List MO:=[Qa (Qv 6) (Qg 0 (Qn 1)),Qa (Qv 7) (Qg 0 (Qn 6)),Qa (Qv 8) (Qf 1 false (Qn 7)),Qa (Qv 9) (Qe Qt Go.BinOp.neq (Qn 8) (Qo (Qp (Qq (Qr Qu 2))))),Qa (Qv 10) (Qd (Qn 9)),Qb 10 false (Qv 11),Qa (Qv 11) (Qf 7 true (Qn 1)),Qb 10 false (Qv 12),Qa (Qv 12) (Qh 113 [(Qn 11)]),Qb 10 false (Qv 13),Qa (Qv 13) (MOp.not (Qn 12)),Qa (Qv 14) (Qm (Qn 10) (Qo (Qp (Qq (Qs true)))) (Qn 13))]
def f75_c1:MC:=.r0 f75_r1
def f75_r2:List MO:=[Qa (Qv 2) (Qd (Qo (Qp A.nil)))]
def f75_c2:MC:=.r0 f75_r2
def f75_r8:List MO:=[Qa (Qv 3) (Qd (Qo (Qp A.nil)))]
def f75_c8:MC:=.r0 f75_r8
def f75_r9:List MO:=[Qa (Qv 15) (Qg 0 (Qn 1)),Qa (Qv 16) (Qg 4 (Qn 15)),Qa (Qv 17) (Qf 1 false (Qn 16)),Qa (Qv 18) (Qk Qt (Qn 17)),Qa (Qv 19) (Qd (Qo (Qp (Qq (Qr Qu 0)))))]
def f75_c9:MC:=.r0 f75_r9
def f75_r10:List MO:=[Qa (Qv 20) (Qe Qt Go.BinOp.lss (Qn 19) (Qn 18))]
def f75_c10:MC:=.r0 f75_r10
def f75_r14:List MO:=[Qa (Qv 21) (Qd (Qn 19)),Qa (Qv 22) (Qj 3 (Qn 17) (Qn 19)),Qa (Qv 23) (Qf 3 true (Qn 22)),Qa (Qv 5) (MOp.alloc [(Qr Qu 0),(Qr Qu 0),(D.str (ByteArray.mk #[]))]),Qa (Qv 4) (Qd (Qn 21)),Qa none (Ql 3 (Qn 5) (Qn 23))]
def f75_c14:MC:=.r0 f75_r14
def f75_r15:List MO:=[Qa (Qv 24) (Qd (Qn 3)),Qa (Qv 25) (Qf 3 true (Qn 5)),Qa (Qv 26) (Qg 0 (Qn 1)),Qa (Qv 27) (Qg 5 (Qn 26)),Qa (Qv 28) (Qf 1 false (Qn 27)),Qa (Qv 29) (Qd (Qn 4)),Qa (Qv 30) (Qj 1 (Qn 28) (Qn 29)),Qa (Qv 31) (Qf 1 false (Qn 30)),Qa (Qv 32) (MOp.build [(Qr Qu 0),(Qr Qu 0),(D.str (ByteArray.mk #[])),(Qr Qu 0)] [(0,(3,(Qn 25))),(3,(1,(Qn 31)))]),Qa (Qv 33) (MOp.bslice 4 [(Qr Qu 0),(Qr Qu 0),(D.str (ByteArray.mk #[])),(Qr Qu 0)] 1 [(0,(Qn 32))]),Qa (Qv 34) (MOp.app 131 4 40 (Qn 24) (Qn 33)),Qa (Qv 3) (Qd (Qn 34))]
def f75_c15:MC:=.reg true f75_r15
def f75_r18:List MO:=[Qa (Qv 35) (Qe Qt Go.BinOp.add (Qn 19) (Qo (Qp (Qq (Qr Qu 1))))),Qa (Qv 19) (Qd (Qn 35))]
def f75_c18:MC:=.r0 f75_r18
def f75_c21:MC:=.seq f75_c10 (.seq (.cond (Qn 20) .skip (MC.exit 0)) (.seq (.blk 1 (.seq f75_c14 f75_c15)) f75_c18))
def f75_r25:List MO:=[Qa (Qv 36) (Qd (Qn 3)),Qa (Qv 37) (Qh 114 [(Qn 36),(Qo (Qp (Qq (D.fn (Go.Fn.func 115) []))))])]
def f75_c25:MC:=.r0 f75_r25
def f75_r26:List MO:=[Qa (Qv 38) (Qd (Qn 3)),Qa (Qv 2) (Qd (Qn 38))]
def f75_c26:MC:=.r0 f75_r26
def f75_c30:MC:=.seq (.seq f75_c9 (.blk 0 (.loop f75_c21))) (.seq f75_c25 (.seq f75_c26 .ret))
def f75_c32:MC:=.seq (.seq f75_c1 (.cond (Qn 14) (.seq f75_c2 .ret) .skip)) (.seq f75_c8 f75_c30)
def f75_c33:MC:=.seq f75_c0 f75_c32
attribute [go_sem] f75_r0 f75_r1 f75_r2 f75_r8 f75_r9 f75_r10 f75_r14 f75_r15 f75_r18 f75_r25 f75_r26
theorem f75_k : KK QP 75 f75 [1] f75_c33 [(RV.t 2)] 39 := by refine ⟨func75,?_,?_,?_,?_⟩<;>kernel_rfl
theorem f75_ok : callable QP 75 = true := by kernel_rfl
theorem f75_in (h : GI QP gp [(RV.t 2)] res 39 f75_c33 args) : Does QP gp 75 args res := f75_k.i f75_ok h
def f76_r0:List MO:=[Qa (Qv 2) (Qd (Qo (Qp A.nil)))]
def f76_c0:MC:=.r0 f76_r0
def f76_r1:List MO:=[Qa (Qv 3) (Qd (Qn 0)),Qa (Qv 4) (MOp.nilq NK.sl false (Qn 3))]
def f76_c1:MC:=.r0 f76_r1
def f76_r2:List MO:=[Qa (Qv 2) (Qd (Qo (Qp A.nil)))]
def f76_c2:MC:=.r0 f76_r2
def f76_r8:List MO:=[Qa (Qv 5) (MOp.bslO 1 [(Qr Qu 0)] 0 []),Qa (Qv 6) (Qd (Qn 0)),Qa (Qv 7) (MOp.app 3 1 8 (Qn 5) (Qn 6)),Qa (Qv 2) (Qd (Qn 7))]
def f76_c8:MC:=.r0 f76_r8
def f76_c12:MC:=.seq f76_c0 (.seq (.seq f76_c1 (.cond (Qn 4) (.seq f76_c2 .ret) .skip)) (.seq f76_c8 .ret))
theorem f76_k : KK QP 76 f76 [5] f76_c12 [(RV.t 2)] 8 := by refine ⟨func76,?_,?_,?_,?_⟩<;>kernel_rfl
theorem f76_ok : callable QP 76 = true := by kernel_rfl
theorem f76_in (h : GI QP gp [(RV.t 2)] res 8 f76_c12 args) : Does QP gp 76 args res := f76_k.i f76_ok h
def f82_r0:List MO:=[Qa (Qv 7) (Qf 1 false (Qn 1)),Qa (Qv 8) (Qh 83 [(Qn 7),(Qo (Qp (Qq (Qr Qu 0))))]),Qa (Qv 3) (Qd (Qn 8))]
def f82_c0:MC:=.r0 f82_r0
def f82_r1:List MO:=[Qa (Qv 10) (Qd (Qn 3)),Qa (Qv 11) (MOp.tas 141 true (Qp (Qq (D.str (ByteArray.mk #[])))) (Qn 10)),Qa (Qv 9) (Qd (Qn 11)),Qa (Qv 12) (Qi (Qn 9) 0),Qa (Qv 13) (Qi (Qn 9) 1),Qa (Qv 4) (Qd (Qn 12)),Qa (Qv 5) (Qd (Qn 13))]
def f82_c1:MC:=.r0 f82_r1
def f82_r2:List MO:=[Qa (Qv 14) (Qd (Qn 5))]
def f82_c2:MC:=.r0 f82_r2
def f82_r3:List MO:=[Qa (Qv 15) (Qd (Qn 0)),Qa (Qv 16) (Qd (Qn 4)),Qa (Qv 17) (MOp.bslice 1 [(D.str (ByteArray.mk #[]))] 1 [(0,(Qn 16))]),Qa (Qv 18) (Qh 84 [(Qo (Qp (Qq (Qr Qu 0)))),(Qo (Qp (Qq (Qr Qu (-1))))),(Qn 17)]),Qa (Qv 19) (MOp.callv (Qn 15) [(Qn 18)])]
def f82_c3:MC:=.r0 f82_r3
def f82_r10:List MO:=[Qa (Qv 20) (Qd (Qn 3)),Qa (Qv 21) (MOp.tas 145 false (V.agg [(Qq (Qr Qu 0)),(Qq (D.str (ByteArray.mk #[])))]) (Qn 20)),Qa (Qv 6) (MOp.alloc [(Qr Qu 0),(D.str (ByteArray.mk #[]))]),Qa none (Ql 2 (Qn 6) (Qn 21))]
def f82_c10:MC:=.r0 f82_r10
def f82_r11:List MO:=[Qa (Qv 22) (Qg 1 (Qn 6)),Qa (Qv 23) (Qf 1 false (Qn 22)),Qa (Qv 24) (Qe Leaf.s Go.BinOp.neq (Qn 23) (Qo (Qp (Qq (D.str (ByteArray.mk #[])))))),Qa (Qv 25) (Qd (Qn 24)),Qb 25 true (Qv 26),Qa (Qv 26) (Qd (Qn 0)),Qb 25 true (Qv 27),Qa (Qv 27) (Qg 1 (Qn 6)),Qb 25 true (Qv 28),Qa (Qv 28) (Qf 1 false (Qn 27)),Qb 25 true (Qv 29),Qa (Qv 29) (Qe Leaf.s Go.BinOp.add (Qo (Qp (Qq (D.str (ByteArray.mk #[38]))))) (Qn 28)),Qb 25 true (Qv 30),Qa (Qv 30) (MOp.bslice 1 [(D.str (ByteArray.mk #[]))] 1 [(0,(Qn 29))]),Qb 25 true (Qv 31),Qa (Qv 31) (Qh 84 [(Qo (Qp (Qq (Qr Qu 0)))),(Qo (Qp (Qq (Qr Qu 0)))),(Qn 30)]),Qb 25 true (Qv 32),Qa (Qv 32) (MOp.callv (Qn 26) [(Qn 31)]),Qb 25 true (Qv 33),Qa (Qv 33) (MOp.not (Qn 32)),Qa (Qv 34) (Qm (Qn 25) (Qn 33) (Qo (Qp (Qq (Qs false)))))]
def f82_c11:MC:=.r0 f82_r11
def f82_r16:List MO:=[Qa (Qv 35) (Qf 1 false (Qn 1)),Qa (Qv 36) (Qd (Qn 0)),Qa (Qv 37) (Qh 85 [(Qn 35),(Qn 36),(Qo (Qp (Qq (Qr Qu 0)))),(Qo (Qp (Qq (Qr Qu 0))))])]
def f82_c16:MC:=.r0 f82_r16
def f82_c19:MC:=.seq (.seq f82_c1 (.seq f82_c2 (.cond (Qn 14) (.seq f82_c3 .ret) .skip))) (.seq f82_c10 (.seq (.seq f82_c11 (.cond (Qn 34) .ret .skip)) f82_c16))
def f82_c20:MC:=.seq f82_c0 f82_c19
attribute [go_sem] f82_r0 f82_r1 f82_r2 f82_r3 f82_r10 f82_r11 f82_r16
theorem f82_k : KK QP 82 f82 [] f82_c20 [] 38 := by refine ⟨func82,?_,?_,?_,?_⟩<;>kernel_rfl
theorem f82_ok : callable QP 82 = true := by kernel_rfl
theorem f82_tri (h : GT QP gp [] pre R 38 f82_c20 args) : Tri QP gp 82 args pre R := f82_k.t h
def f83_r0:List MO:=[Qa (Qv 4) (Qd (Qo (Qp (Qq D.nilI))))]
def f83_c0:MC:=.r0 f83_r0
def f83_r1:List MO:=[Qa (Qv 8) (Qd (Qn 0)),Qa (Qv 9) (MOp.nck (Qn 8)),Qa (Qv 10) (Qg 0 (Qn 9)),Qa (Qv 11) (Qg 1 (Qn 10)),Qa (Qv 12) (Qf 1 false (Qn 11)),Qa (Qv 13) (Qd (Qn 1)),Qa (Qv 14) (Qj 6 (Qn 12) (Qn 13)),Qa (Qv 15) (Qg 5 (Qn 14)),Qa (Qv 16) (Qf 1 false (Qn 15)),Qa (Qv 17) (Qk Qt (Qn 16)),Qa (Qv 18) (Qe Qt Go.BinOp.eql (Qn 17) (Qo (Qp (Qq (Qr Qu 0)))))]
def f83_c1:MC:=.r0 f83_r1
def f83_r2:List MO:=[Qa (Qv 19) MOp.mkM,Qa (Qv 20) (Qd (Qn 0)),Qa (Qv 21) (MOp.mkMv (Go.Fn.func 120) (Qn 20)),Qa none (MOp.mupd false [Qt] (Qn 19) (Qo (Qp (Qq (Qr Qu 0)))) (Qn 21)),Qa (Qv 22) (Qd (Qn 0)),Qa (Qv 23) (MOp.mkMv (Go.Fn.func 121) (Qn 22)),Qa none (MOp.mupd false [Qt] (Qn 19) (Qo (Qp (Qq (Qr Qu 1)))) (Qn 23)),Qa (Qv 24) (Qd (Qn 0)),Qa (Qv 25) (MOp.mkMv (Go.Fn.func 122) (Qn 24)),Qa none (MOp.mupd false [Qt] (Qn 19) (Qo (Qp (Qq (Qr Qu 2)))) (Qn 25)),Qa (Qv 26) (Qd (Qn 19)),Qa (Qv 5) (Qd (Qn 26))]
def f83_c2:MC:=.r0 f83_r2
def f83_r3:List MO:=[Qa (Qv 27) (Qd (Qn 5)),Qa (Qv 28) (Qd (Qn 0)),Qa (Qv 29) (MOp.nck (Qn 28)),Qa (Qv 30) (Qg 0 (Qn 29)),Qa (Qv 31) (Qg 1 (Qn 30)),Qa (Qv 32) (Qf 1 false (Qn 31)),Qa (Qv 33) (Qd (Qn 1)),Qa (Qv 34) (Qj 6 (Qn 32) (Qn 33)),Qa (Qv 35) (Qg 0 (Qn 34)),Qa (Qv 36) (Qf 1 false (Qn 35)),Qa (Qv 37) (MOp.lkp false (Qp (Qq D.nilF)) false [Qt] (Qn 27) (Qn 36)),Qa (Qv 38) (Qd (Qn 1)),Qa (Qv 39) (MOp.callv (Qn 37) [(Qn 38)]),Qa (Qv 40) (MOp.mkI 141 (Qn 39)),Qa (Qv 4) (Qd (Qn 40))]
def f83_c3:MC:=.r0 f83_r3
def f83_r10:List MO:=[Qa (Qv 6) (Qd (Qo (Qp (Qq (D.str (ByteArray.mk #[]))))))]
def f83_c10:MC:=.r0 f83_r10
def f83_r11:List MO:=[Qa (Qv 41) (Qd (Qn 0)),Qa (Qv 42) (MOp.nck (Qn 41)),Qa (Qv 43) (Qg 2 (Qn 42)),Qa (Qv 44) (Qf 1 false (Qn 43)),Qa (Qv 45) (Qd (Qn 1)),Qa (Qv 46) (Qj 1 (Qn 44) (Qn 45)),Qa (Qv 47) (Qf 1 false (Qn 46)),Qa (Qv 7) (Qd (Qn 47))]
def f83_c11:MC:=.r0 f83_r11
def f83_r12:List MO:=[Qa (Qv 48) (Qd (Qn 7)),Qa (Qv 49) (Qe Qt Go.BinOp.gtr (Qn 48) (Qo (Qp (Qq (Qr Qu 0)))))]
def f83_c12:MC:=.r0 f83_r12
def f83_r13:List MO:=[Qa (Qv 50) (Qd (Qn 7)),Qa (Qv 51) (Qh 65 [(Qn 50)]),Qa (Qv 52) (Qe Leaf.s Go.BinOp.add (Qo (Qp (Qq (D.str (ByteArray.mk #[97]))))) (Qn 51)),Qa (Qv 6) (Qd (Qn 52))]
def f83_c13:MC:=.r0 f83_r13
def f83_r18:List MO:=[Qa (Qv 53) (Qd (Qn 0)),Qa (Qv 54) (MOp.nck (Qn 53)),Qa (Qv 55) (Qg 3 (Qn 54)),Qa (Qv 56) (Qf 1 false (Qn 55)),Qa (Qv 57) (Qd (Qn 1)),Qa (Qv 58) (MOp.lkp false (Qp (Qq (Qs false))) false [Qt] (Qn 56) (Qn 57))]
def f83_c18:MC:=.r0 f83_r18
def f83_r19:List MO:=[Qa (Qv 59) (Qd (Qn 6)),Qa (Qv 60) (Qe Leaf.s Go.BinOp.add (Qo (Qp (Qq (D.str (ByteArray.mk #[42]))))) (Qn 59)),Qa (Qv 61) (MOp.mkI 141 (Qn 60)),Qa (Qv 4) (Qd (Qn 61))]
def f83_c19:MC:=.r0 f83_r19
def f83_r25:List MO:=[Qa (Qv 62) (Qd (Qn 0)),Qa (Qv 63) (MOp.nck (Qn 62)),Qa (Qv 64) (Qg 3 (Qn 63)),Qa (Qv 65) (Qf 1 false (Qn 64)),Qa (Qv 66) (Qd (Qn 1)),Qa none (MOp.mupd false [Qt] (Qn 65) (Qn 66) (Qo (Qp (Qq (Qs true)))))]
def f83_c25:MC:=.r0 f83_r25
def f83_r26:List MO:=[Qa (Qv 67) (Qd (Qn 1)),Qa (Qv 68) (Qd (Qn 6)),Qa (Qv 69) (MOp.build [(Qr Qu 0),(D.str (ByteArray.mk #[]))] [(0,(1,(Qn 67))),(1,(1,(Qn 68)))]),Qa (Qv 70) (MOp.mkI 145 (Qn 69)),Qa (Qv 4) (Qd (Qn 70))]
def f83_c26:MC:=.r0 f83_r26
def f83_c30:MC:=.seq (.seq f83_c18 (.cond (Qn 58) (.seq f83_c19 .ret) .skip)) (.seq f83_c25 (.seq f83_c26 .ret))
def f83_c31:MC:=.seq (.seq f83_c11 (.seq f83_c12 (.cond (Qn 49) f83_c13 .skip))) f83_c30
def f83_c33:MC:=.seq (.seq f83_c1 (.cond (Qn 18) (.seq f83_c2 (.seq f83_c3 .ret)) .skip)) (.seq f83_c10 f83_c31)
def f83_c34:MC:=.seq f83_c0 f83_c33
attribute [go_sem] f83_r0 f83_r1 f83_r2 f83_r3 f83_r10 f83_r11 f83_r12 f83_r13 f83_r18 f83_r19 f83_r25 f83_r26
theorem f83_k : KK QP 83 f83 [] f83_c34 [(RV.t 4)] 71 := by refine ⟨func83,?_,?_,?_,?_⟩<;>kernel_rfl
theorem f83_ok : callable QP 83 = true := by kernel_rfl
theorem f83_tri (h : GT QP gp [(RV.t 4)] pre R 71 f83_c34 args) : Tri QP gp 83 args pre R := f83_k.t h
def f84_r0:List MO:=[Qa (Qv 6) (MOp.alloc [(D.str (ByteArray.mk #[])),(Qr Qu 0),(Qr Qu 0)])]
def f84_c0:MC:=.r0 f84_r0
def f84_r1:List MO:=[Qa (Qv 7) (Qd (Qn 0)),Qa (Qv 8) (Qh 123 [(Qn 7)]),Qa (Qv 9) (Qd (Qn 2)),Qa (Qv 10) (Qh 124 [(Qn 9),(Qo (Qp (Qq (D.str (ByteArray.mk #[])))))]),Qa (Qv 11) (Qe Leaf.s Go.BinOp.add (Qn 8) (Qn 10)),Qa (Qv 12) (Qd (Qn 0)),Qa (Qv 13) (Qd (Qn 1)),Qa (Qv 14) (MOp.build [(D.str (ByteArray.mk #[])),(Qr Qu 0),(Qr Qu 0)] [(0,(1,(Qn 11))),(1,(1,(Qn 12))),(2,(1,(Qn 13)))]),Qa none (Ql 3 (Qn 6) (Qn 14))]
def f84_c1:MC:=.r0 f84_r1
def f84_c4:MC:=.seq f84_c0 (.seq f84_c1 .ret)
attribute [go_sem] f84_r0 f84_r1
theorem f84_k : KK QP 84 f84 [] f84_c4 [(RV.cell 6 3 true)] 15 := by refine ⟨func84,?_,?_,?_,?_⟩<;>kernel_rfl
theorem f84_ok : callable QP 84 = true := by kernel_rfl
theorem f84_in (h : GI QP gp [(RV.cell 6 3 true)] res 15 f84_c4 args) : Does QP gp 84 args res := f84_k.i f84_ok h
def f85_r0:List MO:=[Qa (Qv 8) (Qd (Qo (Qp (Qq (Qs false)))))]
def f85_c0:MC:=.r0 f85_r0
def f85_r1:List MO:=[Qa (Qv 18) (Qd (Qn 0)),Qa (Qv 19) (Qd (Qn 2)),Qa (Qv 20) (Qh 125 [(Qn 18),(Qn 19)]),Qa (Qv 9) (Qd (Qn 20))]
def f85_c1:MC:=.r0 f85_r1
def f85_r2:List MO:=[Qa (Qv 22) (Qd (Qn 0)),Qa (Qv 23) (MOp.nck (Qn 22)),Qa (Qv 24) (Qg 0 (Qn 23)),Qa (Qv 25) (Qf 2 true (Qn 24)),Qa (Qv 26) (Qd (Qn 2)),Qa (Qv 27) (Qh 51 [(Qn 25),(Qn 26)]),Qa (Qv 21) (Qd (Qn 27)),Qa (Qv 28) (Qi (Qn 21) 0),Qa (Qv 29) (Qi (Qn 21) 1),Qa (Qv 10) (Qd (Qn 28)),Qa (Qv 11) (Qd (Qn 29))]
def f85_c2:MC:=.r0 f85_r2
def f85_r3:List MO:=[Qa (Qv 30) (Qd (Qn 10)),Qa (Qv 31) (Qk Qt (Qn 30)),Qa (Qv 32) (Qd (Qo (Qp (Qq (Qr Qu 0)))))]
def f85_c3:MC:=.r0 f85_r3
def f85_r4:List MO:=[Qa (Qv 33) (Qe Qt Go.BinOp.lss (Qn 32) (Qn 31))]
def f85_c4:MC:=.r0 f85_r4
def f85_r8:List MO:=[Qa (Qv 34) (Qd (Qn 32)),Qa (Qv 35) (Qj 1 (Qn 30) (Qn 32)),Qa (Qv 36) (Qf 1 false (Qn 35)),Qa (Qv 12) (Qd (Qn 34)),Qa (Qv 13) (Qd (Qn 36))]
def f85_c8:MC:=.r0 f85_r8
def f85_r9:List MO:=[Qa (Qv 37) (Qd (Qn 0)),Qa (Qv 38) (Qd (Qn 13)),Qa (Qv 39) (Qh 83 [(Qn 37),(Qn 38)]),Qa (Qv 14) (Qd (Qn 39))]
def f85_c9:MC:=.r0 f85_r9
def f85_r10:List MO:=[Qa (Qv 15) (Qd (Qo (Qp (Qq (Qr Qu (-1))))))]
def f85_c10:MC:=.r0 f85_r10
def f85_r11:List MO:=[Qa (Qv 41) (Qd (Qn 14)),Qa (Qv 42) (MOp.tas 145 true (V.agg [(Qq (Qr Qu 0)),(Qq (D.str (ByteArray.mk #[])))]) (Qn 41)),Qa (Qv 40) (Qd (Qn 42)),Qa (Qv 43) (Qi (Qn 40) 0),Qa (Qv 44) (Qi (Qn 40) 1),Qa (Qv 16) (MOp.alloc [(Qr Qu 0),(D.str (ByteArray.mk #[]))]),Qa none (Ql 2 (Qn 16) (Qn 43)),Qa (Qv 17) (Qd (Qn 44))]
def f85_c11:MC:=.r0 f85_r11
def f85_r12:List MO:=[Qa (Qv 45) (Qd (Qn 17))]
def f85_c12:MC:=.r0 f85_r12
def f85_r13:List MO:=[Qa (Qv 46) (Qg 0 (Qn 16)),Qa (Qv 47) (Qf 1 false (Qn 46)),Qa (Qv 15) (Qd (Qn 47))]
def f85_c13:MC:=.r0 f85_r13
def f85_r17:List MO:=[Qa (Qv 48) (Qd (Qn 1)),Qa (Qv 49) (Qd (Qn 3)),Qa (Qv 50) (Qd (Qn 15)),Qa (Qv 51) (Qd (Qn 9)),Qa (Qv 52) (Qd (Qn 12)),Qa (Qv 53) (Qj 1 (Qn 51) (Qn 52)),Qa (Qv 54) (Qf 1 false (Qn 53)),Qa (Qv 55) (Qd (Qn 14)),Qa (Qv 56) (MOp.inv "sigillary/emit.text" (Qn 55)),Qa (Qv 57) (MOp.bslice 1 [(D.str (ByteArray.mk #[]))] 2 [(0,(Qn 54)),(1,(Qn 56))]),Qc (Qv 58) (Qh 84 [(Qn 49),(Qn 50),(Qn 57)]),Qc (Qv 59) (MOp.callv (Qn 48) [(Qn 58)]),Qa (Qv 60) (MOp.not (Qn 59))]
def f85_c17:MC:=.reg true f85_r17
def f85_r18:List MO:=[Qa (Qv 8) (Qd (Qo (Qp (Qq (Qs false)))))]
def f85_c18:MC:=.r0 f85_r18
def f85_r24:List MO:=[Qa (Qv 61) (Qd (Qn 17)),Qa (Qv 62) (Qd (Qn 61)),Qb 62 true (Qv 63),Qa (Qv 63) (Qd (Qn 0)),Qb 62 true (Qv 64),Qa (Qv 64) (Qd (Qn 1)),Qb 62 true (Qv 65),Qa (Qv 65) (Qd (Qn 15)),Qb 62 true (Qv 66),Qa (Qv 66) (Qd (Qn 3)),Qb 62 true (Qv 67),Qa (Qv 67) (Qe Qt Go.BinOp.add (Qn 66) (Qo (Qp (Qq (Qr Qu 2))))),Qb 62 true (Qv 68),Qa (Qv 68) (Qh 85 [(Qn 63),(Qn 64),(Qn 65),(Qn 67)]),Qb 62 true (Qv 69),Qa (Qv 69) (MOp.not (Qn 68)),Qa (Qv 70) (Qm (Qn 62) (Qn 69) (Qo (Qp (Qq (Qs false)))))]
def f85_c24:MC:=.r0 f85_r24
def f85_r25:List MO:=[Qa (Qv 8) (Qd (Qo (Qp (Qq (Qs false)))))]
def f85_c25:MC:=.r0 f85_r25
def f85_c31:MC:=.seq (.seq f85_c17 (.cond (Qn 60) (.seq f85_c18 .ret) .skip)) (.seq f85_c24 (.cond (Qn 70) (.seq f85_c25 .ret) .skip))
def f85_c33:MC:=.seq f85_c11 (.seq (.seq f85_c12 (.cond (Qn 45) f85_c13 .skip)) f85_c31)
def f85_c36:MC:=.seq f85_c8 (.seq f85_c9 (.seq f85_c10 f85_c33))
def f85_r38:List MO:=[Qa (Qv 71) (Qe Qt Go.BinOp.add (Qn 32) (Qo (Qp (Qq (Qr Qu 1))))),Qa (Qv 32) (Qd (Qn 71))]
def f85_c38:MC:=.r0 f85_r38
def f85_c44:MC:=.seq f85_c3 (.blk 0 (.loop (.seq f85_c4 (.seq (.cond (Qn 33) .skip (MC.exit 0)) (.seq (.blk 1 f85_c36) f85_c38)))))
def f85_r45:List MO:=[Qa (Qv 8) (Qd (Qo (Qp (Qq (Qs true)))))]
def f85_c45:MC:=.r0 f85_r45
def f85_c50:MC:=.seq f85_c1 (.seq f85_c2 (.seq f85_c44 (.seq f85_c45 .ret)))
def f85_c51:MC:=.seq f85_c0 f85_c50
attribute [go_sem] f85_r0 f85_r1 f85_r2 f85_r3 f85_r4 f85_r8 f85_r9 f85_r10 f85_r11 f85_r12 f85_r13 f85_r17 f85_r18 f85_r24 f85_r25 f85_r38 f85_r45
theorem f85_k : KK QP 85 f85 [] f85_c51 [(RV.t 8)] 72 := by refine ⟨func85,?_,?_,?_,?_⟩<;>kernel_rfl
theorem f85_ok : callable QP 85 = true := by kernel_rfl
theorem f85_tri (h : GT QP gp [(RV.t 8)] pre R 72 f85_c51 args) : Tri QP gp 85 args pre R := f85_k.t h
-- f86: no body
def f108_r0:List MO:=[Qa (Qv 2) (MOp.ibox (Qn 0)),Qa (Qv 4) (Qd (Qo (Qp (Qq (Qs false)))))]
def f108_c0:MC:=.r0 f108_r0
def f108_r1:List MO:=[Qa (Qv 5) (Qd (Qn 1)),Qa (Qv 6) (Qe Qt Go.BinOp.geq (Qn 5) (Qo (Qp (Qq (Qr Qu 0))))),Qa (Qv 7) (Qd (Qn 6)),Qb 7 true (Qv 8),Qa (Qv 8) (Qd (Qn 1)),Qb 7 true (Qv 9),Qa (Qv 9) (Qg 1 (Qn 2)),Qb 7 true (Qv 10),Qa (Qv 10) (Qf 1 false (Qn 9)),Qb 7 true (Qv 11),Qa (Qv 11) (Qk Qt (Qn 10)),Qb 7 true (Qv 12),Qa (Qv 12) (Qe Qt Go.BinOp.lss (Qn 8) (Qn 11)),Qa (Qv 13) (Qm (Qn 7) (Qn 12) (Qo (Qp (Qq (Qs false))))),Qa (Qv 4) (Qd (Qn 13))]
def f108_c1:MC:=.r0 f108_r1
def f108_c4:MC:=.seq f108_c0 (.seq f108_c1 .ret)
attribute [go_sem] f108_r0 f108_r1
theorem f108_k : KK QP 108 f108 [2] f108_c4 [(RV.t 4)] 14 := by refine ⟨func108,?_,?_,?_,?_⟩<;>kernel_rfl
theorem f108_ok : callable QP 108 = true := by kernel_rfl
theorem f108_in (h : GI QP gp [(RV.t 4)] res 14 f108_c4 args) : Does QP gp 108 args res := f108_k.i f108_ok h
def f109_r0:List MO:=[Qa (Qv 1) (MOp.ibox (Qn 0)),Qa (Qv 2) (Qd (Qo (Qp (Qq D.nilF))))]
def f109_c0:MC:=.r0 f109_r0
def f109_r1:List MO:=[Qa (Qv 3) (MOp.mkF (Go.Fn.func 141) [(Qn 1)]),Qa (Qv 2) (Qd (Qn 3))]
def f109_c1:MC:=.r0 f109_r1
def f109_c4:MC:=.seq f109_c0 (.seq f109_c1 .ret)
attribute [go_sem] f109_r0 f109_r1
theorem f109_k : KK QP 109 f109 [1] f109_c4 [(RV.t 2)] 4 := by refine ⟨func109,?_,?_,?_,?_⟩<;>kernel_rfl
theorem f109_ok : callable QP 109 = true := by kernel_rfl
theorem f109_in (h : GI QP gp [(RV.t 2)] res 4 f109_c4 args) : Does QP gp 109 args res := f109_k.i f109_ok h
def f110_r0:List MO:=[Qa (Qv 1) (MOp.ibox (Qn 0)),Qa (Qv 2) (Qd (Qo (Qp (Qq (Qs false)))))]
def f110_c0:MC:=.r0 f110_r0
def f110_r1:List MO:=[Qa (Qv 4) (MOp.build [D.nilF,D.nilF,D.nilF] [(0,(1,(Qo (Qp (Qq (D.fn (Go.Fn.func 142) [])))))),(1,(1,(Qo (Qp (Qq (D.fn (Go.Fn.func 143) [])))))),(2,(1,(Qo (Qp (Qq (D.fn (Go.Fn.func 144) []))))))]),Qa (Qv 3) (MOp.alloc [D.nilF,D.nilF,D.nilF]),Qa none (Ql 3 (Qn 3) (Qn 4))]
def f110_c1:MC:=.r0 f110_r1
def f110_r2:List MO:=[Qa (Qv 5) (Qg 0 (Qn 1)),Qa (Qv 6) (Qg 0 (Qn 5)),Qa (Qv 7) (Qf 1 false (Qn 6)),Qa (Qv 8) (Qe Qt Go.BinOp.geq (Qn 7) (Qo (Qp (Qq (Qr Qu 0))))),Qa (Qv 9) (Qd (Qn 8)),Qb 9 true (Qv 10),Qa (Qv 10) (Qg 0 (Qn 1)),Qb 9 true (Qv 11),Qa (Qv 11) (Qg 0 (Qn 10)),Qb 9 true (Qv 12),Qa (Qv 12) (Qf 1 false (Qn 11)),Qb 9 true (Qv 13),Qa (Qv 13) (Qe Qt Go.BinOp.lss (Qn 12) (Qo (Qp (Qq (Qr Qu 3))))),Qa (Qv 14) (Qm (Qn 9) (Qn 13) (Qo (Qp (Qq (Qs false))))),Qa (Qv 15) (Qd (Qn 14)),Qb 15 true (Qv 16),Qa (Qv 16) (Qg 0 (Qn 1)),Qb 15 true (Qv 17),Qa (Qv 17) (Qg 0 (Qn 16)),Qb 15 true (Qv 18),Qa (Qv 18) (Qf 1 false (Qn 17)),Qb 15 true (Qv 19),Qa (Qv 19) (MOp.iadA 3 1 (Qn 3) (Qn 18)),Qb 15 true (Qv 20),Qa (Qv 20) (Qf 1 false (Qn 19)),Qb 15 true (Qv 21),Qa (Qv 21) (Qf 7 true (Qn 1)),Qb 15 true (Qv 22),Qc (Qv 22) (MOp.callv (Qn 20) [(Qn 21)]),Qa (Qv 23) (Qm (Qn 15) (Qn 22) (Qo (Qp (Qq (Qs false))))),Qa (Qv 2) (Qd (Qn 23))]
def f110_c2:MC:=.reg true f110_r2
def f110_c6:MC:=.seq f110_c0 (.seq f110_c1 (.seq f110_c2 .ret))
attribute [go_sem] f110_r0 f110_r1 f110_r2
theorem f110_k : KK QP 110 f110 [1] f110_c6 [(RV.t 2)] 24 := by refine ⟨func110,?_,?_,?_,?_⟩<;>kernel_rfl
theorem f110_ok : callable QP 110 = true := by kernel_rfl
theorem f110_in (h : GI QP gp [(RV.t 2)] res 24 f110_c6 args) : Does QP gp 110 args res := f110_k.i f110_ok h
def f113_r0:List MO:=[Qa (Qv 1) (MOp.ibox (Qn 0)),Qa (Qv 2) (Qd (Qo (Qp (Qq (Qs false)))))]
def f113_c0:MC:=.r0 f113_r0
def f113_r1:List MO:=[Qa (Qv 3) (Qg 0 (Qn 1)),Qa (Qv 4) (Qg 4 (Qn 3)),Qa (Qv 5) (Qf 1 false (Qn 4)),Qa (Qv 6) (Qk Qt (Qn 5)),Qa (Qv 7) (Qg 0 (Qn 1)),Qa (Qv 8) (Qg 5 (Qn 7)),Qa (Qv 9) (Qf 1 false (Qn 8)),Qa (Qv 10) (Qk Qt (Qn 9)),Qa (Qv 11) (Qe Qt Go.BinOp.eql (Qn 6) (Qn 10)),Qa (Qv 2) (Qd (Qn 11))]
def f113_c1:MC:=.r0 f113_r1
def f113_c4:MC:=.seq f113_c0 (.seq f113_c1 .ret)
attribute [go_sem] f113_r0 f113_r1
theorem f113_k : KK QP 113 f113 [1] f113_c4 [(RV.t 2)] 12 := by refine ⟨func113,?_,?_,?_,?_⟩<;>kernel_rfl
theorem f113_ok : callable QP 113 = true := by kernel_rfl
theorem f113_in (h : GI QP gp [(RV.t 2)] res 12 f113_c4 args) : Does QP gp 113 args res := f113_k.i f113_ok h
def f114_r0:List MO:=[Qa (Qv 4) (Qd (Qn 0)),Qa (Qv 5) (Qd (Qn 0)),Qa (Qv 6) (Qk Qt (Qn 5)),Qa (Qv 7) (Qd (Qn 1)),Qa (Qv 8) (Qh 145 [(Qn 4),(Qn 6),(Qn 7)])]
def f114_c0:MC:=.r0 f114_r0
attribute [go_sem] f114_r0
theorem f114_k : KK QP 114 f114 [] f114_c0 [] 9 := by refine ⟨func114,?_,?_,?_,?_⟩<;>kernel_rfl
theorem f114_ok : callable QP 114 = true := by kernel_rfl
theorem f114_tri (h : GT QP gp [] pre R 9 f114_c0 args) : Tri QP gp 114 args pre R := f114_k.t h
def f115_r0:List MO:=[Qa (Qv 2) (MOp.ibox (Qn 0)),Qa (Qv 3) (MOp.ibox (Qn 1)),Qa (Qv 4) (Qd (Qo (Qp (Qq (Qr Qu 0)))))]
def f115_c0:MC:=.r0 f115_r0
def f115_r1:List MO:=[Qa (Qv 5) (Qg 0 (Qn 2)),Qa (Qv 6) (Qf 3 true (Qn 5)),Qa (Qv 7) (Qg 0 (Qn 3)),Qa (Qv 8) (Qf 3 true (Qn 7)),Qa (Qv 9) (Qh 116 [(Qn 6),(Qn 8)]),Qa (Qv 4) (Qd (Qn 9))]
def f115_c1:MC:=.r0 f115_r1
def f115_c4:MC:=.seq f115_c0 (.seq f115_c1 .ret)
attribute [go_sem] f115_r0 f115_r1
theorem f115_k : KK QP 115 f115 [2,3] f115_c4 [(RV.t 4)] 10 := by refine ⟨func115,?_,?_,?_,?_⟩<;>kernel_rfl
theorem f115_ok : callable QP 115 = true := by kernel_rfl
theorem f115_in (h : GI QP gp [(RV.t 4)] res 10 f115_c4 args) : Does QP gp 115 args res := f115_k.i f115_ok h
def f116_r0:List MO:=[Qa (Qv 2) (MOp.ibox (Qn 0)),Qa (Qv 3) (MOp.ibox (Qn 1)),Qa (Qv 4) (Qd (Qo (Qp (Qq (Qr Qu 0)))))]
def f116_c0:MC:=.r0 f116_r0
def f116_r1:List MO:=[Qa (Qv 5) (Qf 3 true (Qn 2)),Qa (Qv 6) (Qf 3 true (Qn 3)),Qa (Qv 7) (MOp.eqs false [Qt,Qt,Leaf.s] (Qn 5) (Qn 6))]
def f116_c1:MC:=.r0 f116_r1
def f116_r2:List MO:=[Qa (Qv 4) (Qd (Qo (Qp (Qq (Qr Qu 0)))))]
def f116_c2:MC:=.r0 f116_r2
def f116_r8:List MO:=[Qa (Qv 8) (Qg 0 (Qn 2)),Qa (Qv 9) (Qf 1 false (Qn 8)),Qa (Qv 10) (Qg 0 (Qn 3)),Qa (Qv 11) (Qf 1 false (Qn 10)),Qa (Qv 12) (Qh 147 [(Qn 9),(Qn 11)]),Qa (Qv 13) (Qg 1 (Qn 2)),Qa (Qv 14) (Qf 1 false (Qn 13)),Qa (Qv 15) (Qg 1 (Qn 3)),Qa (Qv 16) (Qf 1 false (Qn 15)),Qa (Qv 17) (Qh 147 [(Qn 14),(Qn 16)]),Qa (Qv 18) (Qg 2 (Qn 2)),Qa (Qv 19) (Qf 1 false (Qn 18)),Qa (Qv 20) (Qg 2 (Qn 3)),Qa (Qv 21) (Qf 1 false (Qn 20)),Qc (Qv 22) (Qh 148 [(Qn 19),(Qn 21)]),Qa (Qv 23) (MOp.bslice 1 [(Qr Qu 0)] 3 [(0,(Qn 12)),(1,(Qn 17)),(2,(Qn 22))]),Qc (Qv 24) (Qh 146 [(Qn 23)]),Qa (Qv 4) (Qd (Qn 24))]
def f116_c8:MC:=.reg true f116_r8
def f116_c12:MC:=.seq f116_c0 (.seq (.seq f116_c1 (.cond (Qn 7) (.seq f116_c2 .ret) .skip)) (.seq f116_c8 .ret))
attribute [go_sem] f116_r0 f116_r1 f116_r2 f116_r8
theorem f116_k : KK QP 116 f116 [2,3] f116_c12 [(RV.t 4)] 25 := by refine ⟨func116,?_,?_,?_,?_⟩<;>kernel_rfl
theorem f116_ok : callable QP 116 = true := by kernel_rfl
theorem f116_in (h : GI QP gp [(RV.t 4)] res 25 f116_c12 args) : Does QP gp 116 args res := f116_k.i f116_ok h
def f120_r0:List MO:=[Qa (Qv 4) (Qd (Qo (Qp (Qq (D.str (ByteArray.mk #[]))))))]
def f120_c0:MC:=.r0 f120_r0
def f120_r1:List MO:=[Qa (Qv 8) (Qd (Qn 0)),Qa (Qv 9) (MOp.nck (Qn 8)),Qa (Qv 10) (Qg 0 (Qn 9)),Qa (Qv 11) (Qg 1 (Qn 10)),Qa (Qv 12) (Qf 1 false (Qn 11)),Qa (Qv 13) (Qd (Qn 1)),Qa (Qv 14) (Qj 6 (Qn 12) (Qn 13)),Qa (Qv 15) (Qg 1 (Qn 14)),Qa (Qv 16) (Qf 3 true (Qn 15)),Qa (Qv 17) (Qh 19 [(Qn 16)]),Qa (Qv 7) (Qd (Qn 17)),Qa (Qv 18) (Qi (Qn 7) 0),Qa (Qv 19) (Qi (Qn 7) 1),Qa (Qv 5) (Qd (Qn 18)),Qa (Qv 6) (Qd (Qn 19))]
def f120_c1:MC:=.r0 f120_r1
def f120_r2:List MO:=[Qa (Qv 20) (Qd (Qn 5)),Qa (Qv 4) (Qd (Qn 20))]
def f120_c2:MC:=.r0 f120_r2
def f120_c6:MC:=.seq f120_c0 (.seq f120_c1 (.seq f120_c2 .ret))
attribute [go_sem] f120_r0 f120_r1 f120_r2
theorem f120_k : KK QP 120 f120 [] f120_c6 [(RV.t 4)] 21 := by refine ⟨func120,?_,?_,?_,?_⟩<;>kernel_rfl
theorem f120_ok : callable QP 120 = true := by kernel_rfl
theorem f120_tri (h : GT QP gp [(RV.t 4)] pre R 21 f120_c6 args) : Tri QP gp 120 args pre R := f120_k.t h
def f121_r0:List MO:=[Qa (Qv 4) (Qd (Qo (Qp (Qq (D.str (ByteArray.mk #[]))))))]
def f121_c0:MC:=.r0 f121_r0
def f121_r1:List MO:=[Qa (Qv 4) (Qd (Qo (Qp (Qq (D.str (ByteArray.mk #[91,93]))))))]
def f121_c1:MC:=.r0 f121_r1
def f121_c4:MC:=.seq f121_c0 (.seq f121_c1 .ret)
attribute [go_sem] f121_r0 f121_r1
theorem f121_k : KK QP 121 f121 [] f121_c4 [(RV.t 4)] 5 := by refine ⟨func121,?_,?_,?_,?_⟩<;>kernel_rfl
theorem f121_ok : callable QP 121 = true := by kernel_rfl
theorem f121_tri (h : GT QP gp [(RV.t 4)] pre R 5 f121_c4 args) : Tri QP gp 121 args pre R := f121_k.t h
def f122_r0:List MO:=[Qa (Qv 4) (Qd (Qo (Qp (Qq (D.str (ByteArray.mk #[]))))))]
def f122_c0:MC:=.r0 f122_r0
def f122_r1:List MO:=[Qa (Qv 4) (Qd (Qo (Qp (Qq (D.str (ByteArray.mk #[123,125]))))))]
def f122_c1:MC:=.r0 f122_r1
def f122_c4:MC:=.seq f122_c0 (.seq f122_c1 .ret)
attribute [go_sem] f122_r0 f122_r1
theorem f122_k : KK QP 122 f122 [] f122_c4 [(RV.t 4)] 5 := by refine ⟨func122,?_,?_,?_,?_⟩<;>kernel_rfl
theorem f122_ok : callable QP 122 = true := by kernel_rfl
theorem f122_tri (h : GT QP gp [(RV.t 4)] pre R 5 f122_c4 args) : Tri QP gp 122 args pre R := f122_k.t h
-- f123: trC none
-- f124: trC none
def f125_r0:List MO:=[Qa (Qv 4) (Qd (Qo (Qp A.nil)))]
def f125_c0:MC:=.r0 f125_r0
def f125_r1:List MO:=[Qa (Qv 13) (Qd (Qn 0)),Qa (Qv 14) (MOp.nck (Qn 13)),Qa (Qv 15) (Qg 0 (Qn 14)),Qa (Qv 16) (Qf 2 true (Qn 15)),Qa (Qv 17) (Qd (Qn 1)),Qa (Qv 18) (Qh 50 [(Qn 16),(Qn 17)]),Qa (Qv 12) (Qd (Qn 18)),Qa (Qv 19) (Qi (Qn 12) 0),Qa (Qv 20) (Qi (Qn 12) 1),Qa (Qv 5) (Qd (Qn 19)),Qa (Qv 6) (Qd (Qn 20))]
def f125_c1:MC:=.r0 f125_r1
def f125_r2:List MO:=[Qa (Qv 7) (Qd (Qo (Qp A.nil)))]
def f125_c2:MC:=.r0 f125_r2
def f125_r3:List MO:=[Qa (Qv 21) (Qd (Qn 5)),Qa (Qv 22) (Qk Qt (Qn 21)),Qa (Qv 23) (Qd (Qo (Qp (Qq (Qr Qu 0)))))]
def f125_c3:MC:=.r0 f125_r3
def f125_r4:List MO:=[Qa (Qv 24) (Qe Qt Go.BinOp.lss (Qn 23) (Qn 22))]
def f125_c4:MC:=.r0 f125_r4
def f125_r8:List MO:=[Qa (Qv 25) (Qj 3 (Qn 21) (Qn 23)),Qa (Qv 26) (Qf 3 true (Qn 25)),Qa (Qv 9) (MOp.alloc [(Qr Qu 0),(Qr Qu 0),(D.str (ByteArray.mk #[]))]),Qa none (Ql 3 (Qn 9) (Qn 26))]
def f125_c8:MC:=.r0 f125_r8
def f125_r9:List MO:=[Qa (Qv 28) (Qf 3 true (Qn 9)),Qa (Qv 29) (Qh 19 [(Qn 28)]),Qa (Qv 27) (Qd (Qn 29)),Qa (Qv 30) (Qi (Qn 27) 0),Qa (Qv 31) (Qi (Qn 27) 1),Qa (Qv 10) (Qd (Qn 30)),Qa (Qv 11) (Qd (Qn 31))]
def f125_c9:MC:=.r0 f125_r9
def f125_r10:List MO:=[Qa (Qv 32) (Qd (Qn 7)),Qa (Qv 33) (Qd (Qn 10)),Qa (Qv 34) (Qe Leaf.s Go.BinOp.add (Qn 33) (Qo (Qp (Qq (D.str (ByteArray.mk #[58])))))),Qa (Qv 35) (MOp.bslice 1 [(D.str (ByteArray.mk #[]))] 1 [(0,(Qn 34))]),Qa (Qv 36) (MOp.app 9 1 16 (Qn 32) (Qn 35)),Qa (Qv 7) (Qd (Qn 36))]
def f125_c10:MC:=.r0 f125_r10
def f125_r14:List MO:=[Qa (Qv 37) (Qe Qt Go.BinOp.add (Qn 23) (Qo (Qp (Qq (Qr Qu 1))))),Qa (Qv 23) (Qd (Qn 37))]
def f125_c14:MC:=.r0 f125_r14
def f125_c15:MC:=.seq (.blk 1 (.seq f125_c8 (.seq f125_c9 f125_c10))) f125_c14
def f125_r21:List MO:=[Qa (Qv 38) (Qd (Qn 0)),Qa (Qv 39) (MOp.nck (Qn 38)),Qa (Qv 40) (Qg 0 (Qn 39)),Qa (Qv 41) (Qg 1 (Qn 40)),Qa (Qv 42) (Qf 1 false (Qn 41)),Qa (Qv 43) (Qd (Qn 1)),Qa (Qv 44) (Qj 6 (Qn 42) (Qn 43)),Qa (Qv 45) (Qg 0 (Qn 44)),Qa (Qv 46) (Qf 1 false (Qn 45)),Qa (Qv 47) (Qe Qt Go.BinOp.eql (Qn 46) (Qo (Qp (Qq (Qr Qu 1)))))]
def f125_c21:MC:=.r0 f125_r21
def f125_r22:List MO:=[Qa (Qv 48) (MOp.bslice 1 [(D.str (ByteArray.mk #[]))] 1 [(0,(Qo (Qp (Qq (D.str (ByteArray.mk #[45]))))))]),Qa (Qv 49) (Qd (Qn 0)),Qa (Qv 50) (MOp.nck (Qn 49)),Qa (Qv 51) (Qg 0 (Qn 50)),Qa (Qv 52) (Qg 1 (Qn 51)),Qa (Qv 53) (Qf 1 false (Qn 52)),Qa (Qv 54) (Qd (Qn 1)),Qa (Qv 55) (Qj 6 (Qn 53) (Qn 54)),Qa (Qv 56) (Qg 5 (Qn 55)),Qa (Qv 57) (Qf 1 false (Qn 56)),Qa (Qv 58) (Qk Qt (Qn 57)),Qa (Qv 59) (Qh 152 [(Qn 48),(Qn 58)]),Qa (Qv 7) (Qd (Qn 59))]
def f125_c22:MC:=.r0 f125_r22
def f125_r26:List MO:=[Qa (Qv 60) (Qd (Qn 7)),Qa (Qv 4) (Qd (Qn 60))]
def f125_c26:MC:=.r0 f125_r26
def f125_c30:MC:=.seq (.seq f125_c3 (.blk 0 (.loop (.seq f125_c4 (.seq (.cond (Qn 24) .skip (MC.exit 0)) f125_c15))))) (.seq (.seq f125_c21 (.cond (Qn 47) f125_c22 .skip)) (.seq f125_c26 .ret))
def f125_c33:MC:=.seq f125_c0 (.seq f125_c1 (.seq f125_c2 f125_c30))
attribute [go_sem] f125_r0 f125_r1 f125_r2 f125_r3 f125_r4 f125_r8 f125_r9 f125_r10 f125_r14 f125_r21 f125_r22 f125_r26
theorem f125_k : KK QP 125 f125 [] f125_c33 [(RV.t 4)] 61 := by refine ⟨func125,?_,?_,?_,?_⟩<;>kernel_rfl
theorem f125_ok : callable QP 125 = true := by kernel_rfl
theorem f125_tri (h : GT QP gp [(RV.t 4)] pre R 61 f125_c33 args) : Tri QP gp 125 args pre R := f125_k.t h
def f141_r1:List MO:=[Qa (Qv 5) (Qg 1 (Qn 1)),Qa (Qv 6) (Qf 1 false (Qn 5)),Qa (Qv 7) (Qk Qt (Qn 6)),Qa (Qv 8) (Qd (Qo (Qp (Qq (Qr Qu 0)))))]
def f141_c1:MC:=.r0 f141_r1
def f141_r2:List MO:=[Qa (Qv 9) (Qe Qt Go.BinOp.lss (Qn 8) (Qn 7))]
def f141_c2:MC:=.r0 f141_r2
def f141_r6:List MO:=[Qa (Qv 10) (Qd (Qn 8)),Qa (Qv 11) (Qj 6 (Qn 6) (Qn 8)),Qa (Qv 12) (Qf 6 true (Qn 11)),Qa (Qv 4) (MOp.alloc [(Qr Qu 0),(Qr Qu 0),(Qr Qu 0),(D.str (ByteArray.mk #[])),(D.sl []),(D.sl [])]),Qa (Qv 3) (Qd (Qn 10)),Qa none (Ql 6 (Qn 4) (Qn 12))]
def f141_c6:MC:=.r0 f141_r6
def f141_r7:List MO:=[Qa (Qv 13) (Qd (Qn 0)),Qa (Qv 14) (Qd (Qn 3)),Qa (Qv 15) (Qf 6 true (Qn 4)),Qa (Qv 16) (Qg 1 (Qn 1)),Qa (Qv 17) (Qf 1 false (Qn 16)),Qa (Qv 18) (Qk Qt (Qn 17)),Qa (Qv 19) (MOp.build [(Qr Qu 0),(Qr Qu 0),(Qr Qu 0),(D.str (ByteArray.mk #[])),(D.sl []),(D.sl []),(Qr Qu 0)] [(0,(6,(Qn 15))),(6,(1,(Qn 18)))]),Qa (Qv 20) (MOp.callv (Qn 13) [(Qn 14),(Qn 19)]),Qa (Qv 21) (MOp.not (Qn 20))]
def f141_c7:MC:=.r0 f141_r7
def f141_r14:List MO:=[Qa (Qv 22) (Qe Qt Go.BinOp.add (Qn 8) (Qo (Qp (Qq (Qr Qu 1))))),Qa (Qv 8) (Qd (Qn 22))]
def f141_c14:MC:=.r0 f141_r14
def f141_c17:MC:=.seq f141_c2 (.seq (.cond (Qn 9) .skip (MC.exit 0)) (.seq (.blk 1 (.seq f141_c6 (.seq f141_c7 (.cond (Qn 21) (MC.exit 0) .skip)))) f141_c14))
def f141_c22:MC:=.scope (.seq .skip (.seq f141_c1 (.blk 0 (.loop f141_c17))))
attribute [go_sem] f141_r1 f141_r2 f141_r6 f141_r7 f141_r14
theorem f141_k : KK QP 141 f141 [] f141_c22 [] 23 := by refine ⟨func141,?_,?_,?_,?_⟩<;>kernel_rfl
theorem f141_ok : callable QP 141 = true := by kernel_rfl
theorem f141_tri (h : GT QP gp [] pre R 23 f141_c22 args) : Tri QP gp 141 args pre R := f141_k.t h
def f142_r0:List MO:=[Qa (Qv 1) (MOp.ibox (Qn 0)),Qa (Qv 2) (Qd (Qo (Qp (Qq (Qs false)))))]
def f142_c0:MC:=.r0 f142_r0
def f142_r1:List MO:=[Qa (Qv 3) (Qg 0 (Qn 1)),Qa (Qv 4) (Qg 1 (Qn 3)),Qa (Qv 5) (Qf 3 true (Qn 4)),Qa (Qv 6) (Qh 35 [(Qn 5)]),Qa (Qv 7) (Qg 0 (Qn 1)),Qa (Qv 8) (Qg 4 (Qn 7)),Qa (Qv 9) (Qf 1 false (Qn 8)),Qa (Qv 10) (Qk Qt (Qn 9)),Qa (Qv 11) (Qe Qt Go.BinOp.eql (Qn 10) (Qo (Qp (Qq (Qr Qu 0))))),Qa (Qv 12) (Qg 0 (Qn 1)),Qa (Qv 13) (Qg 5 (Qn 12)),Qa (Qv 14) (Qf 1 false (Qn 13)),Qa (Qv 15) (Qk Qt (Qn 14)),Qa (Qv 16) (Qe Qt Go.BinOp.eql (Qn 15) (Qo (Qp (Qq (Qr Qu 0))))),Qa (Qv 17) (MOp.bslice 1 [(Qs false)] 3 [(0,(Qn 6)),(1,(Qn 11)),(2,(Qn 16))]),Qc (Qv 18) (Qh 166 [(Qn 17)]),Qa (Qv 2) (Qd (Qn 18))]
def f142_c1:MC:=.reg true f142_r1
def f142_c4:MC:=.seq f142_c0 (.seq f142_c1 .ret)
attribute [go_sem] f142_r0 f142_r1
theorem f142_k : KK QP 142 f142 [1] f142_c4 [(RV.t 2)] 19 := by refine ⟨func142,?_,?_,?_,?_⟩<;>kernel_rfl
theorem f142_ok : callable QP 142 = true := by kernel_rfl
theorem f142_in (h : GI QP gp [(RV.t 2)] res 19 f142_c4 args) : Does QP gp 142 args res := f142_k.i f142_ok h
def f143_r0:List MO:=[Qa (Qv 1) (MOp.ibox (Qn 0)),Qa (Qv 2) (Qd (Qo (Qp (Qq (Qs false)))))]
def f143_c0:MC:=.r0 f143_r0
def f143_r1:List MO:=[Qa (Qv 3) (Qg 0 (Qn 1)),Qa (Qv 4) (Qg 1 (Qn 3)),Qa (Qv 5) (Qf 3 true (Qn 4)),Qa (Qv 6) (MOp.build [(Qr Qu 0),(Qr Qu 0),(D.str (ByteArray.mk #[]))] []),Qa (Qv 7) (MOp.eqs false [Qt,Qt,Leaf.s] (Qn 5) (Qn 6)),Qa (Qv 8) (Qg 0 (Qn 1)),Qa (Qv 9) (Qg 4 (Qn 8)),Qa (Qv 10) (Qf 1 false (Qn 9)),Qa (Qv 11) (Qk Qt (Qn 10)),Qa (Qv 12) (Qe Qt Go.BinOp.eql (Qn 11) (Qo (Qp (Qq (Qr Qu 0))))),Qa (Qv 13) (Qf 7 true (Qn 1)),Qa (Qv 14) (Qh 167 [(Qn 13)]),Qa (Qv 15) (MOp.bslice 1 [(Qs false)] 3 [(0,(Qn 7)),(1,(Qn 12)),(2,(Qn 14))]),Qc (Qv 16) (Qh 166 [(Qn 15)]),Qa (Qv 2) (Qd (Qn 16))]
def f143_c1:MC:=.reg true f143_r1
def f143_c4:MC:=.seq f143_c0 (.seq f143_c1 .ret)
attribute [go_sem] f143_r0 f143_r1
theorem f143_k : KK QP 143 f143 [1] f143_c4 [(RV.t 2)] 17 := by refine ⟨func143,?_,?_,?_,?_⟩<;>kernel_rfl
theorem f143_ok : callable QP 143 = true := by kernel_rfl
theorem f143_in (h : GI QP gp [(RV.t 2)] res 17 f143_c4 args) : Does QP gp 143 args res := f143_k.i f143_ok h
def f144_r0:List MO:=[Qa (Qv 1) (MOp.ibox (Qn 0)),Qa (Qv 2) (Qd (Qo (Qp (Qq (Qs false)))))]
def f144_c0:MC:=.r0 f144_r0
def f144_r1:List MO:=[Qa (Qv 3) (Qg 0 (Qn 1)),Qa (Qv 4) (Qg 1 (Qn 3)),Qa (Qv 5) (Qf 3 true (Qn 4)),Qa (Qv 6) (MOp.build [(Qr Qu 0),(Qr Qu 0),(D.str (ByteArray.mk #[]))] []),Qa (Qv 7) (MOp.eqs false [Qt,Qt,Leaf.s] (Qn 5) (Qn 6)),Qa (Qv 8) (Qf 7 true (Qn 1)),Qa (Qv 9) (Qh 113 [(Qn 8)]),Qa (Qv 10) (Qf 7 true (Qn 1)),Qa (Qv 11) (Qh 168 [(Qn 10)]),Qa (Qv 12) (Qf 7 true (Qn 1)),Qa (Qv 13) (Qh 167 [(Qn 12)]),Qa (Qv 14) (MOp.bslice 1 [(Qs false)] 4 [(0,(Qn 7)),(1,(Qn 9)),(2,(Qn 11)),(3,(Qn 13))]),Qc (Qv 15) (Qh 166 [(Qn 14)]),Qa (Qv 2) (Qd (Qn 15))]
def f144_c1:MC:=.reg true f144_r1
def f144_c4:MC:=.seq f144_c0 (.seq f144_c1 .ret)
attribute [go_sem] f144_r0 f144_r1
theorem f144_k : KK QP 144 f144 [1] f144_c4 [(RV.t 2)] 16 := by refine ⟨func144,?_,?_,?_,?_⟩<;>kernel_rfl
theorem f144_ok : callable QP 144 = true := by kernel_rfl
theorem f144_in (h : GI QP gp [(RV.t 2)] res 16 f144_c4 args) : Does QP gp 144 args res := f144_k.i f144_ok h
def f145_r0:List MO:=[Qa (Qv 6) (Qd (Qo (Qp (Qq (Qr Qu 20)))))]
def f145_c0:MC:=.r0 f145_r0
def f145_r1:List MO:=[Qa (Qv 10) (Qd (Qn 6)),Qa (Qv 7) (Qd (Qo (Qp (Qq (Qr Qu 0))))),Qa (Qv 8) (Qd (Qn 10))]
def f145_c1:MC:=.r0 f145_r1
def f145_r2:List MO:=[Qa (Qv 11) (Qd (Qn 8)),Qa (Qv 12) (Qd (Qn 1)),Qa (Qv 13) (Qe Qt Go.BinOp.leq (Qn 11) (Qn 12))]
def f145_c2:MC:=.r0 f145_r2
def f145_r7:List MO:=[Qa (Qv 14) (Qd (Qn 0)),Qa (Qv 15) (Qd (Qn 7)),Qa (Qv 16) (Qd (Qn 8)),Qa (Qv 17) (Qd (Qn 2)),Qa (Qv 18) (Qh 169 [(Qn 14),(Qn 15),(Qn 16),(Qn 17)])]
def f145_c7:MC:=.r0 f145_r7
def f145_r8:List MO:=[Qa (Qv 19) (Qd (Qn 8)),Qa (Qv 7) (Qd (Qn 19))]
def f145_c8:MC:=.r0 f145_r8
def f145_r9:List MO:=[Qa (Qv 20) (Qd (Qn 8)),Qa (Qv 21) (Qd (Qn 6)),Qa (Qv 22) (Qe Qt Go.BinOp.add (Qn 20) (Qn 21)),Qa (Qv 8) (Qd (Qn 22))]
def f145_c9:MC:=.r0 f145_r9
def f145_c13:MC:=.seq (.seq f145_c2 (.cond (Qn 13) .skip (MC.exit 0))) (.blk 1 (.seq f145_c7 (.seq f145_c8 f145_c9)))
def f145_r16:List MO:=[Qa (Qv 23) (Qd (Qn 0)),Qa (Qv 24) (Qd (Qn 7)),Qa (Qv 25) (Qd (Qn 1)),Qa (Qv 26) (Qd (Qn 2)),Qa (Qv 27) (Qh 169 [(Qn 23),(Qn 24),(Qn 25),(Qn 26)])]
def f145_c16:MC:=.r0 f145_r16
def f145_r17:List MO:=[Qa (Qv 28) (Qd (Qn 6)),Qa (Qv 29) (Qd (Qn 1)),Qa (Qv 30) (Qe Qt Go.BinOp.lss (Qn 28) (Qn 29))]
def f145_c17:MC:=.r0 f145_r17
def f145_r22:List MO:=[Qa (Qv 31) (Qd (Qn 6)),Qa (Qv 32) (Qe Qt Go.BinOp.mul (Qo (Qp (Qq (Qr Qu 2)))) (Qn 31)),Qa (Qv 7) (Qd (Qo (Qp (Qq (Qr Qu 0))))),Qa (Qv 8) (Qd (Qn 32))]
def f145_c22:MC:=.r0 f145_r22
def f145_r23:List MO:=[Qa (Qv 33) (Qd (Qn 8)),Qa (Qv 34) (Qd (Qn 1)),Qa (Qv 35) (Qe Qt Go.BinOp.leq (Qn 33) (Qn 34))]
def f145_c23:MC:=.r0 f145_r23
def f145_r28:List MO:=[Qa (Qv 36) (Qd (Qn 0)),Qa (Qv 37) (Qd (Qn 7)),Qa (Qv 38) (Qd (Qn 7)),Qa (Qv 39) (Qd (Qn 6)),Qa (Qv 40) (Qe Qt Go.BinOp.add (Qn 38) (Qn 39)),Qa (Qv 41) (Qd (Qn 8)),Qa (Qv 42) (Qd (Qn 2)),Qa (Qv 43) (Qh 170 [(Qn 36),(Qn 37),(Qn 40),(Qn 41),(Qn 42)])]
def f145_c28:MC:=.r0 f145_r28
def f145_r29:List MO:=[Qa (Qv 44) (Qd (Qn 8)),Qa (Qv 7) (Qd (Qn 44))]
def f145_c29:MC:=.r0 f145_r29
def f145_r30:List MO:=[Qa (Qv 45) (Qd (Qn 8)),Qa (Qv 46) (Qd (Qn 6)),Qa (Qv 47) (Qe Qt Go.BinOp.mul (Qo (Qp (Qq (Qr Qu 2)))) (Qn 46)),Qa (Qv 48) (Qe Qt Go.BinOp.add (Qn 45) (Qn 47)),Qa (Qv 8) (Qd (Qn 48))]
def f145_c30:MC:=.r0 f145_r30
def f145_c34:MC:=.seq (.seq f145_c23 (.cond (Qn 35) .skip (MC.exit 4))) (.blk 5 (.seq f145_c28 (.seq f145_c29 f145_c30)))
def f145_r37:List MO:=[Qa (Qv 49) (Qd (Qn 7)),Qa (Qv 50) (Qd (Qn 6)),Qa (Qv 51) (Qe Qt Go.BinOp.add (Qn 49) (Qn 50)),Qa (Qv 9) (Qd (Qn 51))]
def f145_c37:MC:=.r0 f145_r37
def f145_r38:List MO:=[Qa (Qv 52) (Qd (Qn 9)),Qa (Qv 53) (Qd (Qn 1)),Qa (Qv 54) (Qe Qt Go.BinOp.lss (Qn 52) (Qn 53))]
def f145_c38:MC:=.r0 f145_r38
def f145_r39:List MO:=[Qa (Qv 55) (Qd (Qn 0)),Qa (Qv 56) (Qd (Qn 7)),Qa (Qv 57) (Qd (Qn 9)),Qa (Qv 58) (Qd (Qn 1)),Qa (Qv 59) (Qd (Qn 2)),Qa (Qv 60) (Qh 170 [(Qn 55),(Qn 56),(Qn 57),(Qn 58),(Qn 59)])]
def f145_c39:MC:=.r0 f145_r39
def f145_r44:List MO:=[Qa (Qv 61) (Qd (Qn 6)),Qa (Qv 62) (Qe Qt Go.BinOp.mul (Qn 61) (Qo (Qp (Qq (Qr Qu 2))))),Qa (Qv 6) (Qd (Qn 62))]
def f145_c44:MC:=.r0 f145_r44
def f145_c45:MC:=.seq (.seq f145_c37 (.seq f145_c38 (.cond (Qn 54) f145_c39 .skip))) f145_c44
def f145_c49:MC:=.seq (.seq f145_c17 (.cond (Qn 30) .skip (MC.exit 2))) (.blk 3 (.seq f145_c22 (.seq (.blk 4 (.loop f145_c34)) f145_c45)))
def f145_c54:MC:=.seq f145_c1 (.seq (.blk 0 (.loop f145_c13)) (.seq f145_c16 (.blk 2 (.loop f145_c49))))
def f145_c55:MC:=.seq f145_c0 f145_c54
attribute [go_sem] f145_r0 f145_r1 f145_r2 f145_r7 f145_r8 f145_r9 f145_r16 f145_r17 f145_r22 f145_r23 f145_r28 f145_r29 f145_r30 f145_r37 f145_r38 f145_r39 f145_r44
theorem f145_k : KK QP 145 f145 [] f145_c55 [] 63 := by refine ⟨func145,?_,?_,?_,?_⟩<;>kernel_rfl
theorem f145_ok : callable QP 145 = true := by kernel_rfl
theorem f145_tri (h : GT QP gp [] pre R 63 f145_c55 args) : Tri QP gp 145 args pre R := f145_k.t h
def f146_r0:List MO:=[Qa (Qv 2) (Qd (Qo (Qp (Qq (Qr Qu 0)))))]
def f146_c0:MC:=.r0 f146_r0
def f146_r1:List MO:=[Qa (Qv 3) (Qd (Qo (Qp (Qq (Qr Qu 0)))))]
def f146_c1:MC:=.r0 f146_r1
def f146_r2:List MO:=[Qa (Qv 6) (Qd (Qn 0)),Qa (Qv 7) (Qk Qt (Qn 6)),Qa (Qv 8) (Qd (Qo (Qp (Qq (Qr Qu 0)))))]
def f146_c2:MC:=.r0 f146_r2
def f146_r3:List MO:=[Qa (Qv 9) (Qe Qt Go.BinOp.lss (Qn 8) (Qn 7))]
def f146_c3:MC:=.r0 f146_r3
def f146_r7:List MO:=[Qa (Qv 10) (Qj 1 (Qn 6) (Qn 8)),Qa (Qv 11) (Qf 1 false (Qn 10)),Qa (Qv 5) (Qd (Qn 11))]
def f146_c7:MC:=.r0 f146_r7
def f146_r8:List MO:=[Qa (Qv 12) (Qd (Qn 5)),Qa (Qv 13) (Qd (Qn 3)),Qa (Qv 14) (Qe Qt Go.BinOp.neq (Qn 12) (Qn 13))]
def f146_c8:MC:=.r0 f146_r8
def f146_r9:List MO:=[Qa (Qv 15) (Qd (Qn 5)),Qa (Qv 2) (Qd (Qn 15))]
def f146_c9:MC:=.r0 f146_r9
def f146_r17:List MO:=[Qa (Qv 16) (Qe Qt Go.BinOp.add (Qn 8) (Qo (Qp (Qq (Qr Qu 1))))),Qa (Qv 8) (Qd (Qn 16))]
def f146_c17:MC:=.r0 f146_r17
def f146_c18:MC:=.seq (.blk 1 (.seq f146_c7 (.seq f146_c8 (.cond (Qn 14) (.seq f146_c9 .ret) .skip)))) f146_c17
def f146_r24:List MO:=[Qa (Qv 17) (Qd (Qn 3)),Qa (Qv 2) (Qd (Qn 17))]
def f146_c24:MC:=.r0 f146_r24
def f146_c27:MC:=.seq (.seq f146_c2 (.blk 0 (.loop (.seq f146_c3 (.seq (.cond (Qn 9) .skip (MC.exit 0)) f146_c18))))) (.seq f146_c24 .ret)
def f146_c29:MC:=.seq f146_c0 (.seq f146_c1 f146_c27)
attribute [go_sem] f146_r0 f146_r1 f146_r2 f146_r3 f146_r7 f146_r8 f146_r9 f146_r17 f146_r24
theorem f146_k : KK QP 146 f146 [] f146_c29 [(RV.t 2)] 18 := by refine ⟨func146,?_,?_,?_,?_⟩<;>kernel_rfl
theorem f146_ok : callable QP 146 = true := by kernel_rfl
theorem f146_in (h : GI QP gp [(RV.t 2)] res 18 f146_c29 args) : Does QP gp 146 args res := f146_k.i f146_ok h
def f147_r0:List MO:=[Qa (Qv 4) (Qd (Qo (Qp (Qq (Qr Qu 0)))))]
def f147_c0:MC:=.r0 f147_r0
def f147_r1:List MO:=[Qa (Qv 7) (Qd (Qn 0)),Qa (Qv 8) (Qh 171 [(Qn 7)]),Qa (Qv 5) (Qd (Qn 8))]
def f147_c1:MC:=.r0 f147_r1
def f147_r2:List MO:=[Qa (Qv 9) (Qd (Qn 1)),Qa (Qv 10) (Qh 171 [(Qn 9)]),Qa (Qv 6) (Qd (Qn 10))]
def f147_c2:MC:=.r0 f147_r2
def f147_r3:List MO:=[Qa (Qv 11) (Qd (Qn 5))]
def f147_c3:MC:=.r0 f147_r3
def f147_r4:List MO:=[Qa (Qv 12) (Qd (Qn 6))]
def f147_c4:MC:=.r0 f147_r4
def f147_r5:List MO:=[Qa (Qv 4) (Qd (Qo (Qp (Qq (Qr Qu 0)))))]
def f147_c5:MC:=.r0 f147_r5
def f147_r11:List MO:=[Qa (Qv 4) (Qd (Qo (Qp (Qq (Qr Qu (-1))))))]
def f147_c11:MC:=.r0 f147_r11
def f147_c17:MC:=.seq f147_c3 (.cond (Qn 11) (.seq (.seq f147_c4 (.cond (Qn 12) (.seq f147_c5 .ret) .skip)) (.seq f147_c11 .ret)) .skip)
def f147_r18:List MO:=[Qa (Qv 13) (Qd (Qn 6))]
def f147_c18:MC:=.r0 f147_r18
def f147_r19:List MO:=[Qa (Qv 4) (Qd (Qo (Qp (Qq (Qr Qu 1)))))]
def f147_c19:MC:=.r0 f147_r19
def f147_r25:List MO:=[Qa (Qv 14) (Qd (Qn 0)),Qa (Qv 15) (Qd (Qn 1)),Qa (Qv 16) (Qe Qt Go.BinOp.lss (Qn 14) (Qn 15))]
def f147_c25:MC:=.r0 f147_r25
def f147_r26:List MO:=[Qa (Qv 4) (Qd (Qo (Qp (Qq (Qr Qu (-1))))))]
def f147_c26:MC:=.r0 f147_r26
def f147_r32:List MO:=[Qa (Qv 17) (Qd (Qn 0)),Qa (Qv 18) (Qd (Qn 1)),Qa (Qv 19) (Qe Qt Go.BinOp.gtr (Qn 17) (Qn 18))]
def f147_c32:MC:=.r0 f147_r32
def f147_r33:List MO:=[Qa (Qv 4) (Qd (Qo (Qp (Qq (Qr Qu 1)))))]
def f147_c33:MC:=.r0 f147_r33
def f147_r39:List MO:=[Qa (Qv 4) (Qd (Qo (Qp (Qq (Qr Qu 0)))))]
def f147_c39:MC:=.r0 f147_r39
def f147_c43:MC:=.seq (.seq f147_c25 (.cond (Qn 16) (.seq f147_c26 .ret) .skip)) (.seq (.seq f147_c32 (.cond (Qn 19) (.seq f147_c33 .ret) .skip)) (.seq f147_c39 .ret))
def f147_c45:MC:=.seq f147_c17 (.seq (.seq f147_c18 (.cond (Qn 13) (.seq f147_c19 .ret) .skip)) f147_c43)
def f147_c48:MC:=.seq f147_c0 (.seq f147_c1 (.seq f147_c2 f147_c45))
attribute [go_sem] f147_r0 f147_r1 f147_r2 f147_r3 f147_r4 f147_r5 f147_r11 f147_r18 f147_r19 f147_r25 f147_r26 f147_r32 f147_r33 f147_r39
theorem f147_k : KK QP 147 f147 [] f147_c48 [(RV.t 4)] 20 := by refine ⟨func147,?_,?_,?_,?_⟩<;>kernel_rfl
theorem f147_ok : callable QP 147 = true := by kernel_rfl
theorem f147_in (h : GI QP gp [(RV.t 4)] res 20 f147_c48 args) : Does QP gp 147 args res := f147_k.i f147_ok h
def f148_r0:List MO:=[Qa (Qv 4) (Qd (Qo (Qp (Qq (Qr Qu 0)))))]
def f148_c0:MC:=.r0 f148_r0
def f148_r1:List MO:=[Qa (Qv 7) (Qd (Qn 0)),Qa (Qv 8) (Qh 172 [(Qn 7)]),Qa (Qv 5) (Qd (Qn 8))]
def f148_c1:MC:=.r0 f148_r1
def f148_r2:List MO:=[Qa (Qv 9) (Qd (Qn 1)),Qa (Qv 10) (Qh 172 [(Qn 9)]),Qa (Qv 6) (Qd (Qn 10))]
def f148_c2:MC:=.r0 f148_r2
def f148_r3:List MO:=[Qa (Qv 11) (Qd (Qn 5))]
def f148_c3:MC:=.r0 f148_r3
def f148_r4:List MO:=[Qa (Qv 12) (Qd (Qn 6))]
def f148_c4:MC:=.r0 f148_r4
def f148_r5:List MO:=[Qa (Qv 4) (Qd (Qo (Qp (Qq (Qr Qu 0)))))]
def f148_c5:MC:=.r0 f148_r5
def f148_r11:List MO:=[Qa (Qv 4) (Qd (Qo (Qp (Qq (Qr Qu (-1))))))]
def f148_c11:MC:=.r0 f148_r11
def f148_c17:MC:=.seq f148_c3 (.cond (Qn 11) (.seq (.seq f148_c4 (.cond (Qn 12) (.seq f148_c5 .ret) .skip)) (.seq f148_c11 .ret)) .skip)
def f148_r18:List MO:=[Qa (Qv 13) (Qd (Qn 6))]
def f148_c18:MC:=.r0 f148_r18
def f148_r19:List MO:=[Qa (Qv 4) (Qd (Qo (Qp (Qq (Qr Qu 1)))))]
def f148_c19:MC:=.r0 f148_r19
def f148_r25:List MO:=[Qa (Qv 14) (Qd (Qn 0)),Qa (Qv 15) (Qd (Qn 1)),Qa (Qv 16) (Qe Leaf.s Go.BinOp.lss (Qn 14) (Qn 15))]
def f148_c25:MC:=.r0 f148_r25
def f148_r26:List MO:=[Qa (Qv 4) (Qd (Qo (Qp (Qq (Qr Qu (-1))))))]
def f148_c26:MC:=.r0 f148_r26
def f148_r32:List MO:=[Qa (Qv 17) (Qd (Qn 0)),Qa (Qv 18) (Qd (Qn 1)),Qa (Qv 19) (Qe Leaf.s Go.BinOp.gtr (Qn 17) (Qn 18))]
def f148_c32:MC:=.r0 f148_r32
def f148_r33:List MO:=[Qa (Qv 4) (Qd (Qo (Qp (Qq (Qr Qu 1)))))]
def f148_c33:MC:=.r0 f148_r33
def f148_r39:List MO:=[Qa (Qv 4) (Qd (Qo (Qp (Qq (Qr Qu 0)))))]
def f148_c39:MC:=.r0 f148_r39
def f148_c43:MC:=.seq (.seq f148_c25 (.cond (Qn 16) (.seq f148_c26 .ret) .skip)) (.seq (.seq f148_c32 (.cond (Qn 19) (.seq f148_c33 .ret) .skip)) (.seq f148_c39 .ret))
def f148_c45:MC:=.seq f148_c17 (.seq (.seq f148_c18 (.cond (Qn 13) (.seq f148_c19 .ret) .skip)) f148_c43)
def f148_c48:MC:=.seq f148_c0 (.seq f148_c1 (.seq f148_c2 f148_c45))
attribute [go_sem] f148_r0 f148_r1 f148_r2 f148_r3 f148_r4 f148_r5 f148_r11 f148_r18 f148_r19 f148_r25 f148_r26 f148_r32 f148_r33 f148_r39
theorem f148_k : KK QP 148 f148 [] f148_c48 [(RV.t 4)] 20 := by refine ⟨func148,?_,?_,?_,?_⟩<;>kernel_rfl
theorem f148_ok : callable QP 148 = true := by kernel_rfl
theorem f148_in (h : GI QP gp [(RV.t 4)] res 20 f148_c48 args) : Does QP gp 148 args res := f148_k.i f148_ok h
def f166_r0:List MO:=[Qa (Qv 2) (Qd (Qo (Qp (Qq (Qs false)))))]
def f166_c0:MC:=.r0 f166_r0
def f166_r1:List MO:=[Qa (Qv 3) (Qd (Qn 0)),Qa (Qv 4) (Qh 187 [(Qn 3),(Qo (Qp (Qq (Qs false))))]),Qa (Qv 5) (MOp.not (Qn 4)),Qa (Qv 2) (Qd (Qn 5))]
def f166_c1:MC:=.r0 f166_r1
def f166_c4:MC:=.seq f166_c0 (.seq f166_c1 .ret)
attribute [go_sem] f166_r0 f166_r1
theorem f166_k : KK QP 166 f166 [] f166_c4 [(RV.t 2)] 6 := by refine ⟨func166,?_,?_,?_,?_⟩<;>kernel_rfl
theorem f166_ok : callable QP 166 = true := by kernel_rfl
theorem f166_in (h : GI QP gp [(RV.t 2)] res 6 f166_c4 args) : Does QP gp 166 args res := f166_k.i f166_ok h
def f167_r0:List MO:=[Qa (Qv 1) (MOp.ibox (Qn 0)),Qa (Qv 2) (Qd (Qo (Qp (Qq (Qs false)))))]
def f167_c0:MC:=.r0 f167_r0
def f167_r1:List MO:=[Qa (Qv 4) (MOp.mkF (Go.Fn.func 188) [(Qn 1)]),Qa (Qv 3) (Qd (Qn 4))]
def f167_c1:MC:=.r0 f167_r1
def f167_r2:List MO:=[Qa (Qv 5) (Qg 0 (Qn 1)),Qa (Qv 6) (Qg 5 (Qn 5)),Qa (Qv 7) (Qf 1 false (Qn 6)),Qa (Qv 8) (Qd (Qn 3)),Qa (Qv 9) (Qh 189 [(Qn 7),(Qn 8)]),Qa (Qv 10) (MOp.not (Qn 9)),Qa (Qv 2) (Qd (Qn 10))]
def f167_c2:MC:=.r0 f167_r2
def f167_c6:MC:=.seq f167_c0 (.seq f167_c1 (.seq f167_c2 .ret))
attribute [go_sem] f167_r0 f167_r1 f167_r2
theorem f167_k : KK QP 167 f167 [1] f167_c6 [(RV.t 2)] 11 := by refine ⟨func167,?_,?_,?_,?_⟩<;>kernel_rfl
theorem f167_ok : callable QP 167 = true := by kernel_rfl
theorem f167_in (h : GI QP gp [(RV.t 2)] res 11 f167_c6 args) : Does QP gp 167 args res := f167_k.i f167_ok h
def f168_r0:List MO:=[Qa (Qv 1) (MOp.ibox (Qn 0)),Qa (Qv 2) (Qd (Qo (Qp (Qq (Qs false)))))]
def f168_c0:MC:=.r0 f168_r0
def f168_r1:List MO:=[Qa (Qv 3) (Qd (Qo (Qp (Qq (D.fn (Go.Fn.func 190) [])))))]
def f168_c1:MC:=.r0 f168_r1
def f168_r2:List MO:=[Qa (Qv 4) (Qg 0 (Qn 1)),Qa (Qv 5) (Qg 4 (Qn 4)),Qa (Qv 6) (Qf 1 false (Qn 5)),Qa (Qv 7) (Qd (Qn 3)),Qa (Qv 8) (Qh 191 [(Qn 6),(Qn 7)]),Qa (Qv 9) (MOp.not (Qn 8)),Qa (Qv 10) (Qd (Qn 9)),Qb 10 true (Qv 11),Qa (Qv 11) (Qg 0 (Qn 1)),Qb 10 true (Qv 12),Qa (Qv 12) (Qg 4 (Qn 11)),Qb 10 true (Qv 13),Qa (Qv 13) (Qf 1 false (Qn 12)),Qb 10 true (Qv 14),Qa (Qv 14) (Qh 192 [(Qn 13)]),Qb 10 true (Qv 15),Qa (Qv 15) (MOp.not (Qn 14)),Qa (Qv 16) (Qm (Qn 10) (Qn 15) (Qo (Qp (Qq (Qs false))))),Qa (Qv 2) (Qd (Qn 16))]
def f168_c2:MC:=.r0 f168_r2
def f168_c6:MC:=.seq f168_c0 (.seq f168_c1 (.seq f168_c2 .ret))
attribute [go_sem] f168_r0 f168_r1 f168_r2
theorem f168_k : KK QP 168 f168 [1] f168_c6 [(RV.t 2)] 17 := by refine ⟨func168,?_,?_,?_,?_⟩<;>kernel_rfl
theorem f168_ok : callable QP 168 = true := by kernel_rfl
theorem f168_in (h : GI QP gp [(RV.t 2)] res 17 f168_c6 args) : Does QP gp 168 args res := f168_k.i f168_ok h
def f169_r0:List MO:=[Qa (Qv 10) (Qd (Qn 1)),Qa (Qv 11) (Qe Qt Go.BinOp.add (Qn 10) (Qo (Qp (Qq (Qr Qu 1))))),Qa (Qv 8) (Qd (Qn 11))]
def f169_c0:MC:=.r0 f169_r0
def f169_r1:List MO:=[Qa (Qv 12) (Qd (Qn 8)),Qa (Qv 13) (Qd (Qn 2)),Qa (Qv 14) (Qe Qt Go.BinOp.lss (Qn 12) (Qn 13))]
def f169_c1:MC:=.r0 f169_r1
def f169_r6:List MO:=[Qa (Qv 17) (Qd (Qn 8)),Qa (Qv 9) (Qd (Qn 17))]
def f169_c6:MC:=.r0 f169_r6
def f169_r7:List MO:=[Qa (Qv 18) (Qd (Qn 9)),Qa (Qv 19) (Qd (Qn 1)),Qa (Qv 20) (Qe Qt Go.BinOp.gtr (Qn 18) (Qn 19)),Qa (Qv 21) (Qd (Qn 20)),Qb 21 true (Qv 22),Qa (Qv 22) (Qd (Qn 3)),Qb 21 true (Qv 23),Qa (Qv 23) (Qd (Qn 0)),Qb 21 true (Qv 24),Qa (Qv 24) (Qd (Qn 9)),Qb 21 true (Qv 25),Qa (Qv 25) (Qj 4 (Qn 23) (Qn 24)),Qb 21 true (Qv 26),Qa (Qv 26) (Qf 4 true (Qn 25)),Qb 21 true (Qv 27),Qa (Qv 27) (Qd (Qn 0)),Qb 21 true (Qv 28),Qa (Qv 28) (Qd (Qn 9)),Qb 21 true (Qv 29),Qa (Qv 29) (Qe Qt Go.BinOp.sub (Qn 28) (Qo (Qp (Qq (Qr Qu 1))))),Qb 21 true (Qv 30),Qa (Qv 30) (Qj 4 (Qn 27) (Qn 29)),Qb 21 true (Qv 31),Qa (Qv 31) (Qf 4 true (Qn 30)),Qb 21 true (Qv 32),Qc (Qv 32) (MOp.callv (Qn 22) [(Qn 26),(Qn 31)]),Qb 21 true (Qv 33),Qa (Qv 33) (Qe Qt Go.BinOp.lss (Qn 32) (Qo (Qp (Qq (Qr Qu 0))))),Qa (Qv 34) (Qm (Qn 21) (Qn 33) (Qo (Qp (Qq (Qs false)))))]
def f169_c7:MC:=.reg true f169_r7
def f169_r12:List MO:=[Qa (Qv 37) (Qd (Qn 0)),Qa (Qv 38) (Qd (Qn 9)),Qa (Qv 39) (Qd (Qn 0)),Qa (Qv 40) (Qd (Qn 9)),Qa (Qv 41) (Qe Qt Go.BinOp.sub (Qn 40) (Qo (Qp (Qq (Qr Qu 1))))),Qa (Qv 42) (Qd (Qn 0)),Qa (Qv 43) (Qd (Qn 9)),Qa (Qv 44) (Qe Qt Go.BinOp.sub (Qn 43) (Qo (Qp (Qq (Qr Qu 1))))),Qa (Qv 45) (Qj 4 (Qn 42) (Qn 44)),Qa (Qv 46) (Qf 4 true (Qn 45)),Qa (Qv 47) (Qd (Qn 0)),Qa (Qv 48) (Qd (Qn 9)),Qa (Qv 49) (Qj 4 (Qn 47) (Qn 48)),Qa (Qv 50) (Qf 4 true (Qn 49)),Qa (Qv 51) (Qj 4 (Qn 37) (Qn 38)),Qa none (Ql 4 (Qn 51) (Qn 46)),Qa (Qv 52) (Qj 4 (Qn 39) (Qn 41)),Qa none (Ql 4 (Qn 52) (Qn 50))]
def f169_c12:MC:=.reg true f169_r12
def f169_r14:List MO:=[Qa (Qv 35) (Qd (Qn 9)),Qa (Qv 36) (Qe Qt Go.BinOp.sub (Qn 35) (Qo (Qp (Qq (Qr Qu 1))))),Qa (Qv 9) (Qd (Qn 36))]
def f169_c14:MC:=.r0 f169_r14
def f169_c19:MC:=.seq f169_c6 (.blk 2 (.loop (.seq (.seq f169_c7 (.cond (Qn 34) .skip (MC.exit 2))) (.seq (.blk 3 f169_c12) f169_c14))))
def f169_r21:List MO:=[Qa (Qv 15) (Qd (Qn 8)),Qa (Qv 16) (Qe Qt Go.BinOp.add (Qn 15) (Qo (Qp (Qq (Qr Qu 1))))),Qa (Qv 8) (Qd (Qn 16))]
def f169_c21:MC:=.r0 f169_r21
def f169_c26:MC:=.seq f169_c0 (.blk 0 (.loop (.seq (.seq f169_c1 (.cond (Qn 14) .skip (MC.exit 0))) (.seq (.blk 1 f169_c19) f169_c21))))
attribute [go_sem] f169_r0 f169_r1 f169_r6 f169_r7 f169_r12 f169_r14 f169_r21
theorem f169_k : KK QP 169 f169 [] f169_c26 [] 53 := by refine ⟨func169,?_,?_,?_,?_⟩<;>kernel_rfl
theorem f169_ok : callable QP 169 = true := by kernel_rfl
theorem f169_tri (h : GT QP gp [] pre R 53 f169_c26 args) : Tri QP gp 169 args pre R := f169_k.t h
def f171_r0:List MO:=[Qa (Qv 2) (Qd (Qo (Qp (Qq (Qs false)))))]
def f171_c0:MC:=.r0 f171_r0
def f171_r1:List MO:=[Qa (Qv 3) (Qd (Qn 0)),Qa (Qv 4) (Qd (Qn 0)),Qa (Qv 5) (Qe Qt Go.BinOp.neq (Qn 3) (Qn 4)),Qa (Qv 2) (Qd (Qn 5))]
def f171_c1:MC:=.r0 f171_r1
def f171_c4:MC:=.seq f171_c0 (.seq f171_c1 .ret)
attribute [go_sem] f171_r0 f171_r1
theorem f171_k : KK QP 171 f171 [] f171_c4 [(RV.t 2)] 6 := by refine ⟨func171,?_,?_,?_,?_⟩<;>kernel_rfl
theorem f171_ok : callable QP 171 = true := by kernel_rfl
theorem f171_in (h : GI QP gp [(RV.t 2)] res 6 f171_c4 args) : Does QP gp 171 args res := f171_k.i f171_ok h
def f172_r0:List MO:=[Qa (Qv 2) (Qd (Qo (Qp (Qq (Qs false)))))]
def f172_c0:MC:=.r0 f172_r0
def f172_r1:List MO:=[Qa (Qv 3) (Qd (Qn 0)),Qa (Qv 4) (Qd (Qn 0)),Qa (Qv 5) (Qe Leaf.s Go.BinOp.neq (Qn 3) (Qn 4)),Qa (Qv 2) (Qd (Qn 5))]
def f172_c1:MC:=.r0 f172_r1
def f172_c4:MC:=.seq f172_c0 (.seq f172_c1 .ret)
attribute [go_sem] f172_r0 f172_r1
theorem f172_k : KK QP 172 f172 [] f172_c4 [(RV.t 2)] 6 := by refine ⟨func172,?_,?_,?_,?_⟩<;>kernel_rfl
theorem f172_ok : callable QP 172 = true := by kernel_rfl
theorem f172_in (h : GI QP gp [(RV.t 2)] res 6 f172_c4 args) : Does QP gp 172 args res := f172_k.i f172_ok h
def f187_r0:List MO:=[Qa (Qv 4) (Qd (Qo (Qp (Qq (Qs false)))))]
def f187_c0:MC:=.r0 f187_r0
def f187_r1:List MO:=[Qa (Qv 5) (Qd (Qn 0)),Qa (Qv 6) (Qd (Qn 1)),Qa (Qv 7) (Qh 203 [(Qn 5),(Qn 6)]),Qa (Qv 8) (Qe Qt Go.BinOp.geq (Qn 7) (Qo (Qp (Qq (Qr Qu 0))))),Qa (Qv 4) (Qd (Qn 8))]
def f187_c1:MC:=.r0 f187_r1
def f187_c4:MC:=.seq f187_c0 (.seq f187_c1 .ret)
attribute [go_sem] f187_r0 f187_r1
theorem f187_k : KK QP 187 f187 [] f187_c4 [(RV.t 4)] 9 := by refine ⟨func187,?_,?_,?_,?_⟩<;>kernel_rfl
theorem f187_ok : callable QP 187 = true := by kernel_rfl
theorem f187_in (h : GI QP gp [(RV.t 4)] res 9 f187_c4 args) : Does QP gp 187 args res := f187_k.i f187_ok h
def f188_r0:List MO:=[Qa (Qv 3) (Qd (Qo (Qp (Qq (Qs false)))))]
def f188_c0:MC:=.r0 f188_r0
def f188_r1:List MO:=[Qa (Qv 4) (Qd (Qn 0)),Qa (Qv 5) (Qe Qt Go.BinOp.lss (Qn 4) (Qo (Qp (Qq (Qr Qu 0))))),Qa (Qv 6) (Qd (Qn 5)),Qb 6 false (Qv 7),Qa (Qv 7) (Qd (Qn 0)),Qb 6 false (Qv 8),Qa (Qv 8) (Qg 6 (Qn 1)),Qb 6 false (Qv 9),Qa (Qv 9) (Qf 1 false (Qn 8)),Qb 6 false (Qv 10),Qa (Qv 10) (Qe Qt Go.BinOp.geq (Qn 7) (Qn 9)),Qa (Qv 11) (Qm (Qn 6) (Qo (Qp (Qq (Qs true)))) (Qn 10)),Qa (Qv 3) (Qd (Qn 11))]
def f188_c1:MC:=.r0 f188_r1
def f188_c4:MC:=.seq f188_c0 (.seq f188_c1 .ret)
attribute [go_sem] f188_r0 f188_r1
theorem f188_k : KK QP 188 f188 [] f188_c4 [(RV.t 3)] 12 := by refine ⟨func188,?_,?_,?_,?_⟩<;>kernel_rfl
theorem f188_ok : callable QP 188 = true := by kernel_rfl
theorem f188_in (h : GI QP gp [(RV.t 3)] res 12 f188_c4 args) : Does QP gp 188 args res := f188_k.i f188_ok h
def f189_r0:List MO:=[Qa (Qv 4) (Qd (Qo (Qp (Qq (Qs false)))))]
def f189_c0:MC:=.r0 f189_r0
def f189_r1:List MO:=[Qa (Qv 5) (Qd (Qn 0)),Qa (Qv 6) (Qd (Qn 1)),Qa (Qv 7) (Qh 204 [(Qn 5),(Qn 6)]),Qa (Qv 8) (Qe Qt Go.BinOp.geq (Qn 7) (Qo (Qp (Qq (Qr Qu 0))))),Qa (Qv 4) (Qd (Qn 8))]
def f189_c1:MC:=.r0 f189_r1
def f189_c4:MC:=.seq f189_c0 (.seq f189_c1 .ret)
attribute [go_sem] f189_r0 f189_r1
theorem f189_k : KK QP 189 f189 [] f189_c4 [(RV.t 4)] 9 := by refine ⟨func189,?_,?_,?_,?_⟩<;>kernel_rfl
theorem f189_ok : callable QP 189 = true := by kernel_rfl
theorem f189_in (h : GI QP gp [(RV.t 4)] res 9 f189_c4 args) : Does QP gp 189 args res := f189_k.i f189_ok h
def f190_r0:List MO:=[Qa (Qv 1) (MOp.ibox (Qn 0)),Qa (Qv 2) (Qd (Qo (Qp (Qq (Qs false)))))]
def f190_c0:MC:=.r0 f190_r0
def f190_r1:List MO:=[Qa (Qv 3) (Qf 3 true (Qn 1)),Qa (Qv 4) (Qh 35 [(Qn 3)]),Qa (Qv 5) (MOp.not (Qn 4)),Qa (Qv 2) (Qd (Qn 5))]
def f190_c1:MC:=.r0 f190_r1
def f190_c4:MC:=.seq f190_c0 (.seq f190_c1 .ret)
attribute [go_sem] f190_r0 f190_r1
theorem f190_k : KK QP 190 f190 [1] f190_c4 [(RV.t 2)] 6 := by refine ⟨func190,?_,?_,?_,?_⟩<;>kernel_rfl
theorem f190_ok : callable QP 190 = true := by kernel_rfl
theorem f190_in (h : GI QP gp [(RV.t 2)] res 6 f190_c4 args) : Does QP gp 190 args res := f190_k.i f190_ok h
def f191_r0:List MO:=[Qa (Qv 4) (Qd (Qo (Qp (Qq (Qs false)))))]
def f191_c0:MC:=.r0 f191_r0
def f191_r1:List MO:=[Qa (Qv 5) (Qd (Qn 0)),Qa (Qv 6) (Qd (Qn 1)),Qa (Qv 7) (Qh 205 [(Qn 5),(Qn 6)]),Qa (Qv 8) (Qe Qt Go.BinOp.geq (Qn 7) (Qo (Qp (Qq (Qr Qu 0))))),Qa (Qv 4) (Qd (Qn 8))]
def f191_c1:MC:=.r0 f191_r1
def f191_c4:MC:=.seq f191_c0 (.seq f191_c1 .ret)
attribute [go_sem] f191_r0 f191_r1
theorem f191_k : KK QP 191 f191 [] f191_c4 [(RV.t 4)] 9 := by refine ⟨func191,?_,?_,?_,?_⟩<;>kernel_rfl
theorem f191_ok : callable QP 191 = true := by kernel_rfl
theorem f191_in (h : GI QP gp [(RV.t 4)] res 9 f191_c4 args) : Does QP gp 191 args res := f191_k.i f191_ok h
def f192_r0:List MO:=[Qa (Qv 2) (Qd (Qo (Qp (Qq (Qs false)))))]
def f192_c0:MC:=.r0 f192_r0
def f192_r1:List MO:=[Qa (Qv 3) (MOp.alloc [(Qr Qu 0)]),Qa none (Ql 1 (Qn 3) (Qo (Qp (Qq (Qr Qu 0)))))]
def f192_c1:MC:=.r0 f192_r1
def f192_r2:List MO:=[Qa (Qv 4) (Qd (Qn 0)),Qa (Qv 5) (Qh 206 [(Qn 4)])]
def f192_c2:MC:=.r0 f192_r2
def f192_r4:List MO:=[Qa (Qv 7) (Qf 1 false (Qn 3)),Qa (Qv 8) (Qe Qt Go.BinOp.add (Qn 7) (Qo (Qp (Qq (Qr Qu 1))))),Qa none (Ql 1 (Qn 3) (Qn 8))]
def f192_c4:MC:=.r0 f192_r4
def f192_c6:MC:=.rf (Qn 5) [6] .skip (.blk 1 f192_c4)
def f192_r9:List MO:=[Qa (Qv 9) (Qf 1 false (Qn 3)),Qa (Qv 10) (Qd (Qn 0)),Qa (Qv 11) (Qk Qt (Qn 10)),Qa (Qv 12) (Qe Qt Go.BinOp.lss (Qn 9) (Qn 11)),Qa (Qv 2) (Qd (Qn 12))]
def f192_c9:MC:=.r0 f192_r9
def f192_c13:MC:=.seq f192_c1 (.seq (.seq f192_c2 (.blk 0 f192_c6)) (.seq f192_c9 .ret))
def f192_c14:MC:=.seq f192_c0 f192_c13
attribute [go_sem] f192_r0 f192_r1 f192_r2 f192_r4 f192_r9
theorem f192_k : KK QP 192 f192 [] f192_c14 [(RV.t 2)] 13 := by refine ⟨func192,?_,?_,?_,?_⟩<;>kernel_rfl
theorem f192_ok : callable QP 192 = true := by kernel_rfl
theorem f192_in (h : GI QP gp [(RV.t 2)] res 13 f192_c14 args) : Does QP gp 192 args res := f192_k.i f192_ok h
def f203_r0:List MO:=[Qa (Qv 4) (Qd (Qo (Qp (Qq (Qr Qu 0)))))]
def f203_c0:MC:=.r0 f203_r0
def f203_r1:List MO:=[Qa (Qv 6) (Qd (Qn 0)),Qa (Qv 7) (Qk Qt (Qn 6)),Qa (Qv 8) (Qd (Qo (Qp (Qq (Qr Qu 0)))))]
def f203_c1:MC:=.r0 f203_r1
def f203_r2:List MO:=[Qa (Qv 9) (Qe Qt Go.BinOp.lss (Qn 8) (Qn 7))]
def f203_c2:MC:=.r0 f203_r2
def f203_r6:List MO:=[Qa (Qv 10) (Qd (Qn 8)),Qa (Qv 5) (Qd (Qn 10))]
def f203_c6:MC:=.r0 f203_r6
def f203_r7:List MO:=[Qa (Qv 11) (Qd (Qn 1)),Qa (Qv 12) (Qd (Qn 0)),Qa (Qv 13) (Qd (Qn 5)),Qa (Qv 14) (Qj 1 (Qn 12) (Qn 13)),Qa (Qv 15) (Qf 1 false (Qn 14)),Qa (Qv 16) (Qe Leaf.b Go.BinOp.eql (Qn 11) (Qn 15))]
def f203_c7:MC:=.r0 f203_r7
def f203_r8:List MO:=[Qa (Qv 17) (Qd (Qn 5)),Qa (Qv 4) (Qd (Qn 17))]
def f203_c8:MC:=.r0 f203_r8
def f203_r16:List MO:=[Qa (Qv 18) (Qe Qt Go.BinOp.add (Qn 8) (Qo (Qp (Qq (Qr Qu 1))))),Qa (Qv 8) (Qd (Qn 18))]
def f203_c16:MC:=.r0 f203_r16
def f203_c17:MC:=.seq (.blk 1 (.seq f203_c6 (.seq f203_c7 (.cond (Qn 16) (.seq f203_c8 .ret) .skip)))) f203_c16
def f203_r23:List MO:=[Qa (Qv 4) (Qd (Qo (Qp (Qq (Qr Qu (-1))))))]
def f203_c23:MC:=.r0 f203_r23
def f203_c26:MC:=.seq (.seq f203_c1 (.blk 0 (.loop (.seq f203_c2 (.seq (.cond (Qn 9) .skip (MC.exit 0)) f203_c17))))) (.seq f203_c23 .ret)
def f203_c27:MC:=.seq f203_c0 f203_c26
attribute [go_sem] f203_r0 f203_r1 f203_r2 f203_r6 f203_r7 f203_r8 f203_r16 f203_r23
theorem f203_k : KK QP 203 f203 [] f203_c27 [(RV.t 4)] 19 := by refine ⟨func203,?_,?_,?_,?_⟩<;>kernel_rfl
theorem f203_ok : callable QP 203 = true := by kernel_rfl
theorem f203_in (h : GI QP gp [(RV.t 4)] res 19 f203_c27 args) : Does QP gp 203 args res := f203_k.i f203_ok h
def f204_r0:List MO:=[Qa (Qv 4) (Qd (Qo (Qp (Qq (Qr Qu 0)))))]
def f204_c0:MC:=.r0 f204_r0
def f204_r1:List MO:=[Qa (Qv 6) (Qd (Qn 0)),Qa (Qv 7) (Qk Qt (Qn 6)),Qa (Qv 8) (Qd (Qo (Qp (Qq (Qr Qu 0)))))]
def f204_c1:MC:=.r0 f204_r1
def f204_r2:List MO:=[Qa (Qv 9) (Qe Qt Go.BinOp.lss (Qn 8) (Qn 7))]
def f204_c2:MC:=.r0 f204_r2
def f204_r6:List MO:=[Qa (Qv 10) (Qd (Qn 8)),Qa (Qv 5) (Qd (Qn 10))]
def f204_c6:MC:=.r0 f204_r6
def f204_r7:List MO:=[Qa (Qv 11) (Qd (Qn 1)),Qa (Qv 12) (Qd (Qn 0)),Qa (Qv 13) (Qd (Qn 5)),Qa (Qv 14) (Qj 1 (Qn 12) (Qn 13)),Qa (Qv 15) (Qf 1 false (Qn 14)),Qa (Qv 16) (MOp.callv (Qn 11) [(Qn 15)])]
def f204_c7:MC:=.r0 f204_r7
def f204_r8:List MO:=[Qa (Qv 17) (Qd (Qn 5)),Qa (Qv 4) (Qd (Qn 17))]
def f204_c8:MC:=.r0 f204_r8
def f204_r16:List MO:=[Qa (Qv 18) (Qe Qt Go.BinOp.add (Qn 8) (Qo (Qp (Qq (Qr Qu 1))))),Qa (Qv 8) (Qd (Qn 18))]
def f204_c16:MC:=.r0 f204_r16
def f204_c17:MC:=.seq (.blk 1 (.seq f204_c6 (.seq f204_c7 (.cond (Qn 16) (.seq f204_c8 .ret) .skip)))) f204_c16
def f204_r23:List MO:=[Qa (Qv 4) (Qd (Qo (Qp (Qq (Qr Qu (-1))))))]
def f204_c23:MC:=.r0 f204_r23
def f204_c26:MC:=.seq (.seq f204_c1 (.blk 0 (.loop (.seq f204_c2 (.seq (.cond (Qn 9) .skip (MC.exit 0)) f204_c17))))) (.seq f204_c23 .ret)
def f204_c27:MC:=.seq f204_c0 f204_c26
attribute [go_sem] f204_r0 f204_r1 f204_r2 f204_r6 f204_r7 f204_r8 f204_r16 f204_r23
theorem f204_k : KK QP 204 f204 [] f204_c27 [(RV.t 4)] 19 := by refine ⟨func204,?_,?_,?_,?_⟩<;>kernel_rfl
theorem f204_ok : callable QP 204 = true := by kernel_rfl
theorem f204_in (h : GI QP gp [(RV.t 4)] res 19 f204_c27 args) : Does QP gp 204 args res := f204_k.i f204_ok h
def f205_r0:List MO:=[Qa (Qv 4) (Qd (Qo (Qp (Qq (Qr Qu 0)))))]
def f205_c0:MC:=.r0 f205_r0
def f205_r1:List MO:=[Qa (Qv 6) (Qd (Qn 0)),Qa (Qv 7) (Qk Qt (Qn 6)),Qa (Qv 8) (Qd (Qo (Qp (Qq (Qr Qu 0)))))]
def f205_c1:MC:=.r0 f205_r1
def f205_r2:List MO:=[Qa (Qv 9) (Qe Qt Go.BinOp.lss (Qn 8) (Qn 7))]
def f205_c2:MC:=.r0 f205_r2
def f205_r6:List MO:=[Qa (Qv 10) (Qd (Qn 8)),Qa (Qv 5) (Qd (Qn 10))]
def f205_c6:MC:=.r0 f205_r6
def f205_r7:List MO:=[Qa (Qv 11) (Qd (Qn 1)),Qa (Qv 12) (Qd (Qn 0)),Qa (Qv 13) (Qd (Qn 5)),Qa (Qv 14) (Qj 3 (Qn 12) (Qn 13)),Qa (Qv 15) (Qf 3 true (Qn 14)),Qa (Qv 16) (MOp.callv (Qn 11) [(Qn 15)])]
def f205_c7:MC:=.r0 f205_r7
def f205_r8:List MO:=[Qa (Qv 17) (Qd (Qn 5)),Qa (Qv 4) (Qd (Qn 17))]
def f205_c8:MC:=.r0 f205_r8
def f205_r16:List MO:=[Qa (Qv 18) (Qe Qt Go.BinOp.add (Qn 8) (Qo (Qp (Qq (Qr Qu 1))))),Qa (Qv 8) (Qd (Qn 18))]
def f205_c16:MC:=.r0 f205_r16
def f205_c17:MC:=.seq (.blk 1 (.seq f205_c6 (.seq f205_c7 (.cond (Qn 16) (.seq f205_c8 .ret) .skip)))) f205_c16
def f205_r23:List MO:=[Qa (Qv 4) (Qd (Qo (Qp (Qq (Qr Qu (-1))))))]
def f205_c23:MC:=.r0 f205_r23
def f205_c26:MC:=.seq (.seq f205_c1 (.blk 0 (.loop (.seq f205_c2 (.seq (.cond (Qn 9) .skip (MC.exit 0)) f205_c17))))) (.seq f205_c23 .ret)
def f205_c27:MC:=.seq f205_c0 f205_c26
attribute [go_sem] f205_r0 f205_r1 f205_r2 f205_r6 f205_r7 f205_r8 f205_r16 f205_r23
theorem f205_k : KK QP 205 f205 [] f205_c27 [(RV.t 4)] 19 := by refine ⟨func205,?_,?_,?_,?_⟩<;>kernel_rfl
theorem f205_ok : callable QP 205 = true := by kernel_rfl
theorem f205_in (h : GI QP gp [(RV.t 4)] res 19 f205_c27 args) : Does QP gp 205 args res := f205_k.i f205_ok h
def f206_r0:List MO:=[Qa (Qv 1) (MOp.ibox (Qn 0)),Qa (Qv 2) (Qd (Qo (Qp (Qq D.nilF))))]
def f206_c0:MC:=.r0 f206_r0
def f206_r1:List MO:=[Qa (Qv 3) (MOp.mkF (Go.Fn.func 208) [(Qn 1)]),Qa (Qv 2) (Qd (Qn 3))]
def f206_c1:MC:=.r0 f206_r1
def f206_c4:MC:=.seq f206_c0 (.seq f206_c1 .ret)
attribute [go_sem] f206_r0 f206_r1
theorem f206_k : KK QP 206 f206 [1] f206_c4 [(RV.t 2)] 4 := by refine ⟨func206,?_,?_,?_,?_⟩<;>kernel_rfl
theorem f206_ok : callable QP 206 = true := by kernel_rfl
theorem f206_in (h : GI QP gp [(RV.t 2)] res 4 f206_c4 args) : Does QP gp 206 args res := f206_k.i f206_ok h
def f208_r0:List MO:=[Qa (Qv 6) MOp.mkM,Qa (Qv 3) (Qd (Qn 6))]
def f208_c0:MC:=.r0 f208_r0
def f208_r2:List MO:=[Qa (Qv 7) (Qf 1 false (Qn 1)),Qa (Qv 8) (Qk Qt (Qn 7)),Qa (Qv 9) (Qd (Qo (Qp (Qq (Qr Qu 0)))))]
def f208_c2:MC:=.r0 f208_r2
def f208_r3:List MO:=[Qa (Qv 10) (Qe Qt Go.BinOp.lss (Qn 9) (Qn 8))]
def f208_c3:MC:=.r0 f208_r3
def f208_r7:List MO:=[Qa (Qv 11) (Qj 3 (Qn 7) (Qn 9)),Qa (Qv 12) (Qf 3 true (Qn 11)),Qa (Qv 5) (MOp.alloc [(Qr Qu 0),(Qr Qu 0),(D.str (ByteArray.mk #[]))]),Qa none (Ql 3 (Qn 5) (Qn 12))]
def f208_c7:MC:=.r0 f208_r7
def f208_r8:List MO:=[Qa (Qv 13) (Qd (Qn 3)),Qa (Qv 14) (Qf 3 true (Qn 5)),Qa (Qv 15) (MOp.lkp false (Qp (Qq (Qs false))) true [Qt,Qt,Leaf.s] (Qn 13) (Qn 14)),Qa (Qv 16) (Qd (Qn 15)),Qb 16 false (Qv 17),Qa (Qv 17) (Qd (Qn 0)),Qb 16 false (Qv 18),Qa (Qv 18) (Qf 3 true (Qn 5)),Qb 16 false (Qv 19),Qa (Qv 19) (MOp.callv (Qn 17) [(Qn 18)]),Qb 16 false (Qv 20),Qa (Qv 20) (MOp.not (Qn 19)),Qa (Qv 21) (Qm (Qn 16) (Qo (Qp (Qq (Qs true)))) (Qn 20))]
def f208_c8:MC:=.r0 f208_r8
def f208_r13:List MO:=[Qa (Qv 22) (Qd (Qn 3)),Qa (Qv 23) (Qf 3 true (Qn 5)),Qa none (MOp.mupd true [Qt,Qt,Leaf.s] (Qn 22) (Qn 23) (Qo (Qp (Qq (Qs true)))))]
def f208_c13:MC:=.r0 f208_r13
def f208_r17:List MO:=[Qa (Qv 24) (Qe Qt Go.BinOp.add (Qn 9) (Qo (Qp (Qq (Qr Qu 1))))),Qa (Qv 9) (Qd (Qn 24))]
def f208_c17:MC:=.r0 f208_r17
def f208_c18:MC:=.seq (.blk 1 (.seq f208_c7 (.seq (.seq f208_c8 (.cond (Qn 21) (MC.exit 0) .skip)) f208_c13))) f208_c17
def f208_c25:MC:=.seq f208_c0 (.seq .skip (.seq f208_c2 (.blk 0 (.loop (.seq f208_c3 (.seq (.cond (Qn 10) .skip (MC.exit 0)) f208_c18))))))
def f208_c26:MC:=.scope f208_c25
attribute [go_sem] f208_r0 f208_r2 f208_r3 f208_r7 f208_r8 f208_r13 f208_r17
theorem f208_k : KK QP 208 f208 [] f208_c26 [] 25 := by refine ⟨func208,?_,?_,?_,?_⟩<;>kernel_rfl
theorem f208_ok : callable QP 208 = true := by kernel_rfl
theorem f208_tri (h : GT QP gp [] pre R 25 f208_c26 args) : Tri QP gp 208 args pre R := f208_k.t h
def f228_r0:List MO:=[Qa (Qv 2) (Qd (Qo (Qp (Qq (D.str (ByteArray.mk #[]))))))]
def f228_c0:MC:=.r0 f228_r0
def f228_r1:List MO:=[Qa (Qv 3) (Qd (Qn 0)),Qa (Qv 4) (Qe Leaf.s Go.BinOp.add (Qo (Qp (Qq (D.str (ByteArray.mk #[32]))))) (Qn 3)),Qa (Qv 2) (Qd (Qn 4))]
def f228_c1:MC:=.r0 f228_r1
def f228_c4:MC:=.seq f228_c0 (.seq f228_c1 .ret)
attribute [go_sem] f228_r0 f228_r1
theorem f228_k : KK QP 228 f228 [] f228_c4 [(RV.t 2)] 5 := by refine ⟨func228,?_,?_,?_,?_⟩<;>kernel_rfl
theorem f228_ok : callable QP 228 = true := by kernel_rfl
theorem f228_in (h : GI QP gp [(RV.t 2)] res 5 f228_c4 args) : Does QP gp 228 args res := f228_k.i f228_ok h
def f229_r0:List MO:=[Qa (Qv 1) (MOp.ibox (Qn 0)),Qa (Qv 2) (Qd (Qo (Qp (Qq (D.str (ByteArray.mk #[]))))))]
def f229_c0:MC:=.r0 f229_r0
def f229_r1:List MO:=[Qa (Qv 3) (Qg 1 (Qn 1)),Qa (Qv 4) (Qf 1 false (Qn 3)),Qa (Qv 5) (Qe Leaf.s Go.BinOp.eql (Qn 4) (Qo (Qp (Qq (D.str (ByteArray.mk #[]))))))]
def f229_c1:MC:=.r0 f229_r1
def f229_r2:List MO:=[Qa (Qv 2) (Qd (Qo (Qp (Qq (D.str (ByteArray.mk #[]))))))]
def f229_c2:MC:=.r0 f229_r2
def f229_r8:List MO:=[Qa (Qv 6) (Qg 1 (Qn 1)),Qa (Qv 7) (Qf 1 false (Qn 6)),Qa (Qv 8) (Qe Leaf.s Go.BinOp.add (Qo (Qp (Qq (D.str (ByteArray.mk #[32,38]))))) (Qn 7)),Qa (Qv 2) (Qd (Qn 8))]
def f229_c8:MC:=.r0 f229_r8
def f229_c12:MC:=.seq f229_c0 (.seq (.seq f229_c1 (.cond (Qn 5) (.seq f229_c2 .ret) .skip)) (.seq f229_c8 .ret))
attribute [go_sem] f229_r0 f229_r1 f229_r2 f229_r8
theorem f229_k : KK QP 229 f229 [1] f229_c12 [(RV.t 2)] 9 := by refine ⟨func229,?_,?_,?_,?_⟩<;>kernel_rfl
theorem f229_ok : callable QP 229 = true := by kernel_rfl
theorem f229_in (h : GI QP gp [(RV.t 2)] res 9 f229_c12 args) : Does QP gp 229 args res := f229_k.i f229_ok h
end Go.Fw.L07
