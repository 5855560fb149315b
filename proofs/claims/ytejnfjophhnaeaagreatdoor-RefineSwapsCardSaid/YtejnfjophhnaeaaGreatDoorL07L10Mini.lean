/- Small codes. -/
import Derived.Test.YtejnfjophhnaeaaGreatDoorFd
import Derived.Test.YtejnfjophhnaeaaGreatDoorProg
set_option linter.all false
namespace Go.Fw.L07
open Go Go.Fw
open Go.Proofs.Tryz renaming prog -> QP
open Go.Proofs.Tryz (f12 f125 f14 f16 f18 f37 f38 f41 f43 f45 f5 f71 f73 f74 f75 f97 func12 func125 func14 func16 func18 func37 func38 func41 func43 func45 func5 func71 func73 func74 func75 func97)
open Go.Fw.MO renaming op -> Qa,chk -> Qb,opx -> Qc
open Go.Fw.MOp renaming mv -> Qd,bin -> Qe,load -> Qf,fad -> Qg,call -> Qh,ext -> Qi,iad -> Qj,len -> Qk,store -> Ql,pick -> Qm
open Go.Fw.Opd renaming t -> Qn,c -> Qo
open Go.Fw.V renaming one -> Qp
open Go.Fw.A renaming d -> Qq
open Go.Fw.D renaming int -> Qr,bool -> Qs
open Go.Fw.Leaf renaming i -> Qt
open Go.IntKind renaming i64 -> Qu
open Option renaming some -> Qv
variable {gp : Heap} {args : List V} {res : V} {pre : List Ch} {R : V -> List Ch -> Prop}
def f5_r0:List MO:=[Qa (Qv 4) (MOp.box (Qn 0)),Qa (Qv 8) (Qd (Qo (Qp (Qq (Qs false)))))]
def f5_c0:MC:=.r0 f5_r0
def f5_r1:List MO:=[Qa (Qv 20) (Qh 12 []),Qa (Qv 9) (Qd (Qn 20))]
def f5_c1:MC:=.r0 f5_r1
def f5_r2:List MO:=[Qa (Qv 21) (Qf 2 true (Qn 4)),Qa (Qv 22) (Qh 13 [(Qn 21),(Qo (Qp (Qq (Qr Qu 30))))]),Qa none (Ql 2 (Qn 4) (Qn 22))]
def f5_c2:MC:=.r0 f5_r2
def f5_r3:List MO:=[Qa (Qv 24) (Qf 2 true (Qn 4)),Qa (Qv 25) (Qh 14 [(Qn 24)]),Qa (Qv 23) (Qd (Qn 25)),Qa (Qv 26) (Qi (Qn 23) 0),Qa (Qv 27) (Qi (Qn 23) 1),Qa (Qv 10) (Qd (Qn 26)),Qa (Qv 11) (Qd (Qn 27))]
def f5_c3:MC:=.r0 f5_r3
def f5_r4:List MO:=[Qa (Qv 28) (Qd (Qn 11)),Qa (Qv 29) (Qe Qt Go.BinOp.neq (Qn 28) (Qo (Qp (Qq (Qr Qu 0))))),Qa (Qv 30) (Qd (Qn 29)),Qb 30 false (Qv 31),Qa (Qv 31) (Qd (Qn 10)),Qb 30 false (Qv 32),Qa (Qv 32) (Qk Qt (Qn 31)),Qb 30 false (Qv 33),Qa (Qv 33) (Qg 1 (Qn 4)),Qb 30 false (Qv 34),Qa (Qv 34) (Qf 1 false (Qn 33)),Qb 30 false (Qv 35),Qa (Qv 35) (Qk Qt (Qn 34)),Qb 30 false (Qv 36),Qa (Qv 36) (Qe Qt Go.BinOp.neq (Qn 32) (Qn 35)),Qa (Qv 37) (Qm (Qn 30) (Qo (Qp (Qq (Qs true)))) (Qn 36)),Qa (Qv 38) (Qd (Qn 37)),Qb 38 false (Qv 39),Qa (Qv 39) (Qd (Qn 1)),Qb 38 false (Qv 40),Qa (Qv 40) (Qe Qt Go.BinOp.lss (Qn 39) (Qo (Qp (Qq (Qr Qu 0))))),Qa (Qv 41) (Qm (Qn 38) (Qo (Qp (Qq (Qs true)))) (Qn 40)),Qa (Qv 42) (Qd (Qn 41)),Qb 42 false (Qv 43),Qa (Qv 43) (Qd (Qn 1)),Qb 42 false (Qv 44),Qa (Qv 44) (Qd (Qn 10)),Qb 42 false (Qv 45),Qa (Qv 45) (Qk Qt (Qn 44)),Qb 42 false (Qv 46),Qa (Qv 46) (Qe Qt Go.BinOp.geq (Qn 43) (Qn 45)),Qa (Qv 47) (Qm (Qn 42) (Qo (Qp (Qq (Qs true)))) (Qn 46)),Qa (Qv 48) (Qd (Qn 47)),Qb 48 false (Qv 49),Qa (Qv 49) (Qd (Qn 2)),Qb 48 false (Qv 50),Qa (Qv 50) (Qe Qt Go.BinOp.lss (Qn 49) (Qo (Qp (Qq (Qr Qu 0))))),Qa (Qv 51) (Qm (Qn 48) (Qo (Qp (Qq (Qs true)))) (Qn 50)),Qa (Qv 52) (Qd (Qn 51)),Qb 52 false (Qv 53),Qa (Qv 53) (Qd (Qn 2)),Qb 52 false (Qv 54),Qa (Qv 54) (Qg 1 (Qn 4)),Qb 52 false (Qv 55),Qa (Qv 55) (Qf 1 false (Qn 54)),Qb 52 false (Qv 56),Qa (Qv 56) (Qd (Qn 1)),Qb 52 false (Qv 57),Qa (Qv 57) (Qj 6 (Qn 55) (Qn 56)),Qb 52 false (Qv 58),Qa (Qv 58) (Qg 5 (Qn 57)),Qb 52 false (Qv 59),Qa (Qv 59) (Qf 1 false (Qn 58)),Qb 52 false (Qv 60),Qa (Qv 60) (Qk Qt (Qn 59)),Qb 52 false (Qv 61),Qa (Qv 61) (Qe Qt Go.BinOp.geq (Qn 53) (Qn 60)),Qa (Qv 62) (Qm (Qn 52) (Qo (Qp (Qq (Qs true)))) (Qn 61)),Qa (Qv 63) (Qd (Qn 62)),Qb 63 false (Qv 64),Qa (Qv 64) (Qd (Qn 3)),Qb 63 false (Qv 65),Qa (Qv 65) (Qe Qt Go.BinOp.lss (Qn 64) (Qo (Qp (Qq (Qr Qu 0))))),Qa (Qv 66) (Qm (Qn 63) (Qo (Qp (Qq (Qs true)))) (Qn 65)),Qa (Qv 67) (Qd (Qn 66)),Qb 67 false (Qv 68),Qa (Qv 68) (Qd (Qn 3)),Qb 67 false (Qv 69),Qa (Qv 69) (Qd (Qn 10)),Qb 67 false (Qv 70),Qa (Qv 70) (Qk Qt (Qn 69)),Qb 67 false (Qv 71),Qa (Qv 71) (Qe Qt Go.BinOp.geq (Qn 68) (Qn 70)),Qa (Qv 72) (Qm (Qn 67) (Qo (Qp (Qq (Qs true)))) (Qn 71))]
def f5_c4:MC:=.r0 f5_r4
def f5_r5:List MO:=[Qa (Qv 73) (Qd (Qn 9)),Qa (Qv 74) (Qd (Qn 73)),Qb 74 true (Qv 75),Qa (Qv 75) (Qd (Qn 11)),Qb 74 true (Qv 76),Qa (Qv 76) (Qe Qt Go.BinOp.neq (Qn 75) (Qo (Qp (Qq (Qr Qu 0))))),Qb 74 true (Qv 77),Qa (Qv 77) (Qd (Qn 76)),Qb 77 false (Qv 78),Qa (Qv 78) (Qd (Qn 10)),Qb 77 false (Qv 79),Qa (Qv 79) (Qk Qt (Qn 78)),Qb 77 false (Qv 80),Qa (Qv 80) (Qg 1 (Qn 4)),Qb 77 false (Qv 81),Qa (Qv 81) (Qf 1 false (Qn 80)),Qb 77 false (Qv 82),Qa (Qv 82) (Qk Qt (Qn 81)),Qb 77 false (Qv 83),Qa (Qv 83) (Qe Qt Go.BinOp.eql (Qn 79) (Qn 82)),Qb 74 true (Qv 84),Qa (Qv 84) (Qm (Qn 77) (Qo (Qp (Qq (Qs true)))) (Qn 83)),Qa (Qv 85) (Qm (Qn 74) (Qn 84) (Qo (Qp (Qq (Qs false))))),Qa (Qv 8) (Qd (Qn 85))]
def f5_c5:MC:=.r0 f5_r5
def f5_r11:List MO:=[Qa (Qv 86) (Qg 0 (Qn 4)),Qa (Qv 87) (Qf 1 false (Qn 86)),Qa (Qv 88) (MOp.build [(Qr Qu 0),(D.sl [])] [(0,(1,(Qn 87)))]),Qa (Qv 12) (MOp.alloc [(Qr Qu 0),(D.sl [])]),Qa none (Ql 2 (Qn 12) (Qn 88))]
def f5_c11:MC:=.r0 f5_r11
def f5_r12:List MO:=[Qa (Qv 13) (Qd (Qo (Qp (Qq (Qr Qu 0)))))]
def f5_c12:MC:=.r0 f5_r12
def f5_r13:List MO:=[Qa (Qv 89) (Qd (Qn 13)),Qa (Qv 90) (Qg 1 (Qn 4)),Qa (Qv 91) (Qf 1 false (Qn 90)),Qa (Qv 92) (Qk Qt (Qn 91)),Qa (Qv 93) (Qe Qt Go.BinOp.lss (Qn 89) (Qn 92))]
def f5_c13:MC:=.r0 f5_r13
def f5_r18:List MO:=[Qa (Qv 96) (Qg 1 (Qn 4)),Qa (Qv 97) (Qf 1 false (Qn 96)),Qa (Qv 98) (Qd (Qn 13)),Qa (Qv 99) (Qj 6 (Qn 97) (Qn 98)),Qa (Qv 100) (Qg 0 (Qn 99)),Qa (Qv 101) (Qf 1 false (Qn 100)),Qa (Qv 102) (Qg 1 (Qn 4)),Qa (Qv 103) (Qf 1 false (Qn 102)),Qa (Qv 104) (Qd (Qn 13)),Qa (Qv 105) (Qj 6 (Qn 103) (Qn 104)),Qa (Qv 106) (Qg 1 (Qn 105)),Qa (Qv 107) (Qf 3 true (Qn 106)),Qa (Qv 108) (Qg 1 (Qn 4)),Qa (Qv 109) (Qf 1 false (Qn 108)),Qa (Qv 110) (Qd (Qn 13)),Qa (Qv 111) (Qj 6 (Qn 109) (Qn 110)),Qa (Qv 112) (Qg 4 (Qn 111)),Qa (Qv 113) (Qf 1 false (Qn 112)),Qa (Qv 114) (MOp.build [(Qr Qu 0),(Qr Qu 0),(Qr Qu 0),(D.str (ByteArray.mk #[])),(D.sl []),(D.sl [])] [(0,(1,(Qn 101))),(1,(3,(Qn 107))),(4,(1,(Qn 113)))]),Qa (Qv 14) (MOp.alloc [(Qr Qu 0),(Qr Qu 0),(Qr Qu 0),(D.str (ByteArray.mk #[])),(D.sl []),(D.sl [])]),Qa none (Ql 6 (Qn 14) (Qn 114))]
def f5_c18:MC:=.reg true f5_r18
def f5_r19:List MO:=[Qa (Qv 115) (Qg 5 (Qn 14)),Qa (Qv 116) (Qf 1 false (Qn 115)),Qa (Qv 117) (Qg 1 (Qn 4)),Qa (Qv 118) (Qf 1 false (Qn 117)),Qa (Qv 119) (Qd (Qn 13)),Qa (Qv 120) (Qj 6 (Qn 118) (Qn 119)),Qa (Qv 121) (Qg 5 (Qn 120)),Qa (Qv 122) (Qf 1 false (Qn 121)),Qa (Qv 123) (MOp.app 3 1 8 (Qn 116) (Qn 122)),Qa (Qv 124) (Qg 5 (Qn 14)),Qa none (Ql 1 (Qn 124) (Qn 123))]
def f5_c19:MC:=.reg true f5_r19
def f5_r20:List MO:=[Qa (Qv 125) (Qg 1 (Qn 12)),Qa (Qv 126) (Qf 1 false (Qn 125)),Qa (Qv 127) (Qf 6 true (Qn 14)),Qa (Qv 128) (MOp.bslice 6 [(Qr Qu 0),(Qr Qu 0),(Qr Qu 0),(D.str (ByteArray.mk #[])),(D.sl []),(D.sl [])] 1 [(0,(Qn 127))]),Qa (Qv 129) (MOp.app 44 6 88 (Qn 126) (Qn 128)),Qa (Qv 130) (Qg 1 (Qn 12)),Qa none (Ql 1 (Qn 130) (Qn 129))]
def f5_c20:MC:=.r0 f5_r20
def f5_r24:List MO:=[Qa (Qv 94) (Qd (Qn 13)),Qa (Qv 95) (Qe Qt Go.BinOp.add (Qn 94) (Qo (Qp (Qq (Qr Qu 1))))),Qa (Qv 13) (Qd (Qn 95))]
def f5_c24:MC:=.r0 f5_r24
def f5_c25:MC:=.seq (.blk 1 (.seq f5_c18 (.seq f5_c19 f5_c20))) f5_c24
def f5_r30:List MO:=[Qa (Qv 131) (Qg 1 (Qn 12)),Qa (Qv 132) (Qf 1 false (Qn 131)),Qa (Qv 133) (Qd (Qn 1)),Qa (Qv 134) (Qj 6 (Qn 132) (Qn 133)),Qa (Qv 135) (Qg 5 (Qn 134)),Qa (Qv 136) (Qf 1 false (Qn 135)),Qa (Qv 137) (Qd (Qn 2)),Qa (Qv 138) (Qj 1 (Qn 136) (Qn 137)),Qa (Qv 139) (Qf 1 false (Qn 138)),Qa (Qv 15) (Qd (Qn 139))]
def f5_c30:MC:=.r0 f5_r30
def f5_r31:List MO:=[Qa (Qv 140) (Qg 1 (Qn 12)),Qa (Qv 141) (Qf 1 false (Qn 140)),Qa (Qv 142) (Qd (Qn 1)),Qa (Qv 143) (Qj 6 (Qn 141) (Qn 142)),Qa (Qv 144) (Qg 5 (Qn 143)),Qa (Qv 145) (Qf 1 false (Qn 144)),Qa (Qv 146) (Qd (Qn 2)),Qa (Qv 147) (Qd (Qn 3)),Qa (Qv 148) (Qj 1 (Qn 145) (Qn 146)),Qa none (Ql 1 (Qn 148) (Qn 147))]
def f5_c31:MC:=.r0 f5_r31
def f5_r32:List MO:=[Qa (Qv 150) (Qf 2 true (Qn 12)),Qa (Qv 151) (Qh 14 [(Qn 150)]),Qa (Qv 149) (Qd (Qn 151)),Qa (Qv 152) (Qi (Qn 149) 0),Qa (Qv 153) (Qi (Qn 149) 1),Qa (Qv 16) (Qd (Qn 152)),Qa (Qv 17) (Qd (Qn 153))]
def f5_c32:MC:=.r0 f5_r32
def f5_r33:List MO:=[Qa (Qv 155) (Qf 2 true (Qn 4)),Qa (Qv 156) (Qf 2 true (Qn 12)),Qa (Qv 157) (Qh 16 [(Qn 155),(Qn 156)]),Qa (Qv 154) (Qd (Qn 157)),Qa (Qv 158) (Qi (Qn 154) 0),Qa (Qv 159) (Qi (Qn 154) 1),Qa (Qv 18) (Qd (Qn 158)),Qa (Qv 19) (Qd (Qn 159))]
def f5_c33:MC:=.r0 f5_r33
def f5_r34:List MO:=[Qa (Qv 160) (Qd (Qn 9)),Qa (Qv 161) (Qd (Qn 160)),Qb 161 true (Qv 162),Qa (Qv 162) (Qd (Qn 17)),Qb 161 true (Qv 163),Qa (Qv 163) (Qe Qt Go.BinOp.eql (Qn 162) (Qo (Qp (Qq (Qr Qu 0))))),Qa (Qv 164) (Qm (Qn 161) (Qn 163) (Qo (Qp (Qq (Qs false))))),Qa (Qv 165) (Qd (Qn 164)),Qb 165 true (Qv 166),Qa (Qv 166) (Qd (Qn 19)),Qb 165 true (Qv 167),Qa (Qv 167) (Qe Qt Go.BinOp.eql (Qn 166) (Qo (Qp (Qq (Qr Qu 0))))),Qa (Qv 168) (Qm (Qn 165) (Qn 167) (Qo (Qp (Qq (Qs false))))),Qa (Qv 169) (Qd (Qn 168)),Qb 169 true (Qv 170),Qa (Qv 170) (Qd (Qn 10)),Qb 169 true (Qv 171),Qa (Qv 171) (Qd (Qn 15)),Qb 169 true (Qv 172),Qa (Qv 172) (Qj 1 (Qn 170) (Qn 171)),Qb 169 true (Qv 173),Qa (Qv 173) (Qf 1 false (Qn 172)),Qb 169 true (Qv 174),Qa (Qv 174) (Qd (Qn 10)),Qb 169 true (Qv 175),Qa (Qv 175) (Qd (Qn 3)),Qb 169 true (Qv 176),Qa (Qv 176) (Qj 1 (Qn 174) (Qn 175)),Qb 169 true (Qv 177),Qa (Qv 177) (Qf 1 false (Qn 176)),Qb 169 true (Qv 178),Qa (Qv 178) (Qe Qt Go.BinOp.neq (Qn 173) (Qn 177)),Qb 169 true (Qv 179),Qa (Qv 179) (Qd (Qn 178)),Qb 179 false (Qv 180),Qa (Qv 180) (Qd (Qn 18)),Qb 179 false (Qv 181),Qa (Qv 181) (Qd (Qn 180)),Qb 181 true (Qv 182),Qa (Qv 182) (Qd (Qn 10)),Qb 181 true (Qv 183),Qa (Qv 183) (Qd (Qn 16)),Qb 181 true (Qv 184),Qc (Qv 184) (Qh 20 [(Qn 182),(Qn 183)]),Qb 179 false (Qv 185),Qa (Qv 185) (Qm (Qn 181) (Qn 184) (Qo (Qp (Qq (Qs false))))),Qb 169 true (Qv 186),Qa (Qv 186) (Qm (Qn 179) (Qo (Qp (Qq (Qs true)))) (Qn 185)),Qa (Qv 187) (Qm (Qn 169) (Qn 186) (Qo (Qp (Qq (Qs false))))),Qa (Qv 8) (Qd (Qn 187))]
def f5_c34:MC:=.reg true f5_r34
def f5_c39:MC:=.seq f5_c31 (.seq f5_c32 (.seq f5_c33 (.seq f5_c34 .ret)))
def f5_c41:MC:=.seq (.seq f5_c12 (.blk 0 (.loop (.seq (.seq f5_c13 (.cond (Qn 93) .skip (MC.exit 0))) f5_c25)))) (.seq f5_c30 f5_c39)
def f5_c43:MC:=.seq (.seq f5_c4 (.cond (Qn 72) (.seq f5_c5 .ret) .skip)) (.seq f5_c11 f5_c41)
def f5_c46:MC:=.seq f5_c1 (.seq f5_c2 (.seq f5_c3 f5_c43))
def f5_c47:MC:=.seq f5_c0 f5_c46
attribute [go_sem] f5_r0 f5_r1 f5_r2 f5_r3 f5_r4 f5_r5 f5_r11 f5_r12 f5_r13 f5_r18 f5_r19 f5_r20 f5_r24 f5_r30 f5_r31 f5_r32 f5_r33 f5_r34
theorem f5_k : KK QP 5 f5 [] f5_c47 [(RV.t 8)] 188 := by refine ⟨func5,?_,?_,?_,?_⟩<;>kernel_rfl
theorem f5_ok : callable QP 5 = true := by kernel_rfl
theorem f5_in (h : GI QP gp [(RV.t 8)] res 188 f5_c47 args) : Does QP gp 5 args res := f5_k.i f5_ok h
def f12_r0:List MO:=[Qa (Qv 0) (Qd (Qo (Qp (Qq (Qs false)))))]
def f12_c0:MC:=.r0 f12_r0
def f12_r1:List MO:=[Qa (Qv 12) (MOp.bslice 1 [(Qr Qu 0)] 1 [(0,(Qo (Qp (Qq (Qr Qu 1)))))]),Qa (Qv 13) (MOp.build [(Qr Qu 0),(Qr Qu 0),(Qr Qu 0),(D.str (ByteArray.mk #[])),(D.sl []),(D.sl [])] [(0,(1,(Qo (Qp (Qq (Qr Qu 1)))))),(5,(1,(Qn 12)))]),Qa (Qv 14) (MOp.bslice 1 [(Qr Qu 0)] 1 [(0,(Qo (Qp (Qq (Qr Qu 0)))))]),Qa (Qv 15) (MOp.build [(Qr Qu 0),(Qr Qu 0),(Qr Qu 0),(D.str (ByteArray.mk #[])),(D.sl []),(D.sl [])] [(0,(1,(Qo (Qp (Qq (Qr Qu 1)))))),(5,(1,(Qn 14)))]),Qa (Qv 16) (MOp.bslice 1 [(Qr Qu 0)] 1 [(0,(Qo (Qp (Qq (Qr Qu 2)))))]),Qa (Qv 17) (MOp.build [(Qr Qu 0),(Qr Qu 0),(Qr Qu 0),(D.str (ByteArray.mk #[])),(D.sl []),(D.sl [])] [(0,(1,(Qo (Qp (Qq (Qr Qu 1)))))),(5,(1,(Qn 16)))]),Qa (Qv 18) (MOp.build [(Qr Qu 0),(Qr Qu 0),(Qr Qu 0),(D.str (ByteArray.mk #[])),(D.sl []),(D.sl [])] [(0,(1,(Qo (Qp (Qq (Qr Qu 1))))))]),Qa (Qv 19) (MOp.bslice 6 [(Qr Qu 0),(Qr Qu 0),(Qr Qu 0),(D.str (ByteArray.mk #[])),(D.sl []),(D.sl [])] 4 [(0,(Qn 13)),(1,(Qn 15)),(2,(Qn 17)),(3,(Qn 18))]),Qa (Qv 20) (MOp.build [(Qr Qu 0),(D.sl [])] [(1,(1,(Qn 19)))]),Qa (Qv 1) (MOp.alloc [(Qr Qu 0),(D.sl [])]),Qa none (Ql 2 (Qn 1) (Qn 20))]
def f12_c1:MC:=.r0 f12_r1
def f12_r2:List MO:=[Qa (Qv 22) (Qf 2 true (Qn 1)),Qa (Qv 23) (Qh 14 [(Qn 22)]),Qa (Qv 21) (Qd (Qn 23)),Qa (Qv 24) (Qi (Qn 21) 0),Qa (Qv 25) (Qi (Qn 21) 1),Qa (Qv 2) (Qd (Qn 24)),Qa (Qv 3) (Qd (Qn 25))]
def f12_c2:MC:=.r0 f12_r2
def f12_r3:List MO:=[Qa (Qv 27) (Qf 2 true (Qn 1)),Qa (Qv 28) (MOp.bslice 1 [(Qr Qu 0)] 1 [(0,(Qo (Qp (Qq (Qr Qu 0)))))]),Qa (Qv 29) (MOp.build [(Qr Qu 0),(Qr Qu 0),(Qr Qu 0),(D.str (ByteArray.mk #[])),(D.sl []),(D.sl [])] [(0,(1,(Qo (Qp (Qq (Qr Qu 1)))))),(5,(1,(Qn 28)))]),Qa (Qv 30) (MOp.bslice 6 [(Qr Qu 0),(Qr Qu 0),(Qr Qu 0),(D.str (ByteArray.mk #[])),(D.sl []),(D.sl [])] 1 [(0,(Qn 29))]),Qa (Qv 31) (MOp.build [(Qr Qu 0),(D.sl [])] [(1,(1,(Qn 30)))]),Qa (Qv 32) (Qh 16 [(Qn 27),(Qn 31)]),Qa (Qv 26) (Qd (Qn 32)),Qa (Qv 33) (Qi (Qn 26) 0),Qa (Qv 34) (Qi (Qn 26) 1),Qa (Qv 4) (Qd (Qn 33)),Qa (Qv 5) (Qd (Qn 34))]
def f12_c3:MC:=.r0 f12_r3
def f12_r4:List MO:=[Qa (Qv 36) (Qf 2 true (Qn 1)),Qa (Qv 37) (MOp.build [(Qr Qu 0),(Qr Qu 0),(Qr Qu 0),(D.str (ByteArray.mk #[])),(D.sl []),(D.sl [])] [(0,(1,(Qo (Qp (Qq (Qr Qu 1))))))]),Qa (Qv 38) (MOp.bslice 6 [(Qr Qu 0),(Qr Qu 0),(Qr Qu 0),(D.str (ByteArray.mk #[])),(D.sl []),(D.sl [])] 1 [(0,(Qn 37))]),Qa (Qv 39) (MOp.build [(Qr Qu 0),(D.sl [])] [(1,(1,(Qn 38)))]),Qa (Qv 40) (Qh 16 [(Qn 36),(Qn 39)]),Qa (Qv 35) (Qd (Qn 40)),Qa (Qv 41) (Qi (Qn 35) 0),Qa (Qv 42) (Qi (Qn 35) 1),Qa (Qv 6) (Qd (Qn 41)),Qa (Qv 7) (Qd (Qn 42))]
def f12_c4:MC:=.r0 f12_r4
def f12_r5:List MO:=[Qa (Qv 44) (Qf 2 true (Qn 1)),Qa (Qv 45) (Qh 18 [(Qn 44),(Qo (Qp (Qq (Qr Qu 0)))),(Qo (Qp (Qq (Qr Qu 3))))]),Qa (Qv 43) (Qd (Qn 45)),Qa (Qv 46) (Qi (Qn 43) 0),Qa (Qv 47) (Qi (Qn 43) 1),Qa (Qv 8) (Qd (Qn 46)),Qa (Qv 9) (Qd (Qn 47))]
def f12_c5:MC:=.r0 f12_r5
def f12_r6:List MO:=[Qa (Qv 49) (MOp.build [(Qr Qu 0),(D.sl [])] []),Qa (Qv 50) (Qh 14 [(Qn 49)]),Qa (Qv 48) (Qd (Qn 50)),Qa (Qv 51) (Qi (Qn 48) 0),Qa (Qv 52) (Qi (Qn 48) 1),Qa (Qv 10) (Qd (Qn 51)),Qa (Qv 11) (Qd (Qn 52))]
def f12_c6:MC:=.r0 f12_r6
def f12_r7:List MO:=[Qa (Qv 53) (Qd (Qn 3)),Qa (Qv 54) (Qe Qt Go.BinOp.eql (Qn 53) (Qo (Qp (Qq (Qr Qu 0))))),Qa (Qv 55) (Qd (Qn 54)),Qb 55 true (Qv 56),Qa (Qv 56) (Qd (Qn 2)),Qb 55 true (Qv 57),Qa (Qv 57) (MOp.bslice 1 [(Qr Qu 0)] 4 [(0,(Qo (Qp (Qq (Qr Qu 0))))),(1,(Qo (Qp (Qq (Qr Qu 0))))),(2,(Qo (Qp (Qq (Qr Qu 0))))),(3,(Qo (Qp (Qq (Qr Qu 1)))))]),Qb 55 true (Qv 58),Qa (Qv 58) (Qh 20 [(Qn 56),(Qn 57)]),Qa (Qv 59) (Qm (Qn 55) (Qn 58) (Qo (Qp (Qq (Qs false))))),Qa (Qv 60) (Qd (Qn 59)),Qb 60 true (Qv 61),Qa (Qv 61) (Qd (Qn 4)),Qa (Qv 62) (Qm (Qn 60) (Qn 61) (Qo (Qp (Qq (Qs false))))),Qa (Qv 63) (Qd (Qn 62)),Qb 63 true (Qv 64),Qa (Qv 64) (Qd (Qn 5)),Qb 63 true (Qv 65),Qa (Qv 65) (Qe Qt Go.BinOp.eql (Qn 64) (Qo (Qp (Qq (Qr Qu 0))))),Qa (Qv 66) (Qm (Qn 63) (Qn 65) (Qo (Qp (Qq (Qs false))))),Qa (Qv 67) (Qd (Qn 66)),Qb 67 true (Qv 68),Qa (Qv 68) (Qd (Qn 6)),Qb 67 true (Qv 69),Qa (Qv 69) (MOp.not (Qn 68)),Qa (Qv 70) (Qm (Qn 67) (Qn 69) (Qo (Qp (Qq (Qs false))))),Qa (Qv 71) (Qd (Qn 70)),Qb 71 true (Qv 72),Qa (Qv 72) (Qd (Qn 7)),Qb 71 true (Qv 73),Qa (Qv 73) (Qe Qt Go.BinOp.eql (Qn 72) (Qo (Qp (Qq (Qr Qu 0))))),Qa (Qv 74) (Qm (Qn 71) (Qn 73) (Qo (Qp (Qq (Qs false))))),Qa (Qv 75) (Qd (Qn 74)),Qb 75 true (Qv 76),Qa (Qv 76) (Qd (Qn 8)),Qb 75 true (Qv 77),Qa (Qv 77) (Qk Qt (Qn 76)),Qb 75 true (Qv 78),Qa (Qv 78) (Qe Qt Go.BinOp.eql (Qn 77) (Qo (Qp (Qq (Qr Qu 0))))),Qa (Qv 79) (Qm (Qn 75) (Qn 78) (Qo (Qp (Qq (Qs false))))),Qa (Qv 80) (Qd (Qn 79)),Qb 80 true (Qv 81),Qa (Qv 81) (Qd (Qn 9)),Qa (Qv 82) (Qm (Qn 80) (Qn 81) (Qo (Qp (Qq (Qs false))))),Qa (Qv 83) (Qd (Qn 82)),Qb 83 true (Qv 84),Qa (Qv 84) (Qd (Qn 11)),Qb 83 true (Qv 85),Qa (Qv 85) (Qe Qt Go.BinOp.eql (Qn 84) (Qo (Qp (Qq (Qr Qu 70))))),Qa (Qv 86) (Qm (Qn 83) (Qn 85) (Qo (Qp (Qq (Qs false))))),Qa (Qv 0) (Qd (Qn 86))]
def f12_c7:MC:=.r0 f12_r7
def f12_c12:MC:=.seq f12_c4 (.seq f12_c5 (.seq f12_c6 (.seq f12_c7 .ret)))
def f12_c15:MC:=.seq f12_c1 (.seq f12_c2 (.seq f12_c3 f12_c12))
def f12_c16:MC:=.seq f12_c0 f12_c15
attribute [go_sem] f12_r0 f12_r1 f12_r2 f12_r3 f12_r4 f12_r5 f12_r6 f12_r7
theorem f12_k : KK QP 12 f12 [] f12_c16 [(RV.t 0)] 87 := by refine ⟨func12,?_,?_,?_,?_⟩<;>kernel_rfl
theorem f12_ok : callable QP 12 = true := by kernel_rfl
theorem f12_in (h : GI QP gp [(RV.t 0)] res 87 f12_c16 args) : Does QP gp 12 args res := f12_k.i f12_ok h
def f14_r0:List MO:=[Qa (Qv 1) (MOp.ibox (Qn 0)),Qa (Qv 2) (Qd (Qo (Qp A.nil))),Qa (Qv 3) (Qd (Qo (Qp (Qq (Qr Qu 0)))))]
def f14_c0:MC:=.r0 f14_r0
def f14_r1:List MO:=[Qa (Qv 7) (Qf 2 true (Qn 1)),Qa (Qv 8) (Qh 36 [(Qn 7)]),Qa (Qv 6) (Qd (Qn 8)),Qa (Qv 9) (Qi (Qn 6) 0),Qa (Qv 10) (Qi (Qn 6) 1),Qa (Qv 4) (Qd (Qn 9)),Qa (Qv 5) (Qd (Qn 10))]
def f14_c1:MC:=.r0 f14_r1
def f14_r2:List MO:=[Qa (Qv 11) (Qd (Qn 5)),Qa (Qv 12) (Qe Qt Go.BinOp.neq (Qn 11) (Qo (Qp (Qq (Qr Qu 0)))))]
def f14_c2:MC:=.r0 f14_r2
def f14_r3:List MO:=[Qa (Qv 13) (Qd (Qn 5)),Qa (Qv 2) (Qd (Qo (Qp A.nil))),Qa (Qv 3) (Qd (Qn 13))]
def f14_c3:MC:=.r0 f14_r3
def f14_r10:List MO:=[Qa (Qv 14) (Qf 2 true (Qn 1)),Qa (Qv 15) (Qh 37 [(Qn 14)]),Qa (Qv 16) (Qh 38 [(Qn 15)]),Qa (Qv 2) (Qd (Qn 16)),Qa (Qv 3) (Qd (Qo (Qp (Qq (Qr Qu 0)))))]
def f14_c10:MC:=.r0 f14_r10
def f14_c13:MC:=.seq (.seq f14_c1 (.seq f14_c2 (.cond (Qn 12) (.seq f14_c3 .ret) .skip))) (.seq f14_c10 .ret)
def f14_c14:MC:=.seq f14_c0 f14_c13
attribute [go_sem] f14_r0 f14_r1 f14_r2 f14_r3 f14_r10
theorem f14_k : KK QP 14 f14 [1] f14_c14 [(RV.t 2),(RV.t 3)] 17 := by refine ⟨func14,?_,?_,?_,?_⟩<;>kernel_rfl
theorem f14_ok : callable QP 14 = true := by kernel_rfl
theorem f14_in (h : GI QP gp [(RV.t 2),(RV.t 3)] res 17 f14_c14 args) : Does QP gp 14 args res := f14_k.i f14_ok h
def f16_r0:List MO:=[Qa (Qv 2) (MOp.ibox (Qn 0)),Qa (Qv 3) (MOp.ibox (Qn 1)),Qa (Qv 4) (Qd (Qo (Qp (Qq (Qs false))))),Qa (Qv 5) (Qd (Qo (Qp (Qq (Qr Qu 0)))))]
def f16_c0:MC:=.r0 f16_r0
def f16_r1:List MO:=[Qa (Qv 11) (Qf 2 true (Qn 2)),Qa (Qv 12) (Qf 2 true (Qn 3)),Qa (Qv 13) (MOp.bslice 2 [(Qr Qu 0),(D.sl [])] 2 [(0,(Qn 11)),(1,(Qn 12))]),Qa (Qv 14) (Qk Qt (Qn 13)),Qa (Qv 15) (Qd (Qo (Qp (Qq (Qr Qu 0)))))]
def f16_c1:MC:=.r0 f16_r1
def f16_r2:List MO:=[Qa (Qv 16) (Qe Qt Go.BinOp.lss (Qn 15) (Qn 14))]
def f16_c2:MC:=.r0 f16_r2
def f16_r6:List MO:=[Qa (Qv 17) (Qj 2 (Qn 13) (Qn 15)),Qa (Qv 18) (Qf 2 true (Qn 17)),Qa (Qv 7) (MOp.alloc [(Qr Qu 0),(D.sl [])]),Qa none (Ql 2 (Qn 7) (Qn 18))]
def f16_c6:MC:=.r0 f16_r6
def f16_r7:List MO:=[Qa (Qv 20) (Qf 2 true (Qn 7)),Qa (Qv 21) (Qh 36 [(Qn 20)]),Qa (Qv 19) (Qd (Qn 21)),Qa (Qv 22) (Qi (Qn 19) 0),Qa (Qv 23) (Qi (Qn 19) 1),Qa (Qv 8) (Qd (Qn 22)),Qa (Qv 9) (Qd (Qn 23))]
def f16_c7:MC:=.r0 f16_r7
def f16_r8:List MO:=[Qa (Qv 24) (Qd (Qn 9)),Qa (Qv 25) (Qe Qt Go.BinOp.neq (Qn 24) (Qo (Qp (Qq (Qr Qu 0)))))]
def f16_c8:MC:=.r0 f16_r8
def f16_r9:List MO:=[Qa (Qv 26) (Qd (Qn 9)),Qa (Qv 4) (Qd (Qo (Qp (Qq (Qs false))))),Qa (Qv 5) (Qd (Qn 26))]
def f16_c9:MC:=.r0 f16_r9
def f16_c16:MC:=.seq f16_c6 (.seq f16_c7 (.seq f16_c8 (.cond (Qn 25) (.seq f16_c9 .ret) .skip)))
def f16_r18:List MO:=[Qa (Qv 27) (Qe Qt Go.BinOp.add (Qn 15) (Qo (Qp (Qq (Qr Qu 1))))),Qa (Qv 15) (Qd (Qn 27))]
def f16_c18:MC:=.r0 f16_r18
def f16_c24:MC:=.seq f16_c1 (.blk 0 (.loop (.seq f16_c2 (.seq (.cond (Qn 16) .skip (MC.exit 0)) (.seq (.blk 1 f16_c16) f16_c18)))))
def f16_r25:List MO:=[Qa (Qv 28) (Qf 2 true (Qn 2)),Qa (Qv 29) (Qf 2 true (Qn 3)),Qa (Qv 30) (Qh 41 [(Qn 28),(Qn 29)]),Qa (Qv 31) (Qh 37 [(Qn 30)]),Qa (Qv 32) (Qh 38 [(Qn 31)]),Qa (Qv 10) (Qd (Qn 32))]
def f16_c25:MC:=.r0 f16_r25
def f16_r26:List MO:=[Qa (Qv 33) (Qd (Qn 10)),Qa (Qv 34) (Qg 0 (Qn 2)),Qa (Qv 35) (Qf 1 false (Qn 34)),Qa (Qv 36) (Qj 1 (Qn 33) (Qn 35)),Qa (Qv 37) (Qf 1 false (Qn 36)),Qa (Qv 38) (Qd (Qn 10)),Qa (Qv 39) (Qg 0 (Qn 3)),Qa (Qv 40) (Qf 1 false (Qn 39)),Qa (Qv 41) (Qg 1 (Qn 2)),Qa (Qv 42) (Qf 1 false (Qn 41)),Qa (Qv 43) (Qk Qt (Qn 42)),Qa (Qv 44) (Qe Qt Go.BinOp.add (Qn 40) (Qn 43)),Qa (Qv 45) (Qj 1 (Qn 38) (Qn 44)),Qa (Qv 46) (Qf 1 false (Qn 45)),Qa (Qv 47) (Qe Qt Go.BinOp.eql (Qn 37) (Qn 46)),Qa (Qv 4) (Qd (Qn 47)),Qa (Qv 5) (Qd (Qo (Qp (Qq (Qr Qu 0)))))]
def f16_c26:MC:=.reg true f16_r26
def f16_c31:MC:=.seq f16_c0 (.seq f16_c24 (.seq f16_c25 (.seq f16_c26 .ret)))
attribute [go_sem] f16_r0 f16_r1 f16_r2 f16_r6 f16_r7 f16_r8 f16_r9 f16_r18 f16_r25 f16_r26
theorem f16_k : KK QP 16 f16 [2,3] f16_c31 [(RV.t 4),(RV.t 5)] 48 := by refine ⟨func16,?_,?_,?_,?_⟩<;>kernel_rfl
theorem f16_ok : callable QP 16 = true := by kernel_rfl
theorem f16_in (h : GI QP gp [(RV.t 4),(RV.t 5)] res 48 f16_c31 args) : Does QP gp 16 args res := f16_k.i f16_ok h
def f18_r0:List MO:=[Qa (Qv 3) (MOp.ibox (Qn 0)),Qa (Qv 6) (Qd (Qo (Qp A.nil))),Qa (Qv 7) (Qd (Qo (Qp (Qq (Qs false)))))]
def f18_c0:MC:=.r0 f18_r0
def f18_r1:List MO:=[Qa (Qv 21) (Qf 2 true (Qn 3)),Qa (Qv 22) (Qh 36 [(Qn 21)]),Qa (Qv 20) (Qd (Qn 22)),Qa (Qv 23) (Qi (Qn 20) 0),Qa (Qv 24) (Qi (Qn 20) 1),Qa (Qv 8) (Qd (Qn 23)),Qa (Qv 9) (Qd (Qn 24))]
def f18_c1:MC:=.r0 f18_r1
def f18_r2:List MO:=[Qa (Qv 25) (Qd (Qn 9)),Qa (Qv 26) (Qe Qt Go.BinOp.neq (Qn 25) (Qo (Qp (Qq (Qr Qu 0))))),Qa (Qv 27) (Qd (Qn 26)),Qb 27 false (Qv 28),Qa (Qv 28) (Qd (Qn 1)),Qb 27 false (Qv 29),Qa (Qv 29) (Qe Qt Go.BinOp.lss (Qn 28) (Qo (Qp (Qq (Qr Qu 0))))),Qa (Qv 30) (Qm (Qn 27) (Qo (Qp (Qq (Qs true)))) (Qn 29)),Qa (Qv 31) (Qd (Qn 30)),Qb 31 false (Qv 32),Qa (Qv 32) (Qd (Qn 2)),Qb 31 false (Qv 33),Qa (Qv 33) (Qe Qt Go.BinOp.lss (Qn 32) (Qo (Qp (Qq (Qr Qu 0))))),Qa (Qv 34) (Qm (Qn 31) (Qo (Qp (Qq (Qs true)))) (Qn 33)),Qa (Qv 35) (Qd (Qn 34)),Qb 35 false (Qv 36),Qa (Qv 36) (Qd (Qn 1)),Qb 35 false (Qv 37),Qa (Qv 37) (Qg 1 (Qn 3)),Qb 35 false (Qv 38),Qa (Qv 38) (Qf 1 false (Qn 37)),Qb 35 false (Qv 39),Qa (Qv 39) (Qk Qt (Qn 38)),Qb 35 false (Qv 40),Qa (Qv 40) (Qe Qt Go.BinOp.geq (Qn 36) (Qn 39)),Qa (Qv 41) (Qm (Qn 35) (Qo (Qp (Qq (Qs true)))) (Qn 40)),Qa (Qv 42) (Qd (Qn 41)),Qb 42 false (Qv 43),Qa (Qv 43) (Qd (Qn 2)),Qb 42 false (Qv 44),Qa (Qv 44) (Qg 1 (Qn 3)),Qb 42 false (Qv 45),Qa (Qv 45) (Qf 1 false (Qn 44)),Qb 42 false (Qv 46),Qa (Qv 46) (Qk Qt (Qn 45)),Qb 42 false (Qv 47),Qa (Qv 47) (Qe Qt Go.BinOp.geq (Qn 43) (Qn 46)),Qa (Qv 48) (Qm (Qn 42) (Qo (Qp (Qq (Qs true)))) (Qn 47))]
def f18_c2:MC:=.r0 f18_r2
def f18_r3:List MO:=[Qa (Qv 6) (Qd (Qo (Qp A.nil))),Qa (Qv 7) (Qd (Qo (Qp (Qq (Qs false)))))]
def f18_c3:MC:=.r0 f18_r3
def f18_r10:List MO:=[Qa (Qv 49) (Qf 2 true (Qn 3)),Qa (Qv 50) (Qh 37 [(Qn 49)]),Qa (Qv 10) (Qd (Qn 50))]
def f18_c10:MC:=.r0 f18_r10
def f18_r11:List MO:=[Qa (Qv 51) (Qd (Qn 1)),Qa (Qv 52) (Qd (Qn 2)),Qa (Qv 53) (MOp.build [(Qr Qu 0),(Qr Qu 0)] [(0,(1,(Qn 51))),(1,(1,(Qn 52)))]),Qa (Qv 54) (MOp.build [(Qr Qu 0),(Qr Qu 0),(D.sl [])] [(0,(2,(Qn 53)))]),Qa none (Qd (Qo (Qp A.nil))),Qa (Qv 56) MOp.mkM,Qa (Qv 57) (Qd (Qn 1)),Qa (Qv 58) (Qd (Qn 2)),Qa (Qv 59) (MOp.build [(Qr Qu 0),(Qr Qu 0)] [(0,(1,(Qn 57))),(1,(1,(Qn 58)))]),Qa none (MOp.mupd true [Qt,Qt] (Qn 56) (Qn 59) (Qo (Qp (Qq (Qs true))))),Qa (Qv 60) (Qd (Qn 56)),Qa (Qv 55) (MOp.bslO 3 [(Qr Qu 0),(Qr Qu 0),(D.sl [])] 1 [(0,(Qn 54))]),Qa (Qv 11) (MOp.alloc [(D.sl [])]),Qa none (Ql 1 (Qn 11) (Qn 55)),Qa (Qv 12) (MOp.alloc [(D.raw (Go.Value.map none))]),Qa none (Ql 1 (Qn 12) (Qn 60))]
def f18_c11:MC:=.regw f18_r11
def f18_r12:List MO:=[Qa (Qv 61) (MOp.mkF (Go.Fn.func 43) [(Qn 12),(Qn 11)]),Qa (Qv 13) (Qd (Qn 61))]
def f18_c12:MC:=.r0 f18_r12
def f18_r13:List MO:=[Qa (Qv 62) (Qf 1 false (Qn 11)),Qa (Qv 63) (Qk Qt (Qn 62)),Qa (Qv 64) (Qe Qt Go.BinOp.gtr (Qn 63) (Qo (Qp (Qq (Qr Qu 0)))))]
def f18_c13:MC:=.r0 f18_r13
def f18_r18:List MO:=[Qa (Qv 65) (Qf 1 false (Qn 11)),Qa (Qv 66) (Qj 3 (Qn 65) (Qo (Qp (Qq (Qr Qu 0))))),Qa (Qv 67) (Qf 3 true (Qn 66)),Qa (Qv 14) (MOp.alloc [(Qr Qu 0),(Qr Qu 0),(D.sl [])]),Qa none (Ql 3 (Qn 14) (Qn 67))]
def f18_c18:MC:=.r0 f18_r18
def f18_r19:List MO:=[Qa (Qv 68) (Qf 1 false (Qn 11)),Qa (Qv 69) (MOp.slc 3 (Qn 68) (Qv (Qo (Qp (Qq (Qr Qu 1))))) none),Qa none (Ql 1 (Qn 11) (Qn 69))]
def f18_c19:MC:=.r0 f18_r19
def f18_r20:List MO:=[Qa (Qv 70) (Qd (Qn 10)),Qa (Qv 71) (Qg 0 (Qn 14)),Qa (Qv 72) (Qg 0 (Qn 71)),Qa (Qv 73) (Qf 1 false (Qn 72)),Qa (Qv 74) (Qh 45 [(Qn 70),(Qn 73)]),Qa (Qv 75) (Qd (Qn 10)),Qa (Qv 76) (Qg 0 (Qn 14)),Qa (Qv 77) (Qg 1 (Qn 76)),Qa (Qv 78) (Qf 1 false (Qn 77)),Qc (Qv 79) (Qh 45 [(Qn 75),(Qn 78)]),Qa (Qv 80) (MOp.eqs true [Qt,Qt,Qt,Leaf.s,Leaf.s,Leaf.s] (Qn 74) (Qn 79))]
def f18_c20:MC:=.reg true f18_r20
def f18_r21:List MO:=[Qa (Qv 81) (Qg 2 (Qn 14)),Qa (Qv 82) (Qf 1 false (Qn 81)),Qa (Qv 6) (Qd (Qn 82)),Qa (Qv 7) (Qd (Qo (Qp (Qq (Qs true)))))]
def f18_c21:MC:=.r0 f18_r21
def f18_r27:List MO:=[Qa (Qv 84) (Qf 2 true (Qn 3)),Qa (Qv 85) (Qg 0 (Qn 14)),Qa (Qv 86) (Qg 0 (Qn 85)),Qa (Qv 87) (Qf 1 false (Qn 86)),Qa (Qv 88) (Qh 21 [(Qn 84),(Qn 87)]),Qa (Qv 83) (Qd (Qn 88)),Qa (Qv 89) (Qi (Qn 83) 0),Qa (Qv 90) (Qi (Qn 83) 1),Qa (Qv 15) (Qd (Qn 89)),Qa (Qv 16) (Qd (Qn 90))]
def f18_c27:MC:=.r0 f18_r27
def f18_r28:List MO:=[Qa (Qv 92) (Qf 2 true (Qn 3)),Qa (Qv 93) (Qg 0 (Qn 14)),Qa (Qv 94) (Qg 1 (Qn 93)),Qa (Qv 95) (Qf 1 false (Qn 94)),Qa (Qv 96) (Qh 21 [(Qn 92),(Qn 95)]),Qa (Qv 91) (Qd (Qn 96)),Qa (Qv 97) (Qi (Qn 91) 0),Qa (Qv 98) (Qi (Qn 91) 1),Qa (Qv 17) (Qd (Qn 97)),Qa (Qv 18) (Qd (Qn 98))]
def f18_c28:MC:=.r0 f18_r28
def f18_r29:List MO:=[Qa (Qv 99) (Qd (Qn 15)),Qa (Qv 100) (Qk Qt (Qn 99)),Qa (Qv 101) (Qd (Qo (Qp (Qq (Qr Qu 0)))))]
def f18_c29:MC:=.r0 f18_r29
def f18_r30:List MO:=[Qa (Qv 102) (Qe Qt Go.BinOp.lss (Qn 101) (Qn 100))]
def f18_c30:MC:=.r0 f18_r30
def f18_r34:List MO:=[Qa (Qv 103) (Qd (Qn 101)),Qa (Qv 19) (Qd (Qn 103))]
def f18_c34:MC:=.r0 f18_r34
def f18_r35:List MO:=[Qa (Qv 104) (Qd (Qn 13)),Qa (Qv 105) (Qf 3 true (Qn 14)),Qa (Qv 106) (Qd (Qn 19)),Qa (Qv 107) (Qd (Qn 15)),Qa (Qv 108) (Qd (Qn 19)),Qa (Qv 109) (Qj 1 (Qn 107) (Qn 108)),Qa (Qv 110) (Qf 1 false (Qn 109)),Qa (Qv 111) (Qd (Qn 17)),Qa (Qv 112) (Qd (Qn 19)),Qa (Qv 113) (Qj 1 (Qn 111) (Qn 112)),Qa (Qv 114) (Qf 1 false (Qn 113)),Qa (Qv 115) (MOp.build [(Qr Qu 0),(Qr Qu 0)] [(0,(1,(Qn 110))),(1,(1,(Qn 114)))]),Qc (Qv 116) (MOp.callv (Qn 104) [(Qn 105),(Qn 106),(Qn 115)])]
def f18_c35:MC:=.reg true f18_r35
def f18_r38:List MO:=[Qa (Qv 117) (Qe Qt Go.BinOp.add (Qn 101) (Qo (Qp (Qq (Qr Qu 1))))),Qa (Qv 101) (Qd (Qn 117))]
def f18_c38:MC:=.r0 f18_r38
def f18_c41:MC:=.seq f18_c30 (.seq (.cond (Qn 102) .skip (MC.exit 2)) (.seq (.blk 3 (.seq f18_c34 f18_c35)) f18_c38))
def f18_c46:MC:=.seq f18_c27 (.seq f18_c28 (.seq f18_c29 (.blk 2 (.loop f18_c41))))
def f18_c48:MC:=.seq f18_c19 (.seq (.seq f18_c20 (.cond (Qn 80) (.seq f18_c21 .ret) .skip)) f18_c46)
def f18_r54:List MO:=[Qa (Qv 6) (Qd (Qo (Qp A.nil))),Qa (Qv 7) (Qd (Qo (Qp (Qq (Qs false)))))]
def f18_c54:MC:=.r0 f18_r54
def f18_c57:MC:=.seq (.blk 0 (.loop (.seq (.seq f18_c13 (.cond (Qn 64) .skip (MC.exit 0))) (.blk 1 (.seq f18_c18 f18_c48))))) (.seq f18_c54 .ret)
def f18_c60:MC:=.seq f18_c10 (.seq f18_c11 (.seq f18_c12 f18_c57))
def f18_c61:MC:=.seq (.seq f18_c1 (.seq f18_c2 (.cond (Qn 48) (.seq f18_c3 .ret) .skip))) f18_c60
def f18_c62:MC:=.seq f18_c0 f18_c61
attribute [go_sem] f18_r0 f18_r1 f18_r2 f18_r3 f18_r10 f18_r11 f18_r12 f18_r13 f18_r18 f18_r19 f18_r20 f18_r21 f18_r27 f18_r28 f18_r29 f18_r30 f18_r34 f18_r35 f18_r38 f18_r54
theorem f18_k : KK QP 18 f18 [3,55] f18_c62 [(RV.t 6),(RV.t 7)] 118 := by refine ⟨func18,?_,?_,?_,?_⟩<;>kernel_rfl
theorem f18_ok : callable QP 18 = true := by kernel_rfl
theorem f18_in (h : GI QP gp [(RV.t 6),(RV.t 7)] res 118 f18_c62 args) : Does QP gp 18 args res := f18_k.i f18_ok h
def f37_r0:List MO:=[Qa (Qv 1) (MOp.ibox (Qn 0)),Qa (Qv 2) (Qd (Qo (Qp (Qq D.nilP))))]
def f37_c0:MC:=.r0 f37_r0
def f37_r1:List MO:=[Qa (Qv 3) (Qf 2 true (Qn 1)),Qa (Qv 4) (Qg 1 (Qn 1)),Qa (Qv 5) (Qf 1 false (Qn 4)),Qa (Qv 6) (Qk Qt (Qn 5)),Qa (Qv 7) (MOp.mkS 1 8 [(Qr Qu 0)] (Qn 6)),Qa (Qv 8) (MOp.build [(Qr Qu 0),(D.sl []),(D.sl [])] [(0,(2,(Qn 3))),(2,(1,(Qn 7)))]),Qa (Qv 9) (MOp.box (Qn 8)),Qa (Qv 2) (Qd (Qn 9))]
def f37_c1:MC:=.reg true f37_r1
def f37_c4:MC:=.seq f37_c0 (.seq f37_c1 .ret)
attribute [go_sem] f37_r0 f37_r1
theorem f37_k : KK QP 37 f37 [1] f37_c4 [(RV.t 2)] 10 := by refine ⟨func37,?_,?_,?_,?_⟩<;>kernel_rfl
theorem f37_ok : callable QP 37 = true := by kernel_rfl
theorem f37_tri (h : GT QP gp [(RV.t 2)] pre R 10 f37_c4 args) : Tri QP gp 37 args pre R := f37_k.t h
def f38_r0:List MO:=[Qa (Qv 2) (Qd (Qo (Qp A.nil)))]
def f38_c0:MC:=.r0 f38_r0
def f38_r1:List MO:=[Qa (Qv 6) (Qd (Qn 0)),Qa (Qv 7) (MOp.mkMv (Go.Fn.func 71) (Qn 6)),Qa (Qv 3) (Qd (Qn 7))]
def f38_c1:MC:=.r0 f38_r1
def f38_r2:List MO:=[Qa (Qv 8) (Qd (Qn 3)),Qa (Qv 9) (MOp.callv (Qn 8) []),Qa (Qv 4) (Qd (Qo (Qp (Qq (Qr Qu 0))))),Qa (Qv 5) (Qd (Qn 9))]
def f38_c2:MC:=.r0 f38_r2
def f38_r3:List MO:=[Qa (Qv 10) (Qd (Qn 5)),Qa (Qv 11) (Qd (Qn 4)),Qa (Qv 12) (Qe Qt Go.BinOp.gtr (Qn 10) (Qn 11))]
def f38_c3:MC:=.r0 f38_r3
def f38_r8:List MO:=[Qa (Qv 13) (Qd (Qn 5)),Qa (Qv 14) (Qd (Qn 3)),Qa (Qv 15) (MOp.callv (Qn 14) []),Qa (Qv 4) (Qd (Qn 13)),Qa (Qv 5) (Qd (Qn 15))]
def f38_c8:MC:=.r0 f38_r8
def f38_r14:List MO:=[Qa (Qv 16) (Qd (Qn 0)),Qa (Qv 17) (MOp.nck (Qn 16)),Qa (Qv 18) (Qg 2 (Qn 17)),Qa (Qv 19) (Qf 1 false (Qn 18)),Qa (Qv 2) (Qd (Qn 19))]
def f38_c14:MC:=.r0 f38_r14
def f38_c17:MC:=.seq (.seq f38_c2 (.blk 0 (.loop (.seq (.seq f38_c3 (.cond (Qn 12) .skip (MC.exit 0))) (.blk 1 f38_c8))))) (.seq f38_c14 .ret)
def f38_c19:MC:=.seq f38_c0 (.seq f38_c1 f38_c17)
attribute [go_sem] f38_r0 f38_r1 f38_r2 f38_r3 f38_r8 f38_r14
theorem f38_k : KK QP 38 f38 [] f38_c19 [(RV.t 2)] 20 := by refine ⟨func38,?_,?_,?_,?_⟩<;>kernel_rfl
theorem f38_ok : callable QP 38 = true := by kernel_rfl
theorem f38_tri (h : GT QP gp [(RV.t 2)] pre R 20 f38_c19 args) : Tri QP gp 38 args pre R := f38_k.t h
def f41_r0:List MO:=[Qa (Qv 2) (MOp.ibox (Qn 0)),Qa (Qv 3) (MOp.ibox (Qn 1)),Qa (Qv 4) (MOp.alloc [(Qr Qu 0),(D.sl [])])]
def f41_c0:MC:=.r0 f41_r0
def f41_r1:List MO:=[Qa (Qv 9) (Qg 0 (Qn 2)),Qa (Qv 10) (Qf 1 false (Qn 9)),Qa (Qv 11) (Qg 1 (Qn 2)),Qa (Qv 12) (Qf 1 false (Qn 11)),Qa (Qv 13) (MOp.callN 73 [(Qn 12)]),Qa (Qv 14) (MOp.build [(Qr Qu 0),(D.sl [])] [(0,(1,(Qn 10))),(1,(1,(Qn 13)))]),Qa (Qv 5) (MOp.alloc [(Qr Qu 0),(D.sl [])]),Qa none (Ql 2 (Qn 5) (Qn 14))]
def f41_c1:MC:=.regw f41_r1
def f41_r2:List MO:=[Qa (Qv 15) (Qg 1 (Qn 3)),Qa (Qv 16) (Qf 1 false (Qn 15)),Qa (Qv 17) (Qk Qt (Qn 16)),Qa (Qv 18) (Qd (Qo (Qp (Qq (Qr Qu 0)))))]
def f41_c2:MC:=.r0 f41_r2
def f41_r3:List MO:=[Qa (Qv 19) (Qe Qt Go.BinOp.lss (Qn 18) (Qn 17))]
def f41_c3:MC:=.r0 f41_r3
def f41_r7:List MO:=[Qa (Qv 20) (Qj 6 (Qn 16) (Qn 18)),Qa (Qv 21) (Qf 6 true (Qn 20)),Qa (Qv 7) (MOp.alloc [(Qr Qu 0),(Qr Qu 0),(Qr Qu 0),(D.str (ByteArray.mk #[])),(D.sl []),(D.sl [])]),Qa none (Ql 6 (Qn 7) (Qn 21))]
def f41_c7:MC:=.r0 f41_r7
def f41_r8:List MO:=[Qa (Qv 22) (Qg 5 (Qn 7)),Qa (Qv 23) (Qf 1 false (Qn 22)),Qa (Qv 24) (Qh 44 [(Qn 23)]),Qa (Qv 25) (Qg 5 (Qn 7)),Qa none (Ql 1 (Qn 25) (Qn 24))]
def f41_c8:MC:=.r0 f41_r8
def f41_r9:List MO:=[Qa (Qv 26) (Qg 5 (Qn 7)),Qa (Qv 27) (Qf 1 false (Qn 26)),Qa (Qv 28) (Qk Qt (Qn 27)),Qa (Qv 29) (Qd (Qo (Qp (Qq (Qr Qu 0)))))]
def f41_c9:MC:=.r0 f41_r9
def f41_r10:List MO:=[Qa (Qv 30) (Qe Qt Go.BinOp.lss (Qn 29) (Qn 28))]
def f41_c10:MC:=.r0 f41_r10
def f41_r14:List MO:=[Qa (Qv 31) (Qd (Qn 29)),Qa (Qv 8) (Qd (Qn 31))]
def f41_c14:MC:=.r0 f41_r14
def f41_r15:List MO:=[Qa (Qv 32) (Qg 5 (Qn 7)),Qa (Qv 33) (Qf 1 false (Qn 32)),Qa (Qv 34) (Qd (Qn 8)),Qa (Qv 35) (Qj 1 (Qn 33) (Qn 34)),Qa (Qv 36) (Qf 1 false (Qn 35)),Qa (Qv 37) (Qg 1 (Qn 2)),Qa (Qv 38) (Qf 1 false (Qn 37)),Qa (Qv 39) (Qk Qt (Qn 38)),Qa (Qv 40) (Qe Qt Go.BinOp.add (Qn 36) (Qn 39)),Qa (Qv 41) (Qj 1 (Qn 33) (Qn 34)),Qa none (Ql 1 (Qn 41) (Qn 40))]
def f41_c15:MC:=.reg true f41_r15
def f41_r18:List MO:=[Qa (Qv 42) (Qe Qt Go.BinOp.add (Qn 29) (Qo (Qp (Qq (Qr Qu 1))))),Qa (Qv 29) (Qd (Qn 42))]
def f41_c18:MC:=.r0 f41_r18
def f41_c21:MC:=.seq f41_c10 (.seq (.cond (Qn 30) .skip (MC.exit 2)) (.seq (.blk 3 (.seq f41_c14 f41_c15)) f41_c18))
def f41_r25:List MO:=[Qa (Qv 43) (Qg 1 (Qn 5)),Qa (Qv 44) (Qf 1 false (Qn 43)),Qa (Qv 45) (Qf 6 true (Qn 7)),Qa (Qv 46) (MOp.bslice 6 [(Qr Qu 0),(Qr Qu 0),(Qr Qu 0),(D.str (ByteArray.mk #[])),(D.sl []),(D.sl [])] 1 [(0,(Qn 45))]),Qa (Qv 47) (MOp.app 44 6 88 (Qn 44) (Qn 46)),Qa (Qv 48) (Qg 1 (Qn 5)),Qa none (Ql 1 (Qn 48) (Qn 47))]
def f41_c25:MC:=.r0 f41_r25
def f41_c27:MC:=.seq f41_c8 (.seq (.seq f41_c9 (.blk 2 (.loop f41_c21))) f41_c25)
def f41_r30:List MO:=[Qa (Qv 49) (Qe Qt Go.BinOp.add (Qn 18) (Qo (Qp (Qq (Qr Qu 1))))),Qa (Qv 18) (Qd (Qn 49))]
def f41_c30:MC:=.r0 f41_r30
def f41_c33:MC:=.seq f41_c3 (.seq (.cond (Qn 19) .skip (MC.exit 0)) (.seq (.blk 1 (.seq f41_c7 f41_c27)) f41_c30))
def f41_r37:List MO:=[Qa (Qv 50) (Qf 2 true (Qn 5)),Qa none (Ql 2 (Qn 4) (Qn 50))]
def f41_c37:MC:=.r0 f41_r37
def f41_c41:MC:=.seq f41_c1 (.seq (.seq f41_c2 (.blk 0 (.loop f41_c33))) (.seq f41_c37 .ret))
def f41_c42:MC:=.seq f41_c0 f41_c41
theorem f41_k : KK QP 41 f41 [2,3,3013] f41_c42 [(RV.cell 4 2 true)] 51 := by refine ⟨func41,?_,?_,?_,?_⟩<;>kernel_rfl
theorem f41_ok : callable QP 41 = true := by kernel_rfl
theorem f41_in (h : GI QP gp [(RV.cell 4 2 true)] res 51 f41_c42 args) : Does QP gp 41 args res := f41_k.i f41_ok h
def f43_r0:List MO:=[Qa (Qv 5) (MOp.box (Qn 0)),Qa (Qv 7) (MOp.box (Qn 2))]
def f43_c0:MC:=.r0 f43_r0
def f43_r1:List MO:=[Qa (Qv 8) (Qf 1 false (Qn 3)),Qa (Qv 9) (Qf 2 true (Qn 7)),Qa (Qv 10) (MOp.lkp false (Qp (Qq (Qs false))) true [Qt,Qt] (Qn 8) (Qn 9)),Qa (Qv 11) (MOp.not (Qn 10))]
def f43_c1:MC:=.r0 f43_r1
def f43_r2:List MO:=[Qa (Qv 12) (Qf 1 false (Qn 3)),Qa (Qv 13) (Qf 2 true (Qn 7)),Qa none (MOp.mupd true [Qt,Qt] (Qn 12) (Qn 13) (Qo (Qp (Qq (Qs true)))))]
def f43_c2:MC:=.r0 f43_r2
def f43_r3:List MO:=[Qa (Qv 14) (MOp.cld 1 false (Qn 4)),Qa (Qv 15) (MOp.cld 2 true (Qn 7)),Qa (Qv 16) (Qg 2 (Qn 5)),Qa (Qv 17) (MOp.cld 1 false (Qn 16)),Qa (Qv 18) (MOp.callN 44 [(Qn 17)]),Qa (Qv 19) (Qd (Qn 1)),Qa (Qv 20) (MOp.bslice 1 [(Qr Qu 0)] 1 [(0,(Qn 19))]),Qa (Qv 21) (MOp.appF 3 1 8 (Qn 18) (Qn 20)),Qa (Qv 22) (MOp.build [(Qr Qu 0),(Qr Qu 0),(D.sl [])] [(0,(2,(Qn 15))),(2,(1,(Qn 21)))]),Qa (Qv 23) (MOp.bslice 3 [(Qr Qu 0),(Qr Qu 0),(D.sl [])] 1 [(0,(Qn 22))]),Qa (Qv 24) (MOp.app 68 3 40 (Qn 14) (Qn 23)),Qa none (Ql 1 (Qn 4) (Qn 24))]
def f43_c3:MC:=.reg true f43_r3
def f43_c8:MC:=.seq f43_c0 (.seq f43_c1 (.cond (Qn 11) (.seq f43_c2 f43_c3) .skip))
attribute [go_sem] f43_r0 f43_r1 f43_r2 f43_r3
theorem f43_k : KK QP 43 f43 [3018,4021,2000] f43_c8 [] 25 := by refine ⟨func43,?_,?_,?_,?_⟩<;>kernel_rfl
theorem f43_ok : callable QP 43 = true := by kernel_rfl
theorem f43_tri (h : GT QP gp [] pre R 25 f43_c8 args) : Tri QP gp 43 args pre R := f43_k.t h
def f45_r0:List MO:=[Qa (Qv 4) (MOp.alloc [(Qr Qu 0),(Qr Qu 0),(Qr Qu 0),(D.str (ByteArray.mk #[])),(D.str (ByteArray.mk #[])),(D.str (ByteArray.mk #[]))])]
def f45_c0:MC:=.r0 f45_r0
def f45_r1:List MO:=[Qa (Qv 10) (Qd (Qn 0)),Qa (Qv 11) (MOp.nck (Qn 10)),Qa (Qv 12) (Qg 0 (Qn 11)),Qa (Qv 13) (Qf 2 true (Qn 12)),Qa (Qv 14) (Qd (Qn 1)),Qa (Qv 15) (Qh 21 [(Qn 13),(Qn 14)]),Qa (Qv 9) (Qd (Qn 15)),Qa (Qv 16) (Qi (Qn 9) 0),Qa (Qv 17) (Qi (Qn 9) 1),Qa (Qv 5) (Qd (Qn 16)),Qa (Qv 6) (Qd (Qn 17))]
def f45_c1:MC:=.r0 f45_r1
def f45_r2:List MO:=[Qa (Qv 18) (Qd (Qn 5)),Qa (Qv 19) (Qk Qt (Qn 18)),Qa (Qv 20) (Qd (Qo (Qp (Qq (Qr Qu 0)))))]
def f45_c2:MC:=.r0 f45_r2
def f45_r3:List MO:=[Qa (Qv 21) (Qe Qt Go.BinOp.lss (Qn 20) (Qn 19))]
def f45_c3:MC:=.r0 f45_r3
def f45_r7:List MO:=[Qa (Qv 22) (Qd (Qn 20)),Qa (Qv 23) (Qj 1 (Qn 18) (Qn 20)),Qa (Qv 24) (Qf 1 false (Qn 23)),Qa (Qv 7) (Qd (Qn 22)),Qa (Qv 8) (Qd (Qn 24))]
def f45_c7:MC:=.r0 f45_r7
def f45_r8:List MO:=[Qa (Qv 25) (Qd (Qn 5)),Qa (Qv 26) (Qd (Qn 7)),Qa (Qv 27) (Qd (Qn 0)),Qa (Qv 28) (MOp.nck (Qn 27)),Qa (Qv 29) (Qg 2 (Qn 28)),Qa (Qv 30) (Qf 1 false (Qn 29)),Qa (Qv 31) (Qd (Qn 8)),Qa (Qv 32) (Qj 1 (Qn 30) (Qn 31)),Qa (Qv 33) (Qf 1 false (Qn 32)),Qa (Qv 34) (Qj 1 (Qn 25) (Qn 26)),Qa none (Ql 1 (Qn 34) (Qn 33))]
def f45_c8:MC:=.r0 f45_r8
def f45_r11:List MO:=[Qa (Qv 35) (Qe Qt Go.BinOp.add (Qn 20) (Qo (Qp (Qq (Qr Qu 1))))),Qa (Qv 20) (Qd (Qn 35))]
def f45_c11:MC:=.r0 f45_r11
def f45_c14:MC:=.seq f45_c3 (.seq (.cond (Qn 21) .skip (MC.exit 0)) (.seq (.blk 1 (.seq f45_c7 f45_c8)) f45_c11))
def f45_r18:List MO:=[Qa (Qv 36) (Qd (Qn 0)),Qa (Qv 37) (MOp.nck (Qn 36)),Qa (Qv 38) (Qg 0 (Qn 37)),Qa (Qv 39) (Qg 1 (Qn 38)),Qa (Qv 40) (Qf 1 false (Qn 39)),Qa (Qv 41) (Qd (Qn 1)),Qa (Qv 42) (Qj 6 (Qn 40) (Qn 41)),Qa (Qv 43) (Qg 0 (Qn 42)),Qa (Qv 44) (Qf 1 false (Qn 43)),Qa (Qv 45) (Qd (Qn 0)),Qa (Qv 46) (MOp.nck (Qn 45)),Qa (Qv 47) (Qg 0 (Qn 46)),Qa (Qv 48) (Qg 1 (Qn 47)),Qa (Qv 49) (Qf 1 false (Qn 48)),Qa (Qv 50) (Qd (Qn 1)),Qa (Qv 51) (Qj 6 (Qn 49) (Qn 50)),Qa (Qv 52) (Qg 1 (Qn 51)),Qa (Qv 53) (Qf 3 true (Qn 52)),Qa (Qv 54) (Qd (Qn 0)),Qa (Qv 55) (Qd (Qn 1)),Qa (Qv 56) (Qh 74 [(Qn 54),(Qn 55)]),Qa (Qv 57) (Qd (Qn 5)),Qa (Qv 58) (Qh 75 [(Qn 57)]),Qa (Qv 59) (MOp.build [(Qr Qu 0),(Qr Qu 0),(Qr Qu 0),(D.str (ByteArray.mk #[])),(D.str (ByteArray.mk #[])),(D.str (ByteArray.mk #[]))] [(0,(1,(Qn 44))),(1,(3,(Qn 53))),(4,(1,(Qn 56))),(5,(1,(Qn 58)))]),Qa none (Ql 6 (Qn 4) (Qn 59))]
def f45_c18:MC:=.reg true f45_r18
def f45_c22:MC:=.seq f45_c1 (.seq (.seq f45_c2 (.blk 0 (.loop f45_c14))) (.seq f45_c18 .ret))
def f45_c23:MC:=.seq f45_c0 f45_c22
attribute [go_sem] f45_r0 f45_r1 f45_r2 f45_r3 f45_r7 f45_r8 f45_r11 f45_r18
theorem f45_k : KK QP 45 f45 [] f45_c23 [(RV.cell 4 6 true)] 60 := by refine ⟨func45,?_,?_,?_,?_⟩<;>kernel_rfl
theorem f45_ok : callable QP 45 = true := by kernel_rfl
theorem f45_in (h : GI QP gp [(RV.cell 4 6 true)] res 60 f45_c23 args) : Does QP gp 45 args res := f45_k.i f45_ok h
def f71_r0:List MO:=[Qa (Qv 2) (Qd (Qo (Qp (Qq (Qr Qu 0)))))]
def f71_c0:MC:=.r0 f71_r0
def f71_r1:List MO:=[Qa (Qv 9) MOp.mkM,Qa (Qv 3) (MOp.alloc [(D.raw (Go.Value.map none))]),Qa none (Ql 1 (Qn 3) (Qn 9))]
def f71_c1:MC:=.r0 f71_r1
def f71_r2:List MO:=[Qa (Qv 10) (Qd (Qn 0)),Qa (Qv 11) (MOp.nck (Qn 10)),Qa (Qv 12) (Qg 2 (Qn 11)),Qa (Qv 13) (Qf 1 false (Qn 12)),Qa (Qv 14) (Qk Qt (Qn 13)),Qa (Qv 15) (MOp.mkS 1 8 [(Qr Qu 0)] (Qn 14)),Qa (Qv 4) (MOp.alloc [(D.sl [])]),Qa none (Ql 1 (Qn 4) (Qn 15))]
def f71_c2:MC:=.r0 f71_r2
def f71_r3:List MO:=[Qa (Qv 16) (Qd (Qn 0)),Qa (Qv 17) (Qh 97 [(Qn 16)])]
def f71_c3:MC:=.r0 f71_r3
def f71_r4:List MO:=[Qa (Qv 5) (Qd (Qn 18))]
def f71_c4:MC:=.r0 f71_r4
def f71_r5:List MO:=[Qa (Qv 6) (MOp.alloc [(Qr Qu 0),(Qr Qu 0),(Qr Qu 0),(D.str (ByteArray.mk #[])),(D.str (ByteArray.mk #[])),(D.str (ByteArray.mk #[]))]),Qa none (Ql 6 (Qn 6) (Qn 19))]
def f71_c5:MC:=.r0 f71_r5
def f71_r7:List MO:=[Qa (Qv 21) (Qf 1 false (Qn 3)),Qa (Qv 22) (Qf 6 true (Qn 6)),Qa (Qv 23) (MOp.lkp true (Qp (Qq (Qr Qu 0))) true [Qt,Qt,Qt,Leaf.s,Leaf.s,Leaf.s] (Qn 21) (Qn 22)),Qa (Qv 20) (Qd (Qn 23)),Qa (Qv 24) (Qi (Qn 20) 0),Qa (Qv 25) (Qi (Qn 20) 1),Qa (Qv 7) (Qd (Qn 24)),Qa (Qv 8) (Qd (Qn 25))]
def f71_c7:MC:=.r0 f71_r7
def f71_r8:List MO:=[Qa (Qv 26) (Qd (Qn 8)),Qa (Qv 27) (MOp.not (Qn 26))]
def f71_c8:MC:=.r0 f71_r8
def f71_r9:List MO:=[Qa (Qv 28) (Qf 1 false (Qn 3)),Qa (Qv 29) (Qf 6 true (Qn 6)),Qa (Qv 30) (Qf 1 false (Qn 3)),Qa (Qv 31) (Qk Leaf.b (Qn 30)),Qa none (MOp.mupd true [Qt,Qt,Qt,Leaf.s,Leaf.s,Leaf.s] (Qn 28) (Qn 29) (Qn 31))]
def f71_c9:MC:=.r0 f71_r9
def f71_r14:List MO:=[Qa (Qv 32) (Qf 1 false (Qn 4)),Qa (Qv 33) (Qd (Qn 5)),Qa (Qv 34) (Qf 1 false (Qn 3)),Qa (Qv 35) (Qf 6 true (Qn 6)),Qa (Qv 36) (MOp.lkp false (Qp (Qq (Qr Qu 0))) true [Qt,Qt,Qt,Leaf.s,Leaf.s,Leaf.s] (Qn 34) (Qn 35)),Qa (Qv 37) (Qj 1 (Qn 32) (Qn 33)),Qa none (Ql 1 (Qn 37) (Qn 36))]
def f71_c14:MC:=.reg true f71_r14
def f71_c15:MC:=.seq (.seq f71_c7 (.seq f71_c8 (.cond (Qn 27) f71_c9 .skip))) f71_c14
def f71_c17:MC:=.rf (Qn 17) [18,19] (.seq f71_c4 f71_c5) (.blk 1 f71_c15)
def f71_r20:List MO:=[Qa (Qv 38) (Qd (Qn 0)),Qa (Qv 39) (MOp.nck (Qn 38)),Qa (Qv 40) (Qg 2 (Qn 39)),Qa (Qv 41) (Qf 1 false (Qn 40)),Qa (Qv 42) (Qf 1 false (Qn 4)),Qa (Qv 43) (MOp.cpy 1 (Qn 41) (Qn 42))]
def f71_c20:MC:=.reg true f71_r20
def f71_r21:List MO:=[Qa (Qv 44) (Qf 1 false (Qn 3)),Qa (Qv 45) (Qk Leaf.b (Qn 44)),Qa (Qv 2) (Qd (Qn 45))]
def f71_c21:MC:=.r0 f71_r21
def f71_c25:MC:=.seq (.seq f71_c3 (.blk 0 f71_c17)) (.seq f71_c20 (.seq f71_c21 .ret))
def f71_c28:MC:=.seq f71_c0 (.seq f71_c1 (.seq f71_c2 f71_c25))
attribute [go_sem] f71_r0 f71_r1 f71_r2 f71_r3 f71_r4 f71_r5 f71_r7 f71_r8 f71_r9 f71_r14 f71_r20 f71_r21
theorem f71_k : KK QP 71 f71 [] f71_c28 [(RV.t 2)] 46 := by refine ⟨func71,?_,?_,?_,?_⟩<;>kernel_rfl
theorem f71_ok : callable QP 71 = true := by kernel_rfl
theorem f71_tri (h : GT QP gp [(RV.t 2)] pre R 46 f71_c28 args) : Tri QP gp 71 args pre R := f71_k.t h
def f73_r0:List MO:=[Qa (Qv 2) (Qd (Qo (Qp A.nil)))]
def f73_c0:MC:=.r0 f73_r0
def f73_r1:List MO:=[Qa (Qv 3) (Qd (Qn 0)),Qa (Qv 4) (MOp.nilq NK.sl false (Qn 3))]
def f73_c1:MC:=.r0 f73_r1
def f73_r2:List MO:=[Qa (Qv 2) (Qd (Qo (Qp A.nil)))]
def f73_c2:MC:=.r0 f73_r2
def f73_r8:List MO:=[Qa (Qv 5) (MOp.bslO 6 [(Qr Qu 0),(Qr Qu 0),(Qr Qu 0),(D.str (ByteArray.mk #[])),(D.sl []),(D.sl [])] 0 []),Qa (Qv 6) (Qd (Qn 0)),Qa (Qv 7) (MOp.app 44 6 88 (Qn 5) (Qn 6)),Qa (Qv 2) (Qd (Qn 7))]
def f73_c8:MC:=.r0 f73_r8
def f73_c12:MC:=.seq f73_c0 (.seq (.seq f73_c1 (.cond (Qn 4) (.seq f73_c2 .ret) .skip)) (.seq f73_c8 .ret))
theorem f73_k : KK QP 73 f73 [5] f73_c12 [(RV.t 2)] 8 := by refine ⟨func73,?_,?_,?_,?_⟩<;>kernel_rfl
theorem f73_ok : callable QP 73 = true := by kernel_rfl
theorem f73_tri (h : GT QP gp [(RV.t 2)] pre R 8 f73_c12 args) : Tri QP gp 73 args pre R := f73_k.t h
def f74_r0:List MO:=[Qa (Qv 4) (Qd (Qo (Qp (Qq (D.str (ByteArray.mk #[]))))))]
def f74_c0:MC:=.r0 f74_r0
def f74_r1:List MO:=[Qa (Qv 13) (Qd (Qn 0)),Qa (Qv 14) (MOp.nck (Qn 13)),Qa (Qv 15) (Qg 0 (Qn 14)),Qa (Qv 16) (Qf 2 true (Qn 15)),Qa (Qv 17) (Qd (Qn 1)),Qa (Qv 18) (Qh 64 [(Qn 16),(Qn 17)]),Qa (Qv 12) (Qd (Qn 18)),Qa (Qv 19) (Qi (Qn 12) 0),Qa (Qv 20) (Qi (Qn 12) 1),Qa (Qv 5) (Qd (Qn 19)),Qa (Qv 6) (Qd (Qn 20))]
def f74_c1:MC:=.r0 f74_r1
def f74_r2:List MO:=[Qa (Qv 7) (MOp.bldN 169 5)]
def f74_c2:MC:=.r0 f74_r2
def f74_r3:List MO:=[Qa (Qv 21) (Qd (Qn 5)),Qa (Qv 22) (Qk Qt (Qn 21)),Qa (Qv 23) (Qd (Qo (Qp (Qq (Qr Qu 0)))))]
def f74_c3:MC:=.r0 f74_r3
def f74_r4:List MO:=[Qa (Qv 24) (Qe Qt Go.BinOp.lss (Qn 23) (Qn 22))]
def f74_c4:MC:=.r0 f74_r4
def f74_r8:List MO:=[Qa (Qv 25) (Qj 3 (Qn 21) (Qn 23)),Qa (Qv 26) (Qf 3 true (Qn 25)),Qa (Qv 9) (MOp.alloc [(Qr Qu 0),(Qr Qu 0),(D.str (ByteArray.mk #[]))]),Qa none (Ql 3 (Qn 9) (Qn 26))]
def f74_c8:MC:=.r0 f74_r8
def f74_r9:List MO:=[Qa (Qv 28) (Qf 3 true (Qn 9)),Qa (Qv 29) (Qh 100 [(Qn 28)]),Qa (Qv 27) (Qd (Qn 29)),Qa (Qv 30) (Qi (Qn 27) 0),Qa (Qv 31) (Qi (Qn 27) 1),Qa (Qv 10) (Qd (Qn 30)),Qa (Qv 11) (Qd (Qn 31))]
def f74_c9:MC:=.r0 f74_r9
def f74_r10:List MO:=[Qa (Qv 32) (Qd (Qn 10)),Qa (Qv 33) (Qe Leaf.s Go.BinOp.add (Qn 32) (Qo (Qp (Qq (D.str (ByteArray.mk #[44])))))),Qa (Qv 34) (Qh 101 [(Qn 7),(Qn 33)])]
def f74_c10:MC:=.r0 f74_r10
def f74_r14:List MO:=[Qa (Qv 35) (Qe Qt Go.BinOp.add (Qn 23) (Qo (Qp (Qq (Qr Qu 1))))),Qa (Qv 23) (Qd (Qn 35))]
def f74_c14:MC:=.r0 f74_r14
def f74_c15:MC:=.seq (.blk 1 (.seq f74_c8 (.seq f74_c9 f74_c10))) f74_c14
def f74_r21:List MO:=[Qa (Qv 36) (Qh 102 [(Qn 7)]),Qa (Qv 4) (Qd (Qn 36))]
def f74_c21:MC:=.r0 f74_r21
def f74_c24:MC:=.seq (.seq f74_c3 (.blk 0 (.loop (.seq f74_c4 (.seq (.cond (Qn 24) .skip (MC.exit 0)) f74_c15))))) (.seq f74_c21 .ret)
def f74_c27:MC:=.seq f74_c0 (.seq f74_c1 (.seq f74_c2 f74_c24))
attribute [go_sem] f74_r0 f74_r1 f74_r2 f74_r3 f74_r4 f74_r8 f74_r9 f74_r10 f74_r14 f74_r21
theorem f74_k : KK QP 74 f74 [] f74_c27 [(RV.t 4)] 37 := by refine ⟨func74,?_,?_,?_,?_⟩<;>kernel_rfl
theorem f74_ok : callable QP 74 = true := by kernel_rfl
theorem f74_in (h : GI QP gp [(RV.t 4)] res 37 f74_c27 args) : Does QP gp 74 args res := f74_k.i f74_ok h
def f75_r0:List MO:=[Qa (Qv 2) (Qd (Qo (Qp (Qq (D.str (ByteArray.mk #[]))))))]
def f75_c0:MC:=.r0 f75_r0
def f75_r1:List MO:=[Qa (Qv 3) (MOp.bldN 169 5)]
def f75_c1:MC:=.r0 f75_r1
def f75_r2:List MO:=[Qa (Qv 6) (Qd (Qn 0)),Qa (Qv 7) (Qk Qt (Qn 6)),Qa (Qv 8) (Qd (Qo (Qp (Qq (Qr Qu 0)))))]
def f75_c2:MC:=.r0 f75_r2
def f75_r3:List MO:=[Qa (Qv 9) (Qe Qt Go.BinOp.lss (Qn 8) (Qn 7))]
def f75_c3:MC:=.r0 f75_r3
def f75_r7:List MO:=[Qa (Qv 10) (Qj 1 (Qn 6) (Qn 8)),Qa (Qv 11) (Qf 1 false (Qn 10)),Qa (Qv 5) (Qd (Qn 11))]
def f75_c7:MC:=.r0 f75_r7
def f75_r8:List MO:=[Qa (Qv 12) (Qd (Qn 5)),Qa (Qv 13) (Qh 103 [(Qn 12)]),Qa (Qv 14) (Qe Leaf.s Go.BinOp.add (Qn 13) (Qo (Qp (Qq (D.str (ByteArray.mk #[44])))))),Qa (Qv 15) (Qh 101 [(Qn 3),(Qn 14)])]
def f75_c8:MC:=.r0 f75_r8
def f75_r11:List MO:=[Qa (Qv 16) (Qe Qt Go.BinOp.add (Qn 8) (Qo (Qp (Qq (Qr Qu 1))))),Qa (Qv 8) (Qd (Qn 16))]
def f75_c11:MC:=.r0 f75_r11
def f75_c14:MC:=.seq f75_c3 (.seq (.cond (Qn 9) .skip (MC.exit 0)) (.seq (.blk 1 (.seq f75_c7 f75_c8)) f75_c11))
def f75_r18:List MO:=[Qa (Qv 17) (Qh 102 [(Qn 3)]),Qa (Qv 2) (Qd (Qn 17))]
def f75_c18:MC:=.r0 f75_r18
def f75_c22:MC:=.seq f75_c1 (.seq (.seq f75_c2 (.blk 0 (.loop f75_c14))) (.seq f75_c18 .ret))
def f75_c23:MC:=.seq f75_c0 f75_c22
attribute [go_sem] f75_r0 f75_r1 f75_r2 f75_r3 f75_r7 f75_r8 f75_r11 f75_r18
theorem f75_k : KK QP 75 f75 [] f75_c23 [(RV.t 2)] 18 := by refine ⟨func75,?_,?_,?_,?_⟩<;>kernel_rfl
theorem f75_ok : callable QP 75 = true := by kernel_rfl
theorem f75_in (h : GI QP gp [(RV.t 2)] res 18 f75_c23 args) : Does QP gp 75 args res := f75_k.i f75_ok h
def f97_r0:List MO:=[Qa (Qv 1) (MOp.box (Qn 0)),Qa (Qv 2) (Qd (Qo (Qp (Qq D.nilF))))]
def f97_c0:MC:=.r0 f97_r0
def f97_r1:List MO:=[Qa (Qv 3) (MOp.mkF (Go.Fn.func 125) [(Qn 1)]),Qa (Qv 2) (Qd (Qn 3))]
def f97_c1:MC:=.r0 f97_r1
def f97_c4:MC:=.seq f97_c0 (.seq f97_c1 .ret)
attribute [go_sem] f97_r0 f97_r1
theorem f97_k : KK QP 97 f97 [] f97_c4 [(RV.t 2)] 4 := by refine ⟨func97,?_,?_,?_,?_⟩<;>kernel_rfl
theorem f97_ok : callable QP 97 = true := by kernel_rfl
theorem f97_tri (h : GT QP gp [(RV.t 2)] pre R 4 f97_c4 args) : Tri QP gp 97 args pre R := f97_k.t h
def f125_r1:List MO:=[Qa (Qv 4) (Qf 1 false (Qn 1)),Qa (Qv 5) (MOp.nck (Qn 4)),Qa (Qv 6) (Qg 0 (Qn 5)),Qa (Qv 7) (Qg 1 (Qn 6)),Qa (Qv 8) (Qf 1 false (Qn 7)),Qa (Qv 9) (Qk Qt (Qn 8)),Qa (Qv 10) (Qd (Qo (Qp (Qq (Qr Qu 0)))))]
def f125_c1:MC:=.r0 f125_r1
def f125_r2:List MO:=[Qa (Qv 11) (Qe Qt Go.BinOp.lss (Qn 10) (Qn 9))]
def f125_c2:MC:=.r0 f125_r2
def f125_r6:List MO:=[Qa (Qv 12) (Qd (Qn 10)),Qa (Qv 3) (Qd (Qn 12))]
def f125_c6:MC:=.r0 f125_r6
def f125_r7:List MO:=[Qa (Qv 13) (Qd (Qn 0)),Qa (Qv 14) (Qd (Qn 3)),Qa (Qv 15) (Qf 1 false (Qn 1)),Qa (Qv 16) (Qd (Qn 3)),Qa (Qv 17) (Qh 45 [(Qn 15),(Qn 16)]),Qa (Qv 18) (MOp.callv (Qn 13) [(Qn 14),(Qn 17)]),Qa (Qv 19) (MOp.not (Qn 18))]
def f125_c7:MC:=.r0 f125_r7
def f125_r14:List MO:=[Qa (Qv 20) (Qe Qt Go.BinOp.add (Qn 10) (Qo (Qp (Qq (Qr Qu 1))))),Qa (Qv 10) (Qd (Qn 20))]
def f125_c14:MC:=.r0 f125_r14
def f125_c17:MC:=.seq f125_c2 (.seq (.cond (Qn 11) .skip (MC.exit 0)) (.seq (.blk 1 (.seq f125_c6 (.seq f125_c7 (.cond (Qn 19) (MC.exit 0) .skip)))) f125_c14))
def f125_c22:MC:=.scope (.seq .skip (.seq f125_c1 (.blk 0 (.loop f125_c17))))
attribute [go_sem] f125_r1 f125_r2 f125_r6 f125_r7 f125_r14
theorem f125_k : KK QP 125 f125 [] f125_c22 [] 21 := by refine ⟨func125,?_,?_,?_,?_⟩<;>kernel_rfl
theorem f125_ok : callable QP 125 = true := by kernel_rfl
theorem f125_tri (h : GT QP gp [] pre R 21 f125_c22 args) : Tri QP gp 125 args pre R := f125_k.t h
end Go.Fw.L07
