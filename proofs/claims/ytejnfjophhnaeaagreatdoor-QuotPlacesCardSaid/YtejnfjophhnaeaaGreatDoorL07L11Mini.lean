/- Small codes. -/
import Derived.Test.YtejnfjophhnaeaaGreatDoorFd
import Derived.Test.YtejnfjophhnaeaaGreatDoorProg
set_option linter.all false
namespace Go.Fw.L07
open Go Go.Fw
open Go.Proofs.Tryz renaming prog -> QP
open Go.Proofs.Tryz (f10 f113 f24 f25 f27 f30 f54 f55 f56 f88 f89 func10 func113 func24 func25 func27 func30 func54 func55 func56 func88 func89)
open Go.Fw.MO renaming op -> Qa,chk -> Qb,opx -> Qc
open Go.Fw.MOp renaming mv -> Qd,bin -> Qe,load -> Qf,fad -> Qg,call -> Qh,ext -> Qi,iad -> Qj,len -> Qk,store -> Ql,pick -> Qm
open Go.Fw.Opd renaming t -> Qn,c -> Qo
open Go.Fw.V renaming one -> Qp
open Go.Fw.A renaming d -> Qq
open Go.Fw.D renaming int -> Qr,bool -> Qs
open Go.Fw.Leaf renaming i -> Qt
open Go.IntKind renaming i64 -> Qu
open Option renaming some -> Qv
variable {gp : Heap} {args : List V} {res : V} {pre : List Ch} {R : V -> List Ch -> Prop}
def f10_r0:List MO:=[Qa (Qv 1) (MOp.box (Qn 0)),Qa (Qv 2) (Qd (Qo (Qp (Qq (Qs false)))))]
def f10_c0:MC:=.r0 f10_r0
def f10_r1:List MO:=[Qa (Qv 17) (Qh 24 []),Qa (Qv 3) (Qd (Qn 17))]
def f10_c1:MC:=.r0 f10_r1
def f10_r2:List MO:=[Qa (Qv 18) (Qf 2 true (Qn 1)),Qa (Qv 19) (Qh 13 [(Qn 18),(Qo (Qp (Qq (Qr Qu 30))))]),Qa none (Ql 2 (Qn 1) (Qn 19))]
def f10_c2:MC:=.r0 f10_r2
def f10_r3:List MO:=[Qa (Qv 21) (Qf 2 true (Qn 1)),Qa (Qv 22) (Qh 25 [(Qn 21)]),Qa (Qv 20) (Qd (Qn 22)),Qa (Qv 23) (Qi (Qn 20) 0),Qa (Qv 24) (Qi (Qn 20) 1),Qa (Qv 4) (MOp.alloc [(Qr Qu 0),(D.sl [])]),Qa none (Ql 2 (Qn 4) (Qn 23)),Qa (Qv 5) (Qd (Qn 24))]
def f10_c3:MC:=.r0 f10_r3
def f10_r4:List MO:=[Qa (Qv 26) (Qf 2 true (Qn 1)),Qa (Qv 27) (Qh 27 [(Qn 26)]),Qa (Qv 25) (Qd (Qn 27)),Qa (Qv 28) (Qi (Qn 25) 0),Qa (Qv 29) (Qi (Qn 25) 1),Qa (Qv 6) (Qd (Qn 28)),Qa (Qv 7) (Qd (Qn 29))]
def f10_c4:MC:=.r0 f10_r4
def f10_r5:List MO:=[Qa (Qv 31) (Qf 2 true (Qn 1)),Qa (Qv 32) (Qh 14 [(Qn 31)]),Qa (Qv 30) (Qd (Qn 32)),Qa (Qv 33) (Qi (Qn 30) 0),Qa (Qv 34) (Qi (Qn 30) 1),Qa (Qv 8) (Qd (Qn 33)),Qa (Qv 9) (Qd (Qn 34))]
def f10_c5:MC:=.r0 f10_r5
def f10_r6:List MO:=[Qa (Qv 36) (Qf 2 true (Qn 1)),Qa (Qv 37) (Qh 32 [(Qn 36)]),Qa (Qv 35) (Qd (Qn 37)),Qa (Qv 38) (Qi (Qn 35) 0),Qa (Qv 39) (Qi (Qn 35) 1),Qa (Qv 10) (Qd (Qn 38)),Qa (Qv 11) (Qd (Qn 39))]
def f10_c6:MC:=.r0 f10_r6
def f10_r7:List MO:=[Qa (Qv 40) (Qd (Qn 5)),Qa (Qv 41) (Qe Qt Go.BinOp.neq (Qn 40) (Qo (Qp (Qq (Qr Qu 0)))))]
def f10_c7:MC:=.r0 f10_r7
def f10_r8:List MO:=[Qa (Qv 42) (Qd (Qn 3)),Qa (Qv 43) (Qd (Qn 42)),Qb 43 true (Qv 44),Qa (Qv 44) (Qd (Qn 7)),Qb 43 true (Qv 45),Qa (Qv 45) (Qd (Qn 5)),Qb 43 true (Qv 46),Qa (Qv 46) (Qe Qt Go.BinOp.eql (Qn 44) (Qn 45)),Qa (Qv 47) (Qm (Qn 43) (Qn 46) (Qo (Qp (Qq (Qs false))))),Qa (Qv 48) (Qd (Qn 47)),Qb 48 true (Qv 49),Qa (Qv 49) (Qd (Qn 6)),Qb 48 true (Qv 50),Qa (Qv 50) (Qk Qt (Qn 49)),Qb 48 true (Qv 51),Qa (Qv 51) (Qe Qt Go.BinOp.eql (Qn 50) (Qo (Qp (Qq (Qr Qu 0))))),Qa (Qv 52) (Qm (Qn 48) (Qn 51) (Qo (Qp (Qq (Qs false))))),Qa (Qv 2) (Qd (Qn 52))]
def f10_c8:MC:=.r0 f10_r8
def f10_r14:List MO:=[Qa (Qv 53) (Qd (Qn 7)),Qa (Qv 54) (Qe Qt Go.BinOp.neq (Qn 53) (Qo (Qp (Qq (Qr Qu 0))))),Qa (Qv 55) (Qd (Qn 54)),Qb 55 false (Qv 56),Qa (Qv 56) (Qd (Qn 9)),Qb 55 false (Qv 57),Qa (Qv 57) (Qe Qt Go.BinOp.neq (Qn 56) (Qo (Qp (Qq (Qr Qu 0))))),Qa (Qv 58) (Qm (Qn 55) (Qo (Qp (Qq (Qs true)))) (Qn 57)),Qa (Qv 59) (Qd (Qn 58)),Qb 59 false (Qv 60),Qa (Qv 60) (Qd (Qn 11)),Qb 59 false (Qv 61),Qa (Qv 61) (Qe Qt Go.BinOp.neq (Qn 60) (Qo (Qp (Qq (Qr Qu 0))))),Qa (Qv 62) (Qm (Qn 59) (Qo (Qp (Qq (Qs true)))) (Qn 61)),Qa (Qv 63) (Qd (Qn 62)),Qb 63 false (Qv 64),Qa (Qv 64) (Qd (Qn 6)),Qb 63 false (Qv 65),Qa (Qv 65) (Qk Qt (Qn 64)),Qb 63 false (Qv 66),Qa (Qv 66) (Qg 1 (Qn 1)),Qb 63 false (Qv 67),Qa (Qv 67) (Qf 1 false (Qn 66)),Qb 63 false (Qv 68),Qa (Qv 68) (Qk Qt (Qn 67)),Qb 63 false (Qv 69),Qa (Qv 69) (Qe Qt Go.BinOp.neq (Qn 65) (Qn 68)),Qa (Qv 70) (Qm (Qn 63) (Qo (Qp (Qq (Qs true)))) (Qn 69)),Qa (Qv 71) (Qd (Qn 70)),Qb 71 false (Qv 72),Qa (Qv 72) (Qd (Qn 8)),Qb 71 false (Qv 73),Qa (Qv 73) (Qk Qt (Qn 72)),Qb 71 false (Qv 74),Qa (Qv 74) (Qg 1 (Qn 1)),Qb 71 false (Qv 75),Qa (Qv 75) (Qf 1 false (Qn 74)),Qb 71 false (Qv 76),Qa (Qv 76) (Qk Qt (Qn 75)),Qb 71 false (Qv 77),Qa (Qv 77) (Qe Qt Go.BinOp.neq (Qn 73) (Qn 76)),Qa (Qv 78) (Qm (Qn 71) (Qo (Qp (Qq (Qs true)))) (Qn 77))]
def f10_c14:MC:=.r0 f10_r14
def f10_r15:List MO:=[Qa (Qv 2) (Qd (Qo (Qp (Qq (Qs false)))))]
def f10_c15:MC:=.r0 f10_r15
def f10_r21:List MO:=[Qa (Qv 12) (Qd (Qo (Qp (Qq (Qr Qu 0)))))]
def f10_c21:MC:=.r0 f10_r21
def f10_r22:List MO:=[Qa (Qv 79) (Qd (Qn 12)),Qa (Qv 80) (Qd (Qn 6)),Qa (Qv 81) (Qk Qt (Qn 80)),Qa (Qv 82) (Qe Qt Go.BinOp.lss (Qn 79) (Qn 81))]
def f10_c22:MC:=.r0 f10_r22
def f10_r27:List MO:=[Qa (Qv 85) (Qd (Qn 6)),Qa (Qv 86) (Qd (Qn 12)),Qa (Qv 87) (Qj 1 (Qn 85) (Qn 86)),Qa (Qv 88) (Qf 1 false (Qn 87)),Qa (Qv 89) (Qe Qt Go.BinOp.lss (Qn 88) (Qo (Qp (Qq (Qr Qu (-1)))))),Qa (Qv 90) (Qd (Qn 89)),Qb 90 false (Qv 91),Qa (Qv 91) (Qd (Qn 6)),Qb 90 false (Qv 92),Qa (Qv 92) (Qd (Qn 12)),Qb 90 false (Qv 93),Qa (Qv 93) (Qj 1 (Qn 91) (Qn 92)),Qb 90 false (Qv 94),Qa (Qv 94) (Qf 1 false (Qn 93)),Qb 90 false (Qv 95),Qa (Qv 95) (Qg 1 (Qn 4)),Qb 90 false (Qv 96),Qa (Qv 96) (Qf 1 false (Qn 95)),Qb 90 false (Qv 97),Qa (Qv 97) (Qk Qt (Qn 96)),Qb 90 false (Qv 98),Qa (Qv 98) (Qe Qt Go.BinOp.geq (Qn 94) (Qn 97)),Qa (Qv 99) (Qm (Qn 90) (Qo (Qp (Qq (Qs true)))) (Qn 98))]
def f10_c27:MC:=.reg true f10_r27
def f10_r28:List MO:=[Qa (Qv 2) (Qd (Qo (Qp (Qq (Qs false)))))]
def f10_c28:MC:=.r0 f10_r28
def f10_r34:List MO:=[Qa (Qv 100) (Qd (Qn 6)),Qa (Qv 101) (Qd (Qn 12)),Qa (Qv 102) (Qj 1 (Qn 100) (Qn 101)),Qa (Qv 103) (Qf 1 false (Qn 102)),Qa (Qv 104) (Qe Qt Go.BinOp.geq (Qn 103) (Qo (Qp (Qq (Qr Qu 0)))))]
def f10_c34:MC:=.r0 f10_r34
def f10_r35:List MO:=[Qa (Qv 106) (Qd (Qn 12)),Qa (Qv 107) (Qg 1 (Qn 1)),Qa (Qv 108) (Qf 1 false (Qn 107)),Qa (Qv 109) (MOp.build [(Qr Qu 0),(D.sl [])] [(0,(1,(Qn 106))),(1,(1,(Qn 108)))]),Qa (Qv 110) (Qd (Qn 6)),Qa (Qv 111) (Qd (Qn 12)),Qa (Qv 112) (Qj 1 (Qn 110) (Qn 111)),Qa (Qv 113) (Qf 1 false (Qn 112)),Qa (Qv 114) (Qg 1 (Qn 4)),Qa (Qv 115) (Qf 1 false (Qn 114)),Qa (Qv 116) (MOp.build [(Qr Qu 0),(D.sl [])] [(0,(1,(Qn 113))),(1,(1,(Qn 115)))]),Qc (Qv 117) (Qh 16 [(Qn 109),(Qn 116)]),Qa (Qv 105) (Qd (Qn 117)),Qa (Qv 118) (Qi (Qn 105) 0),Qa (Qv 119) (Qi (Qn 105) 1),Qa (Qv 13) (Qd (Qn 118)),Qa (Qv 14) (Qd (Qn 119))]
def f10_c35:MC:=.reg true f10_r35
def f10_r36:List MO:=[Qa (Qv 120) (Qd (Qn 13)),Qa (Qv 121) (MOp.not (Qn 120))]
def f10_c36:MC:=.r0 f10_r36
def f10_r37:List MO:=[Qa (Qv 2) (Qd (Qo (Qp (Qq (Qs false)))))]
def f10_c37:MC:=.r0 f10_r37
def f10_c46:MC:=.seq f10_c34 (.cond (Qn 104) (.seq f10_c35 (.seq f10_c36 (.cond (Qn 121) (.seq f10_c37 .ret) .skip))) .skip)
def f10_r47:List MO:=[Qa (Qv 15) (Qd (Qo (Qp (Qq (Qr Qu 0)))))]
def f10_c47:MC:=.r0 f10_r47
def f10_r48:List MO:=[Qa (Qv 122) (Qd (Qn 15)),Qa (Qv 123) (Qd (Qn 12)),Qa (Qv 124) (Qe Qt Go.BinOp.lss (Qn 122) (Qn 123))]
def f10_c48:MC:=.r0 f10_r48
def f10_r53:List MO:=[Qa (Qv 127) (Qd (Qn 8)),Qa (Qv 128) (Qd (Qn 12)),Qa (Qv 129) (Qj 1 (Qn 127) (Qn 128)),Qa (Qv 130) (Qf 1 false (Qn 129)),Qa (Qv 131) (Qd (Qn 8)),Qa (Qv 132) (Qd (Qn 15)),Qa (Qv 133) (Qj 1 (Qn 131) (Qn 132)),Qa (Qv 134) (Qf 1 false (Qn 133)),Qa (Qv 135) (Qe Qt Go.BinOp.eql (Qn 130) (Qn 134)),Qa (Qv 136) (Qd (Qn 6)),Qa (Qv 137) (Qd (Qn 12)),Qa (Qv 138) (Qj 1 (Qn 136) (Qn 137)),Qa (Qv 139) (Qf 1 false (Qn 138)),Qa (Qv 140) (Qd (Qn 6)),Qa (Qv 141) (Qd (Qn 15)),Qa (Qv 142) (Qj 1 (Qn 140) (Qn 141)),Qa (Qv 143) (Qf 1 false (Qn 142)),Qa (Qv 144) (Qe Qt Go.BinOp.eql (Qn 139) (Qn 143)),Qa (Qv 145) (Qe Leaf.b Go.BinOp.neq (Qn 135) (Qn 144)),Qa (Qv 146) (Qd (Qn 145)),Qb 146 true (Qv 147),Qa (Qv 147) (Qd (Qn 6)),Qb 146 true (Qv 148),Qa (Qv 148) (Qd (Qn 12)),Qb 146 true (Qv 149),Qa (Qv 149) (Qj 1 (Qn 147) (Qn 148)),Qb 146 true (Qv 150),Qa (Qv 150) (Qf 1 false (Qn 149)),Qb 146 true (Qv 151),Qa (Qv 151) (Qe Qt Go.BinOp.geq (Qn 150) (Qo (Qp (Qq (Qr Qu 0))))),Qb 146 true (Qv 152),Qa (Qv 152) (Qd (Qn 151)),Qb 152 false (Qv 153),Qa (Qv 153) (Qd (Qn 6)),Qb 152 false (Qv 154),Qa (Qv 154) (Qd (Qn 15)),Qb 152 false (Qv 155),Qa (Qv 155) (Qj 1 (Qn 153) (Qn 154)),Qb 152 false (Qv 156),Qa (Qv 156) (Qf 1 false (Qn 155)),Qb 152 false (Qv 157),Qa (Qv 157) (Qe Qt Go.BinOp.geq (Qn 156) (Qo (Qp (Qq (Qr Qu 0))))),Qb 146 true (Qv 158),Qa (Qv 158) (Qm (Qn 152) (Qo (Qp (Qq (Qs true)))) (Qn 157)),Qa (Qv 159) (Qm (Qn 146) (Qn 158) (Qo (Qp (Qq (Qs false)))))]
def f10_c53:MC:=.reg true f10_r53
def f10_r54:List MO:=[Qa (Qv 2) (Qd (Qo (Qp (Qq (Qs false)))))]
def f10_c54:MC:=.r0 f10_r54
def f10_r61:List MO:=[Qa (Qv 125) (Qd (Qn 15)),Qa (Qv 126) (Qe Qt Go.BinOp.add (Qn 125) (Qo (Qp (Qq (Qr Qu 1))))),Qa (Qv 15) (Qd (Qn 126))]
def f10_c61:MC:=.r0 f10_r61
def f10_c63:MC:=.seq (.seq f10_c48 (.cond (Qn 124) .skip (MC.exit 2))) (.seq (.blk 3 (.seq f10_c53 (.cond (Qn 159) (.seq f10_c54 .ret) .skip))) f10_c61)
def f10_c68:MC:=.seq (.seq f10_c27 (.cond (Qn 99) (.seq f10_c28 .ret) .skip)) (.seq f10_c46 (.seq f10_c47 (.blk 2 (.loop f10_c63))))
def f10_r70:List MO:=[Qa (Qv 83) (Qd (Qn 12)),Qa (Qv 84) (Qe Qt Go.BinOp.add (Qn 83) (Qo (Qp (Qq (Qr Qu 1))))),Qa (Qv 12) (Qd (Qn 84))]
def f10_c70:MC:=.r0 f10_r70
def f10_c75:MC:=.seq f10_c21 (.blk 0 (.loop (.seq (.seq f10_c22 (.cond (Qn 82) .skip (MC.exit 0))) (.seq (.blk 1 f10_c68) f10_c70))))
def f10_r76:List MO:=[Qa (Qv 16) (Qd (Qo (Qp (Qq (Qr Qu 0)))))]
def f10_c76:MC:=.r0 f10_r76
def f10_r77:List MO:=[Qa (Qv 160) (Qd (Qn 16)),Qa (Qv 161) (Qd (Qn 10)),Qa (Qv 162) (Qk Qt (Qn 161)),Qa (Qv 163) (Qe Qt Go.BinOp.lss (Qn 160) (Qn 162))]
def f10_c77:MC:=.r0 f10_r77
def f10_r82:List MO:=[Qa (Qv 166) (Qd (Qn 10)),Qa (Qv 167) (Qd (Qn 16)),Qa (Qv 168) (Qj 1 (Qn 166) (Qn 167)),Qa (Qv 169) (Qf 1 false (Qn 168)),Qa (Qv 170) (Qe Qt Go.BinOp.lss (Qn 169) (Qo (Qp (Qq (Qr Qu 0))))),Qa (Qv 171) (Qd (Qn 170)),Qb 171 false (Qv 172),Qa (Qv 172) (Qd (Qn 10)),Qb 171 false (Qv 173),Qa (Qv 173) (Qd (Qn 16)),Qb 171 false (Qv 174),Qa (Qv 174) (Qj 1 (Qn 172) (Qn 173)),Qb 171 false (Qv 175),Qa (Qv 175) (Qf 1 false (Qn 174)),Qb 171 false (Qv 176),Qa (Qv 176) (Qd (Qn 6)),Qb 171 false (Qv 177),Qa (Qv 177) (Qk Qt (Qn 176)),Qb 171 false (Qv 178),Qa (Qv 178) (Qe Qt Go.BinOp.geq (Qn 175) (Qn 177)),Qa (Qv 179) (Qm (Qn 171) (Qo (Qp (Qq (Qs true)))) (Qn 178)),Qa (Qv 180) (Qd (Qn 179)),Qb 180 false (Qv 181),Qa (Qv 181) (Qd (Qn 6)),Qb 180 false (Qv 182),Qa (Qv 182) (Qd (Qn 10)),Qb 180 false (Qv 183),Qa (Qv 183) (Qd (Qn 16)),Qb 180 false (Qv 184),Qa (Qv 184) (Qj 1 (Qn 182) (Qn 183)),Qb 180 false (Qv 185),Qa (Qv 185) (Qf 1 false (Qn 184)),Qb 180 false (Qv 186),Qa (Qv 186) (Qj 1 (Qn 181) (Qn 185)),Qb 180 false (Qv 187),Qa (Qv 187) (Qf 1 false (Qn 186)),Qb 180 false (Qv 188),Qa (Qv 188) (Qe Qt Go.BinOp.lss (Qn 187) (Qo (Qp (Qq (Qr Qu 0))))),Qa (Qv 189) (Qm (Qn 180) (Qo (Qp (Qq (Qs true)))) (Qn 188))]
def f10_c82:MC:=.r0 f10_r82
def f10_r83:List MO:=[Qa (Qv 2) (Qd (Qo (Qp (Qq (Qs false)))))]
def f10_c83:MC:=.r0 f10_r83
def f10_r90:List MO:=[Qa (Qv 164) (Qd (Qn 16)),Qa (Qv 165) (Qe Qt Go.BinOp.add (Qn 164) (Qo (Qp (Qq (Qr Qu 1))))),Qa (Qv 16) (Qd (Qn 165))]
def f10_c90:MC:=.r0 f10_r90
def f10_c92:MC:=.seq (.seq f10_c77 (.cond (Qn 163) .skip (MC.exit 4))) (.seq (.blk 5 (.seq f10_c82 (.cond (Qn 189) (.seq f10_c83 .ret) .skip))) f10_c90)
def f10_r96:List MO:=[Qa (Qv 190) (Qd (Qn 3)),Qa (Qv 2) (Qd (Qn 190))]
def f10_c96:MC:=.r0 f10_r96
def f10_c100:MC:=.seq f10_c75 (.seq (.seq f10_c76 (.blk 4 (.loop f10_c92))) (.seq f10_c96 .ret))
def f10_c102:MC:=.seq (.seq f10_c7 (.cond (Qn 41) (.seq f10_c8 .ret) .skip)) (.seq (.seq f10_c14 (.cond (Qn 78) (.seq f10_c15 .ret) .skip)) f10_c100)
def f10_c105:MC:=.seq f10_c4 (.seq f10_c5 (.seq f10_c6 f10_c102))
def f10_c108:MC:=.seq f10_c1 (.seq f10_c2 (.seq f10_c3 f10_c105))
def f10_c109:MC:=.seq f10_c0 f10_c108
attribute [go_sem] f10_r0 f10_r1 f10_r2 f10_r3 f10_r4 f10_r5 f10_r6 f10_r7 f10_r8 f10_r14 f10_r15 f10_r21 f10_r22 f10_r27 f10_r28 f10_r34 f10_r35 f10_r36 f10_r37 f10_r47 f10_r48 f10_r53 f10_r54 f10_r61 f10_r70 f10_r76 f10_r77 f10_r82 f10_r83 f10_r90 f10_r96
theorem f10_k : KK QP 10 f10 [] f10_c109 [(RV.t 2)] 191 := by refine ⟨func10,?_,?_,?_,?_⟩<;>kernel_rfl
theorem f10_ok : callable QP 10 = true := by kernel_rfl
theorem f10_in (h : GI QP gp [(RV.t 2)] res 191 f10_c109 args) : Does QP gp 10 args res := f10_k.i f10_ok h
def f24_r0:List MO:=[Qa (Qv 0) (Qd (Qo (Qp (Qq (Qs false)))))]
def f24_c0:MC:=.r0 f24_r0
def f24_r1:List MO:=[Qa (Qv 9) (MOp.build [(Qr Qu 0),(Qr Qu 0),(D.str (ByteArray.mk #[]))] [(0,(1,(Qo (Qp (Qq (Qr Qu 2)))))),(1,(1,(Qo (Qp (Qq (Qr Qu 5))))))]),Qa (Qv 10) (MOp.build [(Qr Qu 0),(Qr Qu 0),(Qr Qu 0),(D.str (ByteArray.mk #[])),(D.sl []),(D.sl [])] [(1,(3,(Qn 9)))]),Qa (Qv 1) (MOp.alloc [(Qr Qu 0),(Qr Qu 0),(Qr Qu 0),(D.str (ByteArray.mk #[])),(D.sl []),(D.sl [])]),Qa none (Ql 6 (Qn 1) (Qn 10))]
def f24_c1:MC:=.r0 f24_r1
def f24_r2:List MO:=[Qa (Qv 11) (Qf 6 true (Qn 1)),Qa (Qv 12) (MOp.bslice 1 [(Qr Qu 0)] 2 [(0,(Qo (Qp (Qq (Qr Qu 0))))),(1,(Qo (Qp (Qq (Qr Qu 2)))))]),Qa (Qv 13) (MOp.build [(Qr Qu 0),(Qr Qu 0),(Qr Qu 0),(D.str (ByteArray.mk #[])),(D.sl []),(D.sl [])] [(0,(1,(Qo (Qp (Qq (Qr Qu 1)))))),(5,(1,(Qn 12)))]),Qa (Qv 14) (Qf 6 true (Qn 1)),Qa (Qv 15) (MOp.build [(Qr Qu 0),(Qr Qu 0),(Qr Qu 0),(D.str (ByteArray.mk #[])),(D.sl []),(D.sl [])] []),Qa (Qv 16) (MOp.bslice 6 [(Qr Qu 0),(Qr Qu 0),(Qr Qu 0),(D.str (ByteArray.mk #[])),(D.sl []),(D.sl [])] 4 [(0,(Qn 11)),(1,(Qn 13)),(2,(Qn 14)),(3,(Qn 15))]),Qa (Qv 17) (MOp.build [(Qr Qu 0),(D.sl [])] [(0,(1,(Qo (Qp (Qq (Qr Qu 1)))))),(1,(1,(Qn 16)))]),Qa (Qv 2) (MOp.alloc [(Qr Qu 0),(D.sl [])]),Qa none (Ql 2 (Qn 2) (Qn 17))]
def f24_c2:MC:=.r0 f24_r2
def f24_r3:List MO:=[Qa (Qv 19) (Qf 2 true (Qn 2)),Qa (Qv 20) (Qh 25 [(Qn 19)]),Qa (Qv 18) (Qd (Qn 20)),Qa (Qv 21) (Qi (Qn 18) 0),Qa (Qv 22) (Qi (Qn 18) 1),Qa (Qv 3) (MOp.alloc [(Qr Qu 0),(D.sl [])]),Qa none (Ql 2 (Qn 3) (Qn 21)),Qa (Qv 4) (Qd (Qn 22))]
def f24_c3:MC:=.r0 f24_r3
def f24_r4:List MO:=[Qa (Qv 24) (Qf 2 true (Qn 2)),Qa (Qv 25) (Qh 27 [(Qn 24)]),Qa (Qv 23) (Qd (Qn 25)),Qa (Qv 26) (Qi (Qn 23) 0),Qa (Qv 27) (Qi (Qn 23) 1),Qa (Qv 5) (Qd (Qn 26)),Qa (Qv 6) (Qd (Qn 27))]
def f24_c4:MC:=.r0 f24_r4
def f24_r5:List MO:=[Qa (Qv 29) (MOp.build [(Qr Qu 0),(D.sl [])] []),Qa (Qv 30) (Qh 25 [(Qn 29)]),Qa (Qv 28) (Qd (Qn 30)),Qa (Qv 31) (Qi (Qn 28) 0),Qa (Qv 32) (Qi (Qn 28) 1),Qa (Qv 7) (MOp.alloc [(Qr Qu 0),(D.sl [])]),Qa none (Ql 2 (Qn 7) (Qn 31)),Qa (Qv 8) (Qd (Qn 32))]
def f24_c5:MC:=.r0 f24_r5
def f24_r6:List MO:=[Qa (Qv 33) (Qd (Qn 4)),Qa (Qv 34) (Qe Qt Go.BinOp.eql (Qn 33) (Qo (Qp (Qq (Qr Qu 0))))),Qa (Qv 35) (Qd (Qn 34)),Qb 35 true (Qv 36),Qa (Qv 36) (Qf 2 true (Qn 3)),Qb 35 true (Qv 37),Qa (Qv 37) (MOp.bslice 1 [(Qr Qu 0)] 2 [(0,(Qo (Qp (Qq (Qr Qu 1))))),(1,(Qo (Qp (Qq (Qr Qu 1)))))]),Qb 35 true (Qv 38),Qa (Qv 38) (MOp.build [(Qr Qu 0),(Qr Qu 0),(Qr Qu 0),(D.str (ByteArray.mk #[])),(D.sl []),(D.sl [])] [(0,(1,(Qo (Qp (Qq (Qr Qu 1)))))),(5,(1,(Qn 37)))]),Qb 35 true (Qv 39),Qa (Qv 39) (Qf 6 true (Qn 1)),Qb 35 true (Qv 40),Qa (Qv 40) (MOp.bslice 6 [(Qr Qu 0),(Qr Qu 0),(Qr Qu 0),(D.str (ByteArray.mk #[])),(D.sl []),(D.sl [])] 2 [(0,(Qn 38)),(1,(Qn 39))]),Qb 35 true (Qv 41),Qa (Qv 41) (MOp.build [(Qr Qu 0),(D.sl [])] [(1,(1,(Qn 40)))]),Qb 35 true (Qv 42),Qa (Qv 42) (Qh 53 [(Qn 36),(Qn 41)]),Qa (Qv 43) (Qm (Qn 35) (Qn 42) (Qo (Qp (Qq (Qs false))))),Qa (Qv 44) (Qd (Qn 43)),Qb 44 true (Qv 45),Qa (Qv 45) (Qd (Qn 6)),Qb 44 true (Qv 46),Qa (Qv 46) (Qe Qt Go.BinOp.eql (Qn 45) (Qo (Qp (Qq (Qr Qu 0))))),Qa (Qv 47) (Qm (Qn 44) (Qn 46) (Qo (Qp (Qq (Qs false))))),Qa (Qv 48) (Qd (Qn 47)),Qb 48 true (Qv 49),Qa (Qv 49) (Qd (Qn 5)),Qb 48 true (Qv 50),Qa (Qv 50) (MOp.bslice 1 [(Qr Qu 0)] 4 [(0,(Qo (Qp (Qq (Qr Qu 1))))),(1,(Qo (Qp (Qq (Qr Qu 0))))),(2,(Qo (Qp (Qq (Qr Qu 1))))),(3,(Qo (Qp (Qq (Qr Qu (-1))))))]),Qb 48 true (Qv 51),Qa (Qv 51) (Qh 20 [(Qn 49),(Qn 50)]),Qa (Qv 52) (Qm (Qn 48) (Qn 51) (Qo (Qp (Qq (Qs false))))),Qa (Qv 53) (Qd (Qn 52)),Qb 53 true (Qv 54),Qa (Qv 54) (Qd (Qn 8)),Qb 53 true (Qv 55),Qa (Qv 55) (Qe Qt Go.BinOp.eql (Qn 54) (Qo (Qp (Qq (Qr Qu 70))))),Qa (Qv 56) (Qm (Qn 53) (Qn 55) (Qo (Qp (Qq (Qs false))))),Qa (Qv 57) (Qd (Qn 56)),Qb 57 true (Qv 58),Qa (Qv 58) (Qf 2 true (Qn 3)),Qb 57 true (Qv 59),Qa (Qv 59) (Qh 30 [(Qn 58)]),Qa (Qv 60) (Qm (Qn 57) (Qn 59) (Qo (Qp (Qq (Qs false))))),Qa (Qv 61) (Qd (Qn 60)),Qb 61 true (Qv 62),Qa (Qv 62) (Qf 2 true (Qn 2)),Qb 61 true (Qv 63),Qa (Qv 63) (Qh 30 [(Qn 62)]),Qb 61 true (Qv 64),Qa (Qv 64) (MOp.not (Qn 63)),Qa (Qv 65) (Qm (Qn 61) (Qn 64) (Qo (Qp (Qq (Qs false))))),Qa (Qv 0) (Qd (Qn 65))]
def f24_c6:MC:=.r0 f24_r6
def f24_c11:MC:=.seq f24_c3 (.seq f24_c4 (.seq f24_c5 (.seq f24_c6 .ret)))
def f24_c14:MC:=.seq f24_c0 (.seq f24_c1 (.seq f24_c2 f24_c11))
attribute [go_sem] f24_r0 f24_r1 f24_r2 f24_r3 f24_r4 f24_r5 f24_r6
theorem f24_k : KK QP 24 f24 [] f24_c14 [(RV.t 0)] 66 := by refine ⟨func24,?_,?_,?_,?_⟩<;>kernel_rfl
theorem f24_ok : callable QP 24 = true := by kernel_rfl
theorem f24_in (h : GI QP gp [(RV.t 0)] res 66 f24_c14 args) : Does QP gp 24 args res := f24_k.i f24_ok h
def f25_r0:List MO:=[Qa (Qv 1) (MOp.ibox (Qn 0)),Qa (Qv 2) (MOp.alloc [(Qr Qu 0),(D.sl [])]),Qa (Qv 3) (Qd (Qo (Qp (Qq (Qr Qu 0)))))]
def f25_c0:MC:=.r0 f25_r0
def f25_r1:List MO:=[Qa (Qv 7) (Qf 2 true (Qn 1)),Qa (Qv 8) (Qh 54 [(Qn 7)]),Qa (Qv 6) (Qd (Qn 8)),Qa (Qv 9) (Qi (Qn 6) 0),Qa (Qv 10) (Qi (Qn 6) 1),Qa (Qv 4) (Qd (Qn 9)),Qa (Qv 5) (Qd (Qn 10))]
def f25_c1:MC:=.r0 f25_r1
def f25_r2:List MO:=[Qa (Qv 11) (Qd (Qn 5)),Qa (Qv 12) (MOp.nilq NK.ifc true (Qn 11))]
def f25_c2:MC:=.r0 f25_r2
def f25_r3:List MO:=[Qa (Qv 13) (MOp.build [(Qr Qu 0),(D.sl [])] []),Qa (Qv 14) (Qd (Qn 5)),Qa (Qv 15) (Qh 55 [(Qn 14)]),Qa none (Ql 2 (Qn 2) (Qn 13)),Qa (Qv 3) (Qd (Qn 15))]
def f25_c3:MC:=.r0 f25_r3
def f25_r9:List MO:=[Qa (Qv 16) (Qd (Qn 4)),Qa (Qv 17) (Qh 56 [(Qn 16)]),Qa (Qv 18) (Qh 33 [(Qn 17)]),Qa (Qv 19) (Qi (Qn 18) 0),Qa (Qv 20) (Qi (Qn 18) 1),Qa none (Ql 2 (Qn 2) (Qn 19)),Qa (Qv 3) (Qd (Qn 20))]
def f25_c9:MC:=.r0 f25_r9
def f25_c13:MC:=.seq f25_c1 (.seq (.seq f25_c2 (.cond (Qn 12) (.seq f25_c3 .ret) .skip)) (.seq f25_c9 .ret))
def f25_c14:MC:=.seq f25_c0 f25_c13
attribute [go_sem] f25_r0 f25_r1 f25_r2 f25_r3 f25_r9
theorem f25_k : KK QP 25 f25 [1] f25_c14 [(RV.cell 2 2 true),(RV.t 3)] 21 := by refine ⟨func25,?_,?_,?_,?_⟩<;>kernel_rfl
theorem f25_ok : callable QP 25 = true := by kernel_rfl
theorem f25_in (h : GI QP gp [(RV.cell 2 2 true),(RV.t 3)] res 21 f25_c14 args) : Does QP gp 25 args res := f25_k.i f25_ok h
def f27_r0:List MO:=[Qa (Qv 1) (MOp.ibox (Qn 0)),Qa (Qv 2) (Qd (Qo (Qp A.nil))),Qa (Qv 3) (Qd (Qo (Qp (Qq (Qr Qu 0)))))]
def f27_c0:MC:=.r0 f27_r0
def f27_r1:List MO:=[Qa (Qv 18) (Qf 2 true (Qn 1)),Qa (Qv 19) (Qh 54 [(Qn 18)]),Qa (Qv 17) (Qd (Qn 19)),Qa (Qv 20) (Qi (Qn 17) 0),Qa (Qv 21) (Qi (Qn 17) 1),Qa (Qv 4) (Qd (Qn 20)),Qa (Qv 5) (Qd (Qn 21))]
def f27_c1:MC:=.r0 f27_r1
def f27_r2:List MO:=[Qa (Qv 22) (Qd (Qn 5)),Qa (Qv 23) (MOp.nilq NK.ifc true (Qn 22))]
def f27_c2:MC:=.r0 f27_r2
def f27_r3:List MO:=[Qa (Qv 24) (Qd (Qn 5)),Qa (Qv 25) (Qh 55 [(Qn 24)]),Qa (Qv 2) (Qd (Qo (Qp A.nil))),Qa (Qv 3) (Qd (Qn 25))]
def f27_c3:MC:=.r0 f27_r3
def f27_r9:List MO:=[Qa (Qv 26) (Qd (Qn 4)),Qa (Qv 27) (MOp.mkMv (Go.Fn.func 56) (Qn 26)),Qa (Qv 6) (Qd (Qn 27))]
def f27_c9:MC:=.r0 f27_r9
def f27_r10:List MO:=[Qa (Qv 29) (Qd (Qn 6)),Qa (Qv 30) (MOp.callv (Qn 29) []),Qa (Qv 31) (Qh 32 [(Qn 30)]),Qa (Qv 28) (Qd (Qn 31)),Qa (Qv 32) (Qi (Qn 28) 0),Qa (Qv 33) (Qi (Qn 28) 1),Qa (Qv 7) (Qd (Qn 32)),Qa (Qv 8) (Qd (Qn 33))]
def f27_c10:MC:=.r0 f27_r10
def f27_r11:List MO:=[Qa (Qv 34) MOp.mkM,Qa (Qv 9) (Qd (Qn 34))]
def f27_c11:MC:=.r0 f27_r11
def f27_r12:List MO:=[Qa (Qv 35) (Qd (Qn 7)),Qa (Qv 36) (Qk Qt (Qn 35)),Qa (Qv 37) (Qd (Qo (Qp (Qq (Qr Qu 0)))))]
def f27_c12:MC:=.r0 f27_r12
def f27_r13:List MO:=[Qa (Qv 38) (Qe Qt Go.BinOp.lss (Qn 37) (Qn 36))]
def f27_c13:MC:=.r0 f27_r13
def f27_r17:List MO:=[Qa (Qv 39) (Qd (Qn 37)),Qa (Qv 40) (Qj 1 (Qn 35) (Qn 37)),Qa (Qv 41) (Qf 1 false (Qn 40)),Qa (Qv 10) (Qd (Qn 39)),Qa (Qv 11) (Qd (Qn 41))]
def f27_c17:MC:=.r0 f27_r17
def f27_r18:List MO:=[Qa (Qv 42) (Qd (Qn 9)),Qa (Qv 43) (Qd (Qn 11)),Qa (Qv 44) (Qd (Qn 10)),Qa none (MOp.mupd false [Qt] (Qn 42) (Qn 43) (Qn 44))]
def f27_c18:MC:=.r0 f27_r18
def f27_r21:List MO:=[Qa (Qv 45) (Qe Qt Go.BinOp.add (Qn 37) (Qo (Qp (Qq (Qr Qu 1))))),Qa (Qv 37) (Qd (Qn 45))]
def f27_c21:MC:=.r0 f27_r21
def f27_c24:MC:=.seq f27_c13 (.seq (.cond (Qn 38) .skip (MC.exit 0)) (.seq (.blk 1 (.seq f27_c17 f27_c18)) f27_c21))
def f27_r28:List MO:=[Qa (Qv 12) (Qd (Qo (Qp A.nil)))]
def f27_c28:MC:=.r0 f27_r28
def f27_r29:List MO:=[Qa (Qv 46) (Qd (Qn 4)),Qa (Qv 47) (MOp.nck (Qn 46)),Qa (Qv 48) (Qg 2 (Qn 47)),Qa (Qv 49) (Qf 1 false (Qn 48)),Qa (Qv 50) (Qk Qt (Qn 49)),Qa (Qv 51) (Qd (Qo (Qp (Qq (Qr Qu 0)))))]
def f27_c29:MC:=.r0 f27_r29
def f27_r30:List MO:=[Qa (Qv 52) (Qe Qt Go.BinOp.lss (Qn 51) (Qn 50))]
def f27_c30:MC:=.r0 f27_r30
def f27_r34:List MO:=[Qa (Qv 53) (Qj 1 (Qn 49) (Qn 51)),Qa (Qv 54) (Qf 1 false (Qn 53)),Qa (Qv 14) (Qd (Qn 54))]
def f27_c34:MC:=.r0 f27_r34
def f27_r35:List MO:=[Qa (Qv 56) (Qd (Qn 9)),Qa (Qv 57) (Qd (Qn 14)),Qa (Qv 58) (MOp.lkp true (Qp (Qq (Qr Qu 0))) false [Qt] (Qn 56) (Qn 57)),Qa (Qv 55) (Qd (Qn 58)),Qa (Qv 59) (Qi (Qn 55) 0),Qa (Qv 60) (Qi (Qn 55) 1),Qa (Qv 15) (Qd (Qn 59)),Qa (Qv 16) (Qd (Qn 60))]
def f27_c35:MC:=.r0 f27_r35
def f27_r36:List MO:=[Qa (Qv 61) (Qd (Qn 16)),Qa (Qv 62) (MOp.not (Qn 61))]
def f27_c36:MC:=.r0 f27_r36
def f27_r37:List MO:=[Qa (Qv 15) (Qd (Qo (Qp (Qq (Qr Qu (-1))))))]
def f27_c37:MC:=.r0 f27_r37
def f27_r41:List MO:=[Qa (Qv 63) (Qd (Qn 12)),Qa (Qv 64) (Qd (Qn 15)),Qa (Qv 65) (MOp.bslice 1 [(Qr Qu 0)] 1 [(0,(Qn 64))]),Qa (Qv 66) (MOp.app 3 1 8 (Qn 63) (Qn 65)),Qa (Qv 12) (Qd (Qn 66))]
def f27_c41:MC:=.r0 f27_r41
def f27_c43:MC:=.seq f27_c35 (.seq (.seq f27_c36 (.cond (Qn 62) f27_c37 .skip)) f27_c41)
def f27_r46:List MO:=[Qa (Qv 67) (Qe Qt Go.BinOp.add (Qn 51) (Qo (Qp (Qq (Qr Qu 1))))),Qa (Qv 51) (Qd (Qn 67))]
def f27_c46:MC:=.r0 f27_r46
def f27_c49:MC:=.seq f27_c30 (.seq (.cond (Qn 52) .skip (MC.exit 2)) (.seq (.blk 3 (.seq f27_c34 f27_c43)) f27_c46))
def f27_r53:List MO:=[Qa (Qv 68) (Qd (Qn 12)),Qa (Qv 69) (Qd (Qn 8)),Qa (Qv 2) (Qd (Qn 68)),Qa (Qv 3) (Qd (Qn 69))]
def f27_c53:MC:=.r0 f27_r53
def f27_c57:MC:=.seq f27_c28 (.seq (.seq f27_c29 (.blk 2 (.loop f27_c49))) (.seq f27_c53 .ret))
def f27_c59:MC:=.seq f27_c11 (.seq (.seq f27_c12 (.blk 0 (.loop f27_c24))) f27_c57)
def f27_c62:MC:=.seq (.seq f27_c2 (.cond (Qn 23) (.seq f27_c3 .ret) .skip)) (.seq f27_c9 (.seq f27_c10 f27_c59))
def f27_c64:MC:=.seq f27_c0 (.seq f27_c1 f27_c62)
theorem f27_k : KK QP 27 f27 [1] f27_c64 [(RV.t 2),(RV.t 3)] 70 := by refine ⟨func27,?_,?_,?_,?_⟩<;>kernel_rfl
theorem f27_ok : callable QP 27 = true := by kernel_rfl
theorem f27_in (h : GI QP gp [(RV.t 2),(RV.t 3)] res 70 f27_c64 args) : Does QP gp 27 args res := f27_k.i f27_ok h
def f30_r0:List MO:=[Qa (Qv 1) (MOp.ibox (Qn 0)),Qa (Qv 2) (Qd (Qo (Qp (Qq (Qs false)))))]
def f30_c0:MC:=.r0 f30_r0
def f30_r1:List MO:=[Qa (Qv 6) (Qf 2 true (Qn 1)),Qa (Qv 7) (Qh 25 [(Qn 6)]),Qa (Qv 5) (Qd (Qn 7)),Qa (Qv 8) (Qi (Qn 5) 0),Qa (Qv 9) (Qi (Qn 5) 1),Qa (Qv 3) (MOp.alloc [(Qr Qu 0),(D.sl [])]),Qa none (Ql 2 (Qn 3) (Qn 8)),Qa (Qv 4) (Qd (Qn 9))]
def f30_c1:MC:=.r0 f30_r1
def f30_r2:List MO:=[Qa (Qv 10) (Qd (Qn 4)),Qa (Qv 11) (Qe Qt Go.BinOp.eql (Qn 10) (Qo (Qp (Qq (Qr Qu 0))))),Qa (Qv 12) (Qd (Qn 11)),Qb 12 true (Qv 13),Qa (Qv 13) (Qf 2 true (Qn 1)),Qb 12 true (Qv 14),Qa (Qv 14) (Qf 2 true (Qn 3)),Qb 12 true (Qv 15),Qa (Qv 15) (Qh 53 [(Qn 13),(Qn 14)]),Qa (Qv 16) (Qm (Qn 12) (Qn 15) (Qo (Qp (Qq (Qs false))))),Qa (Qv 2) (Qd (Qn 16))]
def f30_c2:MC:=.r0 f30_r2
def f30_c6:MC:=.seq f30_c0 (.seq f30_c1 (.seq f30_c2 .ret))
attribute [go_sem] f30_r0 f30_r1 f30_r2
theorem f30_k : KK QP 30 f30 [1] f30_c6 [(RV.t 2)] 17 := by refine ⟨func30,?_,?_,?_,?_⟩<;>kernel_rfl
theorem f30_ok : callable QP 30 = true := by kernel_rfl
theorem f30_in (h : GI QP gp [(RV.t 2)] res 17 f30_c6 args) : Does QP gp 30 args res := f30_k.i f30_ok h
def f54_r0:List MO:=[Qa (Qv 1) (MOp.ibox (Qn 0)),Qa (Qv 2) (Qd (Qo (Qp (Qq D.nilP)))),Qa (Qv 3) (Qd (Qo (Qp (Qq D.nilI))))]
def f54_c0:MC:=.r0 f54_r0
def f54_r1:List MO:=[Qa (Qv 7) (Qf 2 true (Qn 1)),Qa (Qv 8) (Qh 14 [(Qn 7)]),Qa (Qv 6) (Qd (Qn 8)),Qa (Qv 9) (Qi (Qn 6) 0),Qa (Qv 10) (Qi (Qn 6) 1),Qa (Qv 4) (Qd (Qn 9)),Qa (Qv 5) (Qd (Qn 10))]
def f54_c1:MC:=.r0 f54_r1
def f54_r2:List MO:=[Qa (Qv 11) (Qd (Qn 5)),Qa (Qv 12) (Qe Qt Go.BinOp.neq (Qn 11) (Qo (Qp (Qq (Qr Qu 0)))))]
def f54_c2:MC:=.r0 f54_r2
def f54_r3:List MO:=[Qa (Qv 13) (Qd (Qn 5)),Qa (Qv 14) (MOp.build [(Qr Qu 0)] [(0,(1,(Qn 13)))]),Qa (Qv 15) (MOp.mkI 132 (Qn 14)),Qa (Qv 2) (Qd (Qo (Qp (Qq D.nilP)))),Qa (Qv 3) (Qd (Qn 15))]
def f54_c3:MC:=.r0 f54_r3
def f54_r9:List MO:=[Qa (Qv 16) (Qf 2 true (Qn 1)),Qa (Qv 17) (Qd (Qn 4)),Qa (Qv 18) (MOp.build [(Qr Qu 0),(D.sl []),(D.sl [])] [(0,(2,(Qn 16))),(2,(1,(Qn 17)))]),Qa (Qv 19) (MOp.ibox (Qn 18)),Qa (Qv 2) (Qd (Qn 19)),Qa (Qv 3) (Qd (Qo (Qp (Qq D.nilI))))]
def f54_c9:MC:=.r0 f54_r9
def f54_c13:MC:=.seq f54_c1 (.seq (.seq f54_c2 (.cond (Qn 12) (.seq f54_c3 .ret) .skip)) (.seq f54_c9 .ret))
def f54_c14:MC:=.seq f54_c0 f54_c13
attribute [go_sem] f54_r0 f54_r1 f54_r2 f54_r3 f54_r9
theorem f54_k : KK QP 54 f54 [1,19] f54_c14 [(RV.t 2),(RV.t 3)] 20 := by refine ⟨func54,?_,?_,?_,?_⟩<;>kernel_rfl
theorem f54_ok : callable QP 54 = true := by kernel_rfl
theorem f54_in (h : GI QP gp [(RV.t 2),(RV.t 3)] res 20 f54_c14 args) : Does QP gp 54 args res := f54_k.i f54_ok h
def f55_r0:List MO:=[Qa (Qv 2) (Qd (Qo (Qp (Qq (Qr Qu 0)))))]
def f55_c0:MC:=.r0 f55_r0
def f55_r1:List MO:=[Qa (Qv 3) (MOp.alloc [(Qr Qu 0)])]
def f55_c1:MC:=.r0 f55_r1
def f55_r2:List MO:=[Qa (Qv 4) (Qd (Qn 0)),Qa (Qv 5) (MOp.mkI 134 (Qn 3)),Qa (Qv 6) (Qh 87 [(Qn 4),(Qn 5)])]
def f55_c2:MC:=.r0 f55_r2
def f55_r3:List MO:=[Qa (Qv 7) (Qg 0 (Qn 3)),Qa (Qv 8) (Qf 1 false (Qn 7)),Qa (Qv 2) (Qd (Qn 8))]
def f55_c3:MC:=.r0 f55_r3
def f55_r9:List MO:=[Qa (Qv 2) (Qd (Qo (Qp (Qq (Qr Qu 0)))))]
def f55_c9:MC:=.r0 f55_r9
def f55_c13:MC:=.seq f55_c1 (.seq (.seq f55_c2 (.cond (Qn 6) (.seq f55_c3 .ret) .skip)) (.seq f55_c9 .ret))
def f55_c14:MC:=.seq f55_c0 f55_c13
attribute [go_sem] f55_r0 f55_r1 f55_r2 f55_r3 f55_r9
theorem f55_k : KK QP 55 f55 [] f55_c14 [(RV.t 2)] 9 := by refine ⟨func55,?_,?_,?_,?_⟩<;>kernel_rfl
theorem f55_ok : callable QP 55 = true := by kernel_rfl
theorem f55_in (h : GI QP gp [(RV.t 2)] res 9 f55_c14 args) : Does QP gp 55 args res := f55_k.i f55_ok h
def f56_r0:List MO:=[Qa (Qv 1) (MOp.ibox (Qn 0)),Qa (Qv 2) (MOp.alloc [(Qr Qu 0),(D.sl [])])]
def f56_c0:MC:=.r0 f56_r0
def f56_r1:List MO:=[Qa (Qv 10) (Qf 1 false (Qn 1)),Qa (Qv 11) (MOp.nck (Qn 10)),Qa (Qv 12) (Qg 2 (Qn 11)),Qa (Qv 13) (Qf 1 false (Qn 12)),Qa (Qv 14) (Qf 1 false (Qn 1)),Qa (Qv 15) (MOp.nck (Qn 14)),Qa (Qv 16) (Qg 0 (Qn 15)),Qa (Qv 17) (Qg 0 (Qn 16)),Qa (Qv 18) (Qf 1 false (Qn 17)),Qa (Qv 19) (Qj 1 (Qn 13) (Qn 18)),Qa (Qv 20) (Qf 1 false (Qn 19)),Qa (Qv 21) (MOp.build [(Qr Qu 0),(D.sl [])] [(0,(1,(Qn 20)))]),Qa (Qv 3) (MOp.alloc [(Qr Qu 0),(D.sl [])]),Qa none (Ql 2 (Qn 3) (Qn 21))]
def f56_c1:MC:=.reg true f56_r1
def f56_r2:List MO:=[Qa (Qv 22) (Qf 1 false (Qn 1)),Qa (Qv 23) (Qh 88 [(Qn 22)])]
def f56_c2:MC:=.r0 f56_r2
def f56_r3:List MO:=[Qa (Qv 5) (Qd (Qn 25))]
def f56_c3:MC:=.r0 f56_r3
def f56_r4:List MO:=[Qa (Qv 27) (Qf 1 false (Qn 1)),Qa (Qv 28) (MOp.nck (Qn 27)),Qa (Qv 29) (Qg 0 (Qn 28)),Qa (Qv 30) (Qf 2 true (Qn 29)),Qa (Qv 31) (Qd (Qn 5)),Qa (Qv 32) (Qh 64 [(Qn 30),(Qn 31)]),Qa (Qv 26) (Qd (Qn 32)),Qa (Qv 33) (Qi (Qn 26) 0),Qa (Qv 34) (Qi (Qn 26) 1),Qa (Qv 6) (Qd (Qn 33)),Qa (Qv 7) (Qd (Qn 34))]
def f56_c4:MC:=.r0 f56_r4
def f56_r5:List MO:=[Qa (Qv 36) (Qf 1 false (Qn 1)),Qa (Qv 37) (MOp.nck (Qn 36)),Qa (Qv 38) (Qg 0 (Qn 37)),Qa (Qv 39) (Qf 2 true (Qn 38)),Qa (Qv 40) (Qd (Qn 5)),Qa (Qv 41) (Qh 21 [(Qn 39),(Qn 40)]),Qa (Qv 35) (Qd (Qn 41)),Qa (Qv 42) (Qi (Qn 35) 0),Qa (Qv 43) (Qi (Qn 35) 1),Qa (Qv 8) (Qd (Qn 42)),Qa (Qv 9) (Qd (Qn 43))]
def f56_c5:MC:=.r0 f56_r5
def f56_r6:List MO:=[Qa (Qv 44) (Qg 1 (Qn 3)),Qa (Qv 45) (Qf 1 false (Qn 44)),Qa (Qv 46) (Qf 1 false (Qn 1)),Qa (Qv 47) (MOp.nck (Qn 46)),Qa (Qv 48) (Qg 0 (Qn 47)),Qa (Qv 49) (Qg 1 (Qn 48)),Qa (Qv 50) (Qf 1 false (Qn 49)),Qa (Qv 51) (Qd (Qn 5)),Qa (Qv 52) (Qj 6 (Qn 50) (Qn 51)),Qa (Qv 53) (Qg 0 (Qn 52)),Qa (Qv 54) (Qf 1 false (Qn 53)),Qa (Qv 55) (Qf 1 false (Qn 1)),Qa (Qv 56) (MOp.nck (Qn 55)),Qa (Qv 57) (Qg 0 (Qn 56)),Qa (Qv 58) (Qg 1 (Qn 57)),Qa (Qv 59) (Qf 1 false (Qn 58)),Qa (Qv 60) (Qd (Qn 5)),Qa (Qv 61) (Qj 6 (Qn 59) (Qn 60)),Qa (Qv 62) (Qg 1 (Qn 61)),Qa (Qv 63) (Qf 3 true (Qn 62)),Qa (Qv 64) (Qd (Qn 6)),Qa (Qv 65) (Qf 1 false (Qn 1)),Qa (Qv 66) (Qd (Qn 8)),Qa (Qv 67) (Qh 89 [(Qn 65),(Qn 66)]),Qa (Qv 68) (MOp.build [(Qr Qu 0),(Qr Qu 0),(Qr Qu 0),(D.str (ByteArray.mk #[])),(D.sl []),(D.sl [])] [(0,(1,(Qn 54))),(1,(3,(Qn 63))),(4,(1,(Qn 64))),(5,(1,(Qn 67)))]),Qa (Qv 69) (MOp.bslice 6 [(Qr Qu 0),(Qr Qu 0),(Qr Qu 0),(D.str (ByteArray.mk #[])),(D.sl []),(D.sl [])] 1 [(0,(Qn 68))]),Qa (Qv 70) (MOp.app 44 6 88 (Qn 45) (Qn 69)),Qa (Qv 71) (Qg 1 (Qn 3)),Qa none (Ql 1 (Qn 71) (Qn 70))]
def f56_c6:MC:=.reg true f56_r6
def f56_c10:MC:=.rf (Qn 23) [24,25] f56_c3 (.blk 1 (.seq f56_c4 (.seq f56_c5 f56_c6)))
def f56_r13:List MO:=[Qa (Qv 72) (Qf 2 true (Qn 3)),Qa none (Ql 2 (Qn 2) (Qn 72))]
def f56_c13:MC:=.r0 f56_r13
def f56_c17:MC:=.seq f56_c1 (.seq (.seq f56_c2 (.blk 0 f56_c10)) (.seq f56_c13 .ret))
def f56_c18:MC:=.seq f56_c0 f56_c17
attribute [go_sem] f56_r0 f56_r1 f56_r2 f56_r3 f56_r4 f56_r5 f56_r6 f56_r13
theorem f56_k : KK QP 56 f56 [1] f56_c18 [(RV.cell 2 2 true)] 73 := by refine ⟨func56,?_,?_,?_,?_⟩<;>kernel_rfl
theorem f56_ok : callable QP 56 = true := by kernel_rfl
theorem f56_in (h : GI QP gp [(RV.cell 2 2 true)] res 73 f56_c18 args) : Does QP gp 56 args res := f56_k.i f56_ok h
def f88_r0:List MO:=[Qa (Qv 1) (MOp.ibox (Qn 0)),Qa (Qv 2) (Qd (Qo (Qp (Qq D.nilF))))]
def f88_c0:MC:=.r0 f88_r0
def f88_r1:List MO:=[Qa (Qv 3) (MOp.mkF (Go.Fn.func 113) [(Qn 1)]),Qa (Qv 2) (Qd (Qn 3))]
def f88_c1:MC:=.r0 f88_r1
def f88_c4:MC:=.seq f88_c0 (.seq f88_c1 .ret)
attribute [go_sem] f88_r0 f88_r1
theorem f88_k : KK QP 88 f88 [1] f88_c4 [(RV.t 2)] 4 := by refine ⟨func88,?_,?_,?_,?_⟩<;>kernel_rfl
theorem f88_ok : callable QP 88 = true := by kernel_rfl
theorem f88_in (h : GI QP gp [(RV.t 2)] res 4 f88_c4 args) : Does QP gp 88 args res := f88_k.i f88_ok h
def f89_r0:List MO:=[Qa (Qv 4) (Qd (Qo (Qp A.nil)))]
def f89_c0:MC:=.r0 f89_r0
def f89_r1:List MO:=[Qa (Qv 5) (Qd (Qo (Qp A.nil)))]
def f89_c1:MC:=.r0 f89_r1
def f89_r2:List MO:=[Qa (Qv 8) (Qd (Qn 1)),Qa (Qv 9) (Qk Qt (Qn 8)),Qa (Qv 10) (Qd (Qo (Qp (Qq (Qr Qu 0)))))]
def f89_c2:MC:=.r0 f89_r2
def f89_r3:List MO:=[Qa (Qv 11) (Qe Qt Go.BinOp.lss (Qn 10) (Qn 9))]
def f89_c3:MC:=.r0 f89_r3
def f89_r7:List MO:=[Qa (Qv 12) (Qj 1 (Qn 8) (Qn 10)),Qa (Qv 13) (Qf 1 false (Qn 12)),Qa (Qv 7) (Qd (Qn 13))]
def f89_c7:MC:=.r0 f89_r7
def f89_r8:List MO:=[Qa (Qv 14) (Qd (Qn 5)),Qa (Qv 15) (Qd (Qn 0)),Qa (Qv 16) (MOp.nck (Qn 15)),Qa (Qv 17) (Qg 2 (Qn 16)),Qa (Qv 18) (Qf 1 false (Qn 17)),Qa (Qv 19) (Qd (Qn 7)),Qa (Qv 20) (Qj 1 (Qn 18) (Qn 19)),Qa (Qv 21) (Qf 1 false (Qn 20)),Qa (Qv 22) (MOp.bslice 1 [(Qr Qu 0)] 1 [(0,(Qn 21))]),Qa (Qv 23) (MOp.app 3 1 8 (Qn 14) (Qn 22)),Qa (Qv 5) (Qd (Qn 23))]
def f89_c8:MC:=.r0 f89_r8
def f89_r11:List MO:=[Qa (Qv 24) (Qe Qt Go.BinOp.add (Qn 10) (Qo (Qp (Qq (Qr Qu 1))))),Qa (Qv 10) (Qd (Qn 24))]
def f89_c11:MC:=.r0 f89_r11
def f89_c14:MC:=.seq f89_c3 (.seq (.cond (Qn 11) .skip (MC.exit 0)) (.seq (.blk 1 (.seq f89_c7 f89_c8)) f89_c11))
def f89_r18:List MO:=[Qa (Qv 25) (Qd (Qn 5)),Qa (Qv 4) (Qd (Qn 25))]
def f89_c18:MC:=.r0 f89_r18
def f89_c22:MC:=.seq f89_c1 (.seq (.seq f89_c2 (.blk 0 (.loop f89_c14))) (.seq f89_c18 .ret))
def f89_c23:MC:=.seq f89_c0 f89_c22
theorem f89_k : KK QP 89 f89 [] f89_c23 [(RV.t 4)] 26 := by refine ⟨func89,?_,?_,?_,?_⟩<;>kernel_rfl
theorem f89_ok : callable QP 89 = true := by kernel_rfl
theorem f89_in (h : GI QP gp [(RV.t 4)] res 26 f89_c23 args) : Does QP gp 89 args res := f89_k.i f89_ok h
def f113_r0:List MO:=[Qa (Qv 6) MOp.mkM,Qa (Qv 3) (Qd (Qn 6))]
def f113_c0:MC:=.r0 f113_r0
def f113_r2:List MO:=[Qa (Qv 7) (Qf 1 false (Qn 1)),Qa (Qv 8) (MOp.nck (Qn 7)),Qa (Qv 9) (Qg 2 (Qn 8)),Qa (Qv 10) (Qf 1 false (Qn 9)),Qa (Qv 11) (Qk Qt (Qn 10)),Qa (Qv 12) (Qd (Qo (Qp (Qq (Qr Qu 0)))))]
def f113_c2:MC:=.r0 f113_r2
def f113_r3:List MO:=[Qa (Qv 13) (Qe Qt Go.BinOp.lss (Qn 12) (Qn 11))]
def f113_c3:MC:=.r0 f113_r3
def f113_r7:List MO:=[Qa (Qv 14) (Qd (Qn 12)),Qa (Qv 15) (Qj 1 (Qn 10) (Qn 12)),Qa (Qv 16) (Qf 1 false (Qn 15)),Qa (Qv 4) (Qd (Qn 14)),Qa (Qv 5) (Qd (Qn 16))]
def f113_c7:MC:=.r0 f113_r7
def f113_r8:List MO:=[Qa (Qv 17) (Qd (Qn 3)),Qa (Qv 18) (Qd (Qn 5)),Qa (Qv 19) (MOp.lkp false (Qp (Qq (Qs false))) false [Qt] (Qn 17) (Qn 18))]
def f113_c8:MC:=.r0 f113_r8
def f113_r13:List MO:=[Qa (Qv 20) (Qd (Qn 3)),Qa (Qv 21) (Qd (Qn 5)),Qa none (MOp.mupd false [Qt] (Qn 20) (Qn 21) (Qo (Qp (Qq (Qs true)))))]
def f113_c13:MC:=.r0 f113_r13
def f113_r14:List MO:=[Qa (Qv 22) (Qd (Qn 0)),Qa (Qv 23) (Qd (Qn 5)),Qa (Qv 24) (Qd (Qn 4)),Qa (Qv 25) (MOp.callv (Qn 22) [(Qn 23),(Qn 24)]),Qa (Qv 26) (MOp.not (Qn 25))]
def f113_c14:MC:=.r0 f113_r14
def f113_c21:MC:=.seq f113_c7 (.seq (.seq f113_c8 (.cond (Qn 19) (MC.exit 1) .skip)) (.seq f113_c13 (.seq f113_c14 (.cond (Qn 26) (MC.exit 0) .skip))))
def f113_r23:List MO:=[Qa (Qv 27) (Qe Qt Go.BinOp.add (Qn 12) (Qo (Qp (Qq (Qr Qu 1))))),Qa (Qv 12) (Qd (Qn 27))]
def f113_c23:MC:=.r0 f113_r23
def f113_c29:MC:=.seq f113_c2 (.blk 0 (.loop (.seq f113_c3 (.seq (.cond (Qn 13) .skip (MC.exit 0)) (.seq (.blk 1 f113_c21) f113_c23)))))
def f113_c32:MC:=.scope (.seq f113_c0 (.seq .skip f113_c29))
attribute [go_sem] f113_r0 f113_r2 f113_r3 f113_r7 f113_r8 f113_r13 f113_r14 f113_r23
theorem f113_k : KK QP 113 f113 [] f113_c32 [] 28 := by refine ⟨func113,?_,?_,?_,?_⟩<;>kernel_rfl
theorem f113_ok : callable QP 113 = true := by kernel_rfl
theorem f113_tri (h : GT QP gp [] pre R 28 f113_c32 args) : Tri QP gp 113 args pre R := f113_k.t h
end Go.Fw.L07
