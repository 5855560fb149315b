/- Small codes of chapter 7. -/
import Derived.Test.YtnampnnphgedhaaDoorFd
import Derived.Test.YtnampnnphgedhaaDoorProg
set_option linter.all false
namespace Go.Fw.L07
open Go Go.Fw
open Go.Fw.MO renaming op → Qa, chk → Qb
open Go.Fw.MOp renaming mv → Qc, bin → Qd, load → Qe, fad → Qf, call → Qg, ext → Qh, iad → Qi, len → Qj, store → Qk, pick → Ql
open Go.Fw.Opd renaming t → Qm, c → Qn
open Go.Fw.V renaming one → Qo
open Go.Fw.A renaming d → Qp
open Go.Fw.D renaming int → Qq, bool → Qr
open Go.Fw.Leaf renaming i → Qs
open Go.IntKind renaming i64 → Qt
open Option renaming some → Qu
/-! sigillary/sigillarylaw07.ArenaKids -/
def f3_r0 : List MO := [
(Qa (Qu 2) (MOp.box (Qm 0))),
(Qa (Qu 4) (Qc (Qn (Qo (Qp (Qr false))))))]
def f3_c0 : MC := .reg false f3_r0
def f3_r1 : List MO := [
(Qa (Qu 16) (Qg 8 [])),
(Qa (Qu 5) (Qc (Qm 16)))]
def f3_c1 : MC := .reg false f3_r1
def f3_r2 : List MO := [
(Qa (Qu 17) (Qe 2 true (Qm 2))),
(Qa (Qu 18) (Qg 9 [(Qm 17)])),
(Qa none (Qk 2 (Qm 2) (Qm 18)))]
def f3_c2 : MC := .reg false f3_r2
def f3_r3 : List MO := [
(Qa (Qu 20) (Qe 2 true (Qm 2))),
(Qa (Qu 21) (Qg 10 [(Qm 20)])),
(Qa (Qu 19) (Qc (Qm 21))),
(Qa (Qu 22) (Qh (Qm 19) 0)),
(Qa (Qu 23) (Qh (Qm 19) 1)),
(Qa (Qu 6) (Qc (Qm 22))),
(Qa (Qu 7) (Qc (Qm 23)))]
def f3_c3 : MC := .reg false f3_r3
def f3_r4 : List MO := [
(Qa (Qu 25) (Qe 2 true (Qm 2))),
(Qa (Qu 26) (Qc (Qm 1))),
(Qa (Qu 27) (Qg 11 [(Qm 25), (Qm 26)])),
(Qa (Qu 24) (Qc (Qm 27))),
(Qa (Qu 28) (Qh (Qm 24) 0)),
(Qa (Qu 29) (Qh (Qm 24) 1)),
(Qa (Qu 8) (Qc (Qm 28))),
(Qa (Qu 9) (Qc (Qm 29)))]
def f3_c4 : MC := .reg false f3_r4
def f3_r5 : List MO := [
(Qa (Qu 31) (Qe 2 true (Qm 2))),
(Qa (Qu 32) (Qc (Qm 1))),
(Qa (Qu 33) (Qg 12 [(Qm 31), (Qm 32)])),
(Qa (Qu 30) (Qc (Qm 33))),
(Qa (Qu 34) (Qh (Qm 30) 0)),
(Qa (Qu 35) (Qh (Qm 30) 1)),
(Qa (Qu 10) (Qc (Qm 34))),
(Qa (Qu 11) (Qc (Qm 35)))]
def f3_c5 : MC := .reg false f3_r5
def f3_r6 : List MO := [
(Qa (Qu 36) (Qc (Qm 7))),
(Qa (Qu 37) (Qd Qs Go.BinOp.neq (Qm 36) (Qn (Qo (Qp (Qq Qt 0)))))),
(Qa (Qu 38) (Qc (Qm 37))),
(Qb 38 false (Qu 39)),
(Qa (Qu 39) (Qc (Qm 1))),
(Qb 38 false (Qu 40)),
(Qa (Qu 40) (Qd Qs Go.BinOp.lss (Qm 39) (Qn (Qo (Qp (Qq Qt 0)))))),
(Qa (Qu 41) (Ql (Qm 38) (Qn (Qo (Qp (Qr true)))) (Qm 40))),
(Qa (Qu 42) (Qc (Qm 41))),
(Qb 42 false (Qu 43)),
(Qa (Qu 43) (Qc (Qm 1))),
(Qb 42 false (Qu 44)),
(Qa (Qu 44) (Qf 1 (Qm 2))),
(Qb 42 false (Qu 45)),
(Qa (Qu 45) (Qe 1 false (Qm 44))),
(Qb 42 false (Qu 46)),
(Qa (Qu 46) (Qj Qs (Qm 45))),
(Qb 42 false (Qu 47)),
(Qa (Qu 47) (Qd Qs Go.BinOp.geq (Qm 43) (Qm 46))),
(Qa (Qu 48) (Ql (Qm 42) (Qn (Qo (Qp (Qr true)))) (Qm 47)))]
def f3_c6 : MC := .reg false f3_r6
def f3_r7 : List MO := [
(Qa (Qu 49) (Qc (Qm 5))),
(Qa (Qu 50) (Qc (Qm 49))),
(Qb 50 true (Qu 51)),
(Qa (Qu 51) (Qc (Qm 9))),
(Qb 50 true (Qu 52)),
(Qa (Qu 52) (Qc (Qm 11))),
(Qb 50 true (Qu 53)),
(Qa (Qu 53) (Qd Qs Go.BinOp.eql (Qm 51) (Qm 52))),
(Qa (Qu 54) (Ql (Qm 50) (Qm 53) (Qn (Qo (Qp (Qr false)))))),
(Qa (Qu 55) (Qc (Qm 54))),
(Qb 55 true (Qu 56)),
(Qa (Qu 56) (Qc (Qm 9))),
(Qb 55 true (Qu 57)),
(Qa (Qu 57) (Qd Qs Go.BinOp.eql (Qm 56) (Qn (Qo (Qp (Qq Qt 0)))))),
(Qb 55 true (Qu 58)),
(Qa (Qu 58) (Qc (Qm 1))),
(Qb 55 true (Qu 59)),
(Qa (Qu 59) (Qd Qs Go.BinOp.geq (Qm 58) (Qn (Qo (Qp (Qq Qt 0)))))),
(Qb 55 true (Qu 60)),
(Qa (Qu 60) (Qc (Qm 59))),
(Qb 60 true (Qu 61)),
(Qa (Qu 61) (Qc (Qm 1))),
(Qb 60 true (Qu 62)),
(Qa (Qu 62) (Qf 1 (Qm 2))),
(Qb 60 true (Qu 63)),
(Qa (Qu 63) (Qe 1 false (Qm 62))),
(Qb 60 true (Qu 64)),
(Qa (Qu 64) (Qj Qs (Qm 63))),
(Qb 60 true (Qu 65)),
(Qa (Qu 65) (Qd Qs Go.BinOp.lss (Qm 61) (Qm 64))),
(Qb 55 true (Qu 66)),
(Qa (Qu 66) (Ql (Qm 60) (Qm 65) (Qn (Qo (Qp (Qr false)))))),
(Qb 55 true (Qu 67)),
(Qa (Qu 67) (Qd Leaf.b Go.BinOp.eql (Qm 57) (Qm 66))),
(Qa (Qu 68) (Ql (Qm 55) (Qm 67) (Qn (Qo (Qp (Qr false)))))),
(Qa (Qu 4) (Qc (Qm 68)))]
def f3_c7 : MC := .reg false f3_r7
def f3_c8 : MC := MC.ret
def f3_c9 : MC := .seq f3_c7 f3_c8
def f3_c10 : MC := MC.skip
def f3_c11 : MC := .cond (Qm 48) f3_c9 f3_c10
def f3_c12 : MC := .seq f3_c6 f3_c11
def f3_r13 : List MO := [
(Qa (Qu 12) (Qc (Qn (Qo (Qp (Qq Qt 0))))))]
def f3_c13 : MC := .reg false f3_r13
def f3_r14 : List MO := [
(Qa (Qu 69) (Qc (Qm 12))),
(Qa (Qu 70) (Qc (Qm 8))),
(Qa (Qu 71) (Qj Qs (Qm 70))),
(Qa (Qu 72) (Qd Qs Go.BinOp.lss (Qm 69) (Qm 71)))]
def f3_c14 : MC := .reg false f3_r14
def f3_c15 : MC := MC.skip
def f3_c16 : MC := (MC.exit 0)
def f3_c17 : MC := .cond (Qm 72) f3_c15 f3_c16
def f3_c18 : MC := .seq f3_c14 f3_c17
def f3_r19 : List MO := [
(Qa (Qu 75) (Qc (Qm 8))),
(Qa (Qu 76) (Qc (Qm 12))),
(Qa (Qu 77) (Qi 1 (Qm 75) (Qm 76))),
(Qa (Qu 78) (Qe 1 false (Qm 77))),
(Qa (Qu 79) (Qd Qs Go.BinOp.lss (Qm 78) (Qn (Qo (Qp (Qq Qt 0)))))),
(Qa (Qu 80) (Qc (Qm 79))),
(Qb 80 false (Qu 81)),
(Qa (Qu 81) (Qc (Qm 8))),
(Qb 80 false (Qu 82)),
(Qa (Qu 82) (Qc (Qm 12))),
(Qb 80 false (Qu 83)),
(Qa (Qu 83) (Qi 1 (Qm 81) (Qm 82))),
(Qb 80 false (Qu 84)),
(Qa (Qu 84) (Qe 1 false (Qm 83))),
(Qb 80 false (Qu 85)),
(Qa (Qu 85) (Qf 1 (Qm 2))),
(Qb 80 false (Qu 86)),
(Qa (Qu 86) (Qe 1 false (Qm 85))),
(Qb 80 false (Qu 87)),
(Qa (Qu 87) (Qj Qs (Qm 86))),
(Qb 80 false (Qu 88)),
(Qa (Qu 88) (Qd Qs Go.BinOp.geq (Qm 84) (Qm 87))),
(Qa (Qu 89) (Ql (Qm 80) (Qn (Qo (Qp (Qr true)))) (Qm 88)))]
def f3_c19 : MC := .reg true f3_r19
def f3_r20 : List MO := [
(Qa (Qu 4) (Qc (Qn (Qo (Qp (Qr false))))))]
def f3_c20 : MC := .reg false f3_r20
def f3_c21 : MC := MC.ret
def f3_c22 : MC := .seq f3_c20 f3_c21
def f3_c23 : MC := MC.skip
def f3_c24 : MC := .cond (Qm 89) f3_c22 f3_c23
def f3_c25 : MC := .seq f3_c19 f3_c24
def f3_c26 : MC := .blk 1 f3_c25
def f3_r27 : List MO := [
(Qa (Qu 73) (Qc (Qm 12))),
(Qa (Qu 74) (Qd Qs Go.BinOp.add (Qm 73) (Qn (Qo (Qp (Qq Qt 1)))))),
(Qa (Qu 12) (Qc (Qm 74)))]
def f3_c27 : MC := .reg false f3_r27
def f3_c28 : MC := .seq f3_c26 f3_c27
def f3_c29 : MC := .seq f3_c18 f3_c28
def f3_c30 : MC := .loop f3_c29
def f3_c31 : MC := .blk 0 f3_c30
def f3_c32 : MC := .seq f3_c13 f3_c31
def f3_r33 : List MO := [
(Qa (Qu 13) (Qc (Qn (Qo (Qp (Qq Qt 0))))))]
def f3_c33 : MC := .reg false f3_r33
def f3_r34 : List MO := [
(Qa (Qu 90) (Qc (Qm 13))),
(Qa (Qu 91) (Qc (Qm 10))),
(Qa (Qu 92) (Qj Qs (Qm 91))),
(Qa (Qu 93) (Qd Qs Go.BinOp.lss (Qm 90) (Qm 92)))]
def f3_c34 : MC := .reg false f3_r34
def f3_c35 : MC := MC.skip
def f3_c36 : MC := (MC.exit 2)
def f3_c37 : MC := .cond (Qm 93) f3_c35 f3_c36
def f3_c38 : MC := .seq f3_c34 f3_c37
def f3_r39 : List MO := [
(Qa (Qu 97) (Qe 2 true (Qm 2))),
(Qa (Qu 98) (Qc (Qm 1))),
(Qa (Qu 99) (Qc (Qm 10))),
(Qa (Qu 100) (Qc (Qm 13))),
(Qa (Qu 101) (Qi 3 (Qm 99) (Qm 100))),
(Qa (Qu 102) (Qe 3 true (Qm 101))),
(Qa (Qu 103) (Qg 13 [(Qm 97), (Qm 98), (Qm 102)])),
(Qa (Qu 96) (Qc (Qm 103))),
(Qa (Qu 104) (Qh (Qm 96) 0)),
(Qa (Qu 105) (Qh (Qm 96) 1)),
(Qa (Qu 14) (Qc (Qm 104))),
(Qa (Qu 15) (Qc (Qm 105)))]
def f3_c39 : MC := .reg true f3_r39
def f3_r40 : List MO := [
(Qa (Qu 106) (Qc (Qm 15))),
(Qa (Qu 107) (MOp.not (Qm 106))),
(Qa (Qu 108) (Qc (Qm 107))),
(Qb 108 false (Qu 109)),
(Qa (Qu 109) (Qc (Qm 13))),
(Qb 108 false (Qu 110)),
(Qa (Qu 110) (Qc (Qm 8))),
(Qb 108 false (Qu 111)),
(Qa (Qu 111) (Qj Qs (Qm 110))),
(Qb 108 false (Qu 112)),
(Qa (Qu 112) (Qd Qs Go.BinOp.geq (Qm 109) (Qm 111))),
(Qa (Qu 113) (Ql (Qm 108) (Qn (Qo (Qp (Qr true)))) (Qm 112))),
(Qa (Qu 114) (Qc (Qm 113))),
(Qb 114 false (Qu 115)),
(Qa (Qu 115) (Qc (Qm 14))),
(Qb 114 false (Qu 116)),
(Qa (Qu 116) (Qc (Qm 8))),
(Qb 114 false (Qu 117)),
(Qa (Qu 117) (Qc (Qm 13))),
(Qb 114 false (Qu 118)),
(Qa (Qu 118) (Qi 1 (Qm 116) (Qm 117))),
(Qb 114 false (Qu 119)),
(Qa (Qu 119) (Qe 1 false (Qm 118))),
(Qb 114 false (Qu 120)),
(Qa (Qu 120) (Qd Qs Go.BinOp.neq (Qm 115) (Qm 119))),
(Qa (Qu 121) (Ql (Qm 114) (Qn (Qo (Qp (Qr true)))) (Qm 120))),
(Qa (Qu 122) (Qc (Qm 121))),
(Qb 122 false (Qu 123)),
(Qa (Qu 123) (Qc (Qm 13))),
(Qb 122 false (Qu 124)),
(Qa (Qu 124) (Qd Qs Go.BinOp.gtr (Qm 123) (Qn (Qo (Qp (Qq Qt 0)))))),
(Qb 122 false (Qu 125)),
(Qa (Qu 125) (Qc (Qm 124))),
(Qb 125 true (Qu 126)),
(Qa (Qu 126) (Qc (Qm 10))),
(Qb 125 true (Qu 127)),
(Qa (Qu 127) (Qc (Qm 13))),
(Qb 125 true (Qu 128)),
(Qa (Qu 128) (Qd Qs Go.BinOp.sub (Qm 127) (Qn (Qo (Qp (Qq Qt 1)))))),
(Qb 125 true (Qu 129)),
(Qa (Qu 129) (Qi 3 (Qm 126) (Qm 128))),
(Qb 125 true (Qu 130)),
(Qa (Qu 130) (Qe 3 true (Qm 129))),
(Qb 125 true (Qu 131)),
(Qa (Qu 131) (Qc (Qm 10))),
(Qb 125 true (Qu 132)),
(Qa (Qu 132) (Qc (Qm 13))),
(Qb 125 true (Qu 133)),
(Qa (Qu 133) (Qi 3 (Qm 131) (Qm 132))),
(Qb 125 true (Qu 134)),
(Qa (Qu 134) (Qe 3 true (Qm 133))),
(Qb 125 true (Qu 135)),
(Qa (Qu 135) (Qg 14 [(Qm 130), (Qm 134)])),
(Qb 125 true (Qu 136)),
(Qa (Qu 136) (Qd Qs Go.BinOp.geq (Qm 135) (Qn (Qo (Qp (Qq Qt 0)))))),
(Qb 122 false (Qu 137)),
(Qa (Qu 137) (Ql (Qm 125) (Qm 136) (Qn (Qo (Qp (Qr false)))))),
(Qa (Qu 138) (Ql (Qm 122) (Qn (Qo (Qp (Qr true)))) (Qm 137)))]
def f3_c40 : MC := .reg true f3_r40
def f3_r41 : List MO := [
(Qa (Qu 4) (Qc (Qn (Qo (Qp (Qr false))))))]
def f3_c41 : MC := .reg false f3_r41
def f3_c42 : MC := MC.ret
def f3_c43 : MC := .seq f3_c41 f3_c42
def f3_c44 : MC := MC.skip
def f3_c45 : MC := .cond (Qm 138) f3_c43 f3_c44
def f3_c46 : MC := .seq f3_c40 f3_c45
def f3_c47 : MC := .seq f3_c39 f3_c46
def f3_c48 : MC := .blk 3 f3_c47
def f3_r49 : List MO := [
(Qa (Qu 94) (Qc (Qm 13))),
(Qa (Qu 95) (Qd Qs Go.BinOp.add (Qm 94) (Qn (Qo (Qp (Qq Qt 1)))))),
(Qa (Qu 13) (Qc (Qm 95)))]
def f3_c49 : MC := .reg false f3_r49
def f3_c50 : MC := .seq f3_c48 f3_c49
def f3_c51 : MC := .seq f3_c38 f3_c50
def f3_c52 : MC := .loop f3_c51
def f3_c53 : MC := .blk 2 f3_c52
def f3_c54 : MC := .seq f3_c33 f3_c53
def f3_r55 : List MO := [
(Qa (Qu 139) (Qc (Qm 5))),
(Qa (Qu 140) (Qc (Qm 139))),
(Qb 140 true (Qu 141)),
(Qa (Qu 141) (Qc (Qm 9))),
(Qb 140 true (Qu 142)),
(Qa (Qu 142) (Qd Qs Go.BinOp.eql (Qm 141) (Qn (Qo (Qp (Qq Qt 0)))))),
(Qa (Qu 143) (Ql (Qm 140) (Qm 142) (Qn (Qo (Qp (Qr false)))))),
(Qa (Qu 144) (Qc (Qm 143))),
(Qb 144 true (Qu 145)),
(Qa (Qu 145) (Qc (Qm 11))),
(Qb 144 true (Qu 146)),
(Qa (Qu 146) (Qd Qs Go.BinOp.eql (Qm 145) (Qn (Qo (Qp (Qq Qt 0)))))),
(Qa (Qu 147) (Ql (Qm 144) (Qm 146) (Qn (Qo (Qp (Qr false)))))),
(Qa (Qu 148) (Qc (Qm 147))),
(Qb 148 true (Qu 149)),
(Qa (Qu 149) (Qc (Qm 8))),
(Qb 148 true (Qu 150)),
(Qa (Qu 150) (Qj Qs (Qm 149))),
(Qb 148 true (Qu 151)),
(Qa (Qu 151) (Qf 1 (Qm 2))),
(Qb 148 true (Qu 152)),
(Qa (Qu 152) (Qe 1 false (Qm 151))),
(Qb 148 true (Qu 153)),
(Qa (Qu 153) (Qc (Qm 1))),
(Qb 148 true (Qu 154)),
(Qa (Qu 154) (Qi 6 (Qm 152) (Qm 153))),
(Qb 148 true (Qu 155)),
(Qa (Qu 155) (Qf 5 (Qm 154))),
(Qb 148 true (Qu 156)),
(Qa (Qu 156) (Qe 1 false (Qm 155))),
(Qb 148 true (Qu 157)),
(Qa (Qu 157) (Qj Qs (Qm 156))),
(Qb 148 true (Qu 158)),
(Qa (Qu 158) (Qd Qs Go.BinOp.eql (Qm 150) (Qm 157))),
(Qa (Qu 159) (Ql (Qm 148) (Qm 158) (Qn (Qo (Qp (Qr false)))))),
(Qa (Qu 160) (Qc (Qm 159))),
(Qb 160 true (Qu 161)),
(Qa (Qu 161) (Qf 1 (Qm 2))),
(Qb 160 true (Qu 162)),
(Qa (Qu 162) (Qe 1 false (Qm 161))),
(Qb 160 true (Qu 163)),
(Qa (Qu 163) (Qc (Qm 1))),
(Qb 160 true (Qu 164)),
(Qa (Qu 164) (Qi 6 (Qm 162) (Qm 163))),
(Qb 160 true (Qu 165)),
(Qa (Qu 165) (Qf 0 (Qm 164))),
(Qb 160 true (Qu 166)),
(Qa (Qu 166) (Qe 1 false (Qm 165))),
(Qb 160 true (Qu 167)),
(Qa (Qu 167) (Qd Qs Go.BinOp.neq (Qm 166) (Qn (Qo (Qp (Qq Qt 2)))))),
(Qb 160 true (Qu 168)),
(Qa (Qu 168) (Qc (Qm 167))),
(Qb 168 false (Qu 169)),
(Qa (Qu 169) (Qc (Qm 10))),
(Qb 168 false (Qu 170)),
(Qa (Qu 170) (Qj Qs (Qm 169))),
(Qb 168 false (Qu 171)),
(Qa (Qu 171) (Qc (Qm 8))),
(Qb 168 false (Qu 172)),
(Qa (Qu 172) (Qj Qs (Qm 171))),
(Qb 168 false (Qu 173)),
(Qa (Qu 173) (Qd Qs Go.BinOp.eql (Qm 170) (Qm 172))),
(Qb 160 true (Qu 174)),
(Qa (Qu 174) (Ql (Qm 168) (Qn (Qo (Qp (Qr true)))) (Qm 173))),
(Qa (Qu 175) (Ql (Qm 160) (Qm 174) (Qn (Qo (Qp (Qr false)))))),
(Qa (Qu 176) (Qc (Qm 175))),
(Qb 176 true (Qu 177)),
(Qa (Qu 177) (Qf 1 (Qm 2))),
(Qb 176 true (Qu 178)),
(Qa (Qu 178) (Qe 1 false (Qm 177))),
(Qb 176 true (Qu 179)),
(Qa (Qu 179) (Qc (Qm 1))),
(Qb 176 true (Qu 180)),
(Qa (Qu 180) (Qi 6 (Qm 178) (Qm 179))),
(Qb 176 true (Qu 181)),
(Qa (Qu 181) (Qf 0 (Qm 180))),
(Qb 176 true (Qu 182)),
(Qa (Qu 182) (Qe 1 false (Qm 181))),
(Qb 176 true (Qu 183)),
(Qa (Qu 183) (Qd Qs Go.BinOp.eql (Qm 182) (Qn (Qo (Qp (Qq Qt 2)))))),
(Qb 176 true (Qu 184)),
(Qa (Qu 184) (Qc (Qm 183))),
(Qb 184 false (Qu 185)),
(Qa (Qu 185) (Qc (Qm 10))),
(Qb 184 false (Qu 186)),
(Qa (Qu 186) (Qj Qs (Qm 185))),
(Qb 184 false (Qu 187)),
(Qa (Qu 187) (Qd Qs Go.BinOp.eql (Qm 186) (Qn (Qo (Qp (Qq Qt 0)))))),
(Qb 176 true (Qu 188)),
(Qa (Qu 188) (Ql (Qm 184) (Qn (Qo (Qp (Qr true)))) (Qm 187))),
(Qa (Qu 189) (Ql (Qm 176) (Qm 188) (Qn (Qo (Qp (Qr false)))))),
(Qa (Qu 4) (Qc (Qm 189)))]
def f3_c55 : MC := .reg false f3_r55
def f3_c56 : MC := MC.ret
def f3_c57 : MC := .seq f3_c55 f3_c56
def f3_c58 : MC := .seq f3_c54 f3_c57
def f3_c59 : MC := .seq f3_c32 f3_c58
def f3_c60 : MC := .seq f3_c12 f3_c59
def f3_c61 : MC := .seq f3_c5 f3_c60
def f3_c62 : MC := .seq f3_c4 f3_c61
def f3_c63 : MC := .seq f3_c3 f3_c62
def f3_c64 : MC := .seq f3_c2 f3_c63
def f3_c65 : MC := .seq f3_c1 f3_c64
def f3_c66 : MC := .seq f3_c0 f3_c65
noncomputable def f3_code : Code := (Go.Proofs.Tryd.f3.body).getD .skip
theorem f3_body : Go.Proofs.Tryd.f3.body = Qu f3_code := by kernel_rfl
theorem f3_tr : trC Go.Proofs.Tryd.prog [] f3_code = Qu f3_c66 := by kernel_rfl
theorem f3_rs : rsOf Go.Proofs.Tryd.prog Go.Proofs.Tryd.f3.results.toList = Qu [(RV.t 4)] := by kernel_rfl
theorem f3_nt : Go.Proofs.Tryd.f3.ntmps = 190 := by kernel_rfl
theorem f3_ok : callable Go.Proofs.Tryd.prog 3 = true := by kernel_rfl
theorem f3_in {gp : Heap} {args : List V} {res : V} (h : G ⟨Go.Proofs.Tryd.prog, gp, 0, [(RV.t 4)], fun r c => r = res ∧ c = [], false⟩ [.code f3_c66, .fin] ⟨args ++ List.replicate (190 - args.length) .un, []⟩) : Does Go.Proofs.Tryd.prog gp 3 args res :=
  does_intro f3_ok Go.Proofs.Tryd.func3 f3_body f3_tr f3_rs (by rw [f3_nt]; exact h)
theorem f3_tri {gp : Heap} {args : List V} {pre : List Ch} {R : V → List Ch → Prop} (h : G ⟨Go.Proofs.Tryd.prog, gp, pre.length, [(RV.t 4)], R, false⟩ [.code f3_c66, .fin] ⟨args ++ List.replicate (190 - args.length) .un, pre⟩) : Tri Go.Proofs.Tryd.prog gp 3 args pre R :=
  tri_intro Go.Proofs.Tryd.func3 f3_body f3_tr f3_rs (by rw [f3_nt]; exact h)

/-! sigillary/sigillarylaw07.ArenaLess -/
def f4_r0 : List MO := [
(Qa (Qu 1) (MOp.box (Qm 0))),
(Qa (Qu 2) (Qc (Qn (Qo (Qp (Qr false))))))]
def f4_c0 : MC := .reg false f4_r0
def f4_r1 : List MO := [
(Qa (Qu 12) (Qg 8 [])),
(Qa (Qu 3) (Qc (Qm 12)))]
def f4_c1 : MC := .reg false f4_r1
def f4_r2 : List MO := [
(Qa (Qu 13) (Qe 2 true (Qm 1))),
(Qa (Qu 14) (Qg 9 [(Qm 13)])),
(Qa none (Qk 2 (Qm 1) (Qm 14)))]
def f4_c2 : MC := .reg false f4_r2
def f4_r3 : List MO := [
(Qa (Qu 16) (Qe 2 true (Qm 1))),
(Qa (Qu 17) (Qg 10 [(Qm 16)])),
(Qa (Qu 15) (Qc (Qm 17))),
(Qa (Qu 18) (Qh (Qm 15) 0)),
(Qa (Qu 19) (Qh (Qm 15) 1)),
(Qa (Qu 4) (Qc (Qm 18))),
(Qa (Qu 5) (Qc (Qm 19)))]
def f4_c3 : MC := .reg false f4_r3
def f4_r4 : List MO := [
(Qa (Qu 20) (Qc (Qm 5))),
(Qa (Qu 21) (Qd Qs Go.BinOp.neq (Qm 20) (Qn (Qo (Qp (Qq Qt 0))))))]
def f4_c4 : MC := .reg false f4_r4
def f4_r5 : List MO := [
(Qa (Qu 22) (Qc (Qm 3))),
(Qa (Qu 2) (Qc (Qm 22)))]
def f4_c5 : MC := .reg false f4_r5
def f4_c6 : MC := MC.ret
def f4_c7 : MC := .seq f4_c5 f4_c6
def f4_c8 : MC := MC.skip
def f4_c9 : MC := .cond (Qm 21) f4_c7 f4_c8
def f4_c10 : MC := .seq f4_c4 f4_c9
def f4_r11 : List MO := [
(Qa (Qu 23) (Qf 1 (Qm 1))),
(Qa (Qu 24) (Qe 1 false (Qm 23))),
(Qa (Qu 25) (Qj Qs (Qm 24))),
(Qa (Qu 26) (Qd Qs Go.BinOp.sub (Qm 25) (Qn (Qo (Qp (Qq Qt 1)))))),
(Qa (Qu 6) (Qc (Qm 26)))]
def f4_c11 : MC := .reg false f4_r11
def f4_r12 : List MO := [
(Qa (Qu 27) (Qf 0 (Qm 1))),
(Qa (Qu 28) (Qe 1 false (Qm 27))),
(Qa (Qu 29) (Qc (Qm 6))),
(Qa (Qu 30) (Qd Qs Go.BinOp.eql (Qm 28) (Qm 29))),
(Qa (Qu 7) (Qc (Qm 30)))]
def f4_c12 : MC := .reg false f4_r12
def f4_r13 : List MO := [
(Qa (Qu 8) (Qc (Qn (Qo (Qp (Qq Qt 0))))))]
def f4_c13 : MC := .reg false f4_r13
def f4_r14 : List MO := [
(Qa (Qu 31) (Qc (Qm 8))),
(Qa (Qu 32) (Qc (Qm 6))),
(Qa (Qu 33) (Qd Qs Go.BinOp.lss (Qm 31) (Qm 32)))]
def f4_c14 : MC := .reg false f4_r14
def f4_c15 : MC := MC.skip
def f4_c16 : MC := (MC.exit 0)
def f4_c17 : MC := .cond (Qm 33) f4_c15 f4_c16
def f4_c18 : MC := .seq f4_c14 f4_c17
def f4_r19 : List MO := [
(Qa (Qu 9) (Qc (Qn (Qo (Qp (Qq Qt 0))))))]
def f4_c19 : MC := .reg false f4_r19
def f4_r20 : List MO := [
(Qa (Qu 36) (Qc (Qm 9))),
(Qa (Qu 37) (Qf 1 (Qm 1))),
(Qa (Qu 38) (Qe 1 false (Qm 37))),
(Qa (Qu 39) (Qc (Qm 8))),
(Qa (Qu 40) (Qi 6 (Qm 38) (Qm 39))),
(Qa (Qu 41) (Qf 5 (Qm 40))),
(Qa (Qu 42) (Qe 1 false (Qm 41))),
(Qa (Qu 43) (Qj Qs (Qm 42))),
(Qa (Qu 44) (Qd Qs Go.BinOp.lss (Qm 36) (Qm 43)))]
def f4_c20 : MC := .reg false f4_r20
def f4_c21 : MC := MC.skip
def f4_c22 : MC := (MC.exit 2)
def f4_c23 : MC := .cond (Qm 44) f4_c21 f4_c22
def f4_c24 : MC := .seq f4_c20 f4_c23
def f4_r25 : List MO := [
(Qa (Qu 47) (Qc (Qm 7))),
(Qa (Qu 48) (Qc (Qm 47))),
(Qb 48 false (Qu 49)),
(Qa (Qu 49) (Qf 1 (Qm 1))),
(Qb 48 false (Qu 50)),
(Qa (Qu 50) (Qe 1 false (Qm 49))),
(Qb 48 false (Qu 51)),
(Qa (Qu 51) (Qc (Qm 8))),
(Qb 48 false (Qu 52)),
(Qa (Qu 52) (Qi 6 (Qm 50) (Qm 51))),
(Qb 48 false (Qu 53)),
(Qa (Qu 53) (Qf 5 (Qm 52))),
(Qb 48 false (Qu 54)),
(Qa (Qu 54) (Qe 1 false (Qm 53))),
(Qb 48 false (Qu 55)),
(Qa (Qu 55) (Qc (Qm 9))),
(Qb 48 false (Qu 56)),
(Qa (Qu 56) (Qi 1 (Qm 54) (Qm 55))),
(Qb 48 false (Qu 57)),
(Qa (Qu 57) (Qe 1 false (Qm 56))),
(Qb 48 false (Qu 58)),
(Qa (Qu 58) (Qc (Qm 6))),
(Qb 48 false (Qu 59)),
(Qa (Qu 59) (Qd Qs Go.BinOp.eql (Qm 57) (Qm 58))),
(Qa (Qu 60) (Ql (Qm 48) (Qn (Qo (Qp (Qr true)))) (Qm 59))),
(Qa (Qu 7) (Qc (Qm 60)))]
def f4_c25 : MC := .reg false f4_r25
def f4_c26 : MC := .blk 3 f4_c25
def f4_r27 : List MO := [
(Qa (Qu 45) (Qc (Qm 9))),
(Qa (Qu 46) (Qd Qs Go.BinOp.add (Qm 45) (Qn (Qo (Qp (Qq Qt 1)))))),
(Qa (Qu 9) (Qc (Qm 46)))]
def f4_c27 : MC := .reg false f4_r27
def f4_c28 : MC := .seq f4_c26 f4_c27
def f4_c29 : MC := .seq f4_c24 f4_c28
def f4_c30 : MC := .loop f4_c29
def f4_c31 : MC := .blk 2 f4_c30
def f4_c32 : MC := .seq f4_c19 f4_c31
def f4_c33 : MC := .blk 1 f4_c32
def f4_r34 : List MO := [
(Qa (Qu 34) (Qc (Qm 8))),
(Qa (Qu 35) (Qd Qs Go.BinOp.add (Qm 34) (Qn (Qo (Qp (Qq Qt 1)))))),
(Qa (Qu 8) (Qc (Qm 35)))]
def f4_c34 : MC := .reg false f4_r34
def f4_c35 : MC := .seq f4_c33 f4_c34
def f4_c36 : MC := .seq f4_c18 f4_c35
def f4_c37 : MC := .loop f4_c36
def f4_c38 : MC := .blk 0 f4_c37
def f4_c39 : MC := .seq f4_c13 f4_c38
def f4_r40 : List MO := [
(Qa (Qu 62) (Qf 0 (Qm 1))),
(Qa (Qu 63) (Qe 1 false (Qm 62))),
(Qa (Qu 64) (Qf 1 (Qm 1))),
(Qa (Qu 65) (Qe 1 false (Qm 64))),
(Qa (Qu 66) (Qc (Qm 6))),
(Qa (Qu 67) (MOp.max (Qm 66) (Qn (Qo (Qp (Qq Qt 0)))))),
(Qa (Qu 68) (MOp.slc 6 (Qm 65) none (Qu (Qm 67)))),
(Qa (Qu 69) (MOp.build [(Qq Qt 0), (D.sl [])] [(0, (1, (Qm 63))), (1, (1, (Qm 68)))])),
(Qa (Qu 70) (Qg 10 [(Qm 69)])),
(Qa (Qu 61) (Qc (Qm 70))),
(Qa (Qu 71) (Qh (Qm 61) 0)),
(Qa (Qu 72) (Qh (Qm 61) 1)),
(Qa (Qu 10) (Qc (Qm 71))),
(Qa (Qu 11) (Qc (Qm 72)))]
def f4_c40 : MC := .reg true f4_r40
def f4_r41 : List MO := [
(Qa (Qu 73) (Qc (Qm 3))),
(Qa (Qu 74) (Qc (Qm 73))),
(Qb 74 true (Qu 75)),
(Qa (Qu 75) (Qc (Qm 11))),
(Qb 74 true (Qu 76)),
(Qa (Qu 76) (Qd Qs Go.BinOp.eql (Qm 75) (Qn (Qo (Qp (Qq Qt 0)))))),
(Qb 74 true (Qu 77)),
(Qa (Qu 77) (Qc (Qm 7))),
(Qb 74 true (Qu 78)),
(Qa (Qu 78) (MOp.not (Qm 77))),
(Qb 74 true (Qu 79)),
(Qa (Qu 79) (Qd Leaf.b Go.BinOp.eql (Qm 76) (Qm 78))),
(Qa (Qu 80) (Ql (Qm 74) (Qm 79) (Qn (Qo (Qp (Qr false)))))),
(Qa (Qu 2) (Qc (Qm 80)))]
def f4_c41 : MC := .reg false f4_r41
def f4_c42 : MC := MC.ret
def f4_c43 : MC := .seq f4_c41 f4_c42
def f4_c44 : MC := .seq f4_c40 f4_c43
def f4_c45 : MC := .seq f4_c39 f4_c44
def f4_c46 : MC := .seq f4_c12 f4_c45
def f4_c47 : MC := .seq f4_c11 f4_c46
def f4_c48 : MC := .seq f4_c10 f4_c47
def f4_c49 : MC := .seq f4_c3 f4_c48
def f4_c50 : MC := .seq f4_c2 f4_c49
def f4_c51 : MC := .seq f4_c1 f4_c50
def f4_c52 : MC := .seq f4_c0 f4_c51
noncomputable def f4_code : Code := (Go.Proofs.Tryd.f4.body).getD .skip
theorem f4_body : Go.Proofs.Tryd.f4.body = Qu f4_code := by kernel_rfl
theorem f4_tr : trC Go.Proofs.Tryd.prog [] f4_code = Qu f4_c52 := by kernel_rfl
theorem f4_rs : rsOf Go.Proofs.Tryd.prog Go.Proofs.Tryd.f4.results.toList = Qu [(RV.t 2)] := by kernel_rfl
theorem f4_nt : Go.Proofs.Tryd.f4.ntmps = 81 := by kernel_rfl
theorem f4_ok : callable Go.Proofs.Tryd.prog 4 = true := by kernel_rfl
theorem f4_in {gp : Heap} {args : List V} {res : V} (h : G ⟨Go.Proofs.Tryd.prog, gp, 0, [(RV.t 2)], fun r c => r = res ∧ c = [], false⟩ [.code f4_c52, .fin] ⟨args ++ List.replicate (81 - args.length) .un, []⟩) : Does Go.Proofs.Tryd.prog gp 4 args res :=
  does_intro f4_ok Go.Proofs.Tryd.func4 f4_body f4_tr f4_rs (by rw [f4_nt]; exact h)
theorem f4_tri {gp : Heap} {args : List V} {pre : List Ch} {R : V → List Ch → Prop} (h : G ⟨Go.Proofs.Tryd.prog, gp, pre.length, [(RV.t 2)], R, false⟩ [.code f4_c52, .fin] ⟨args ++ List.replicate (81 - args.length) .un, pre⟩) : Tri Go.Proofs.Tryd.prog gp 4 args pre R :=
  tri_intro Go.Proofs.Tryd.func4 f4_body f4_tr f4_rs (by rw [f4_nt]; exact h)

/-! sigillary/sigillarylaw07.ArenaSwaps -/
def f5_r0 : List MO := [
(Qa (Qu 2) (MOp.box (Qm 0))),
(Qa (Qu 4) (Qc (Qn (Qo (Qp (Qr false))))))]
def f5_c0 : MC := .reg false f5_r0
def f5_r1 : List MO := [
(Qa (Qu 20) (Qg 8 [])),
(Qa (Qu 5) (Qc (Qm 20)))]
def f5_c1 : MC := .reg false f5_r1
def f5_r2 : List MO := [
(Qa (Qu 21) (Qe 2 true (Qm 2))),
(Qa (Qu 22) (Qg 9 [(Qm 21)])),
(Qa none (Qk 2 (Qm 2) (Qm 22)))]
def f5_c2 : MC := .reg false f5_r2
def f5_r3 : List MO := [
(Qa (Qu 24) (Qe 2 true (Qm 2))),
(Qa (Qu 25) (Qg 10 [(Qm 24)])),
(Qa (Qu 23) (Qc (Qm 25))),
(Qa (Qu 26) (Qh (Qm 23) 0)),
(Qa (Qu 27) (Qh (Qm 23) 1)),
(Qa (Qu 6) (Qc (Qm 26))),
(Qa (Qu 7) (Qc (Qm 27)))]
def f5_c3 : MC := .reg false f5_r3
def f5_r4 : List MO := [
(Qa (Qu 28) (Qc (Qm 7))),
(Qa (Qu 29) (Qd Qs Go.BinOp.neq (Qm 28) (Qn (Qo (Qp (Qq Qt 0)))))),
(Qa (Qu 30) (Qc (Qm 29))),
(Qb 30 false (Qu 31)),
(Qa (Qu 31) (Qc (Qm 1))),
(Qb 30 false (Qu 32)),
(Qa (Qu 32) (Qd Qs Go.BinOp.lss (Qm 31) (Qn (Qo (Qp (Qq Qt 0)))))),
(Qa (Qu 33) (Ql (Qm 30) (Qn (Qo (Qp (Qr true)))) (Qm 32))),
(Qa (Qu 34) (Qc (Qm 33))),
(Qb 34 false (Qu 35)),
(Qa (Qu 35) (Qc (Qm 1))),
(Qb 34 false (Qu 36)),
(Qa (Qu 36) (Qf 1 (Qm 2))),
(Qb 34 false (Qu 37)),
(Qa (Qu 37) (Qe 1 false (Qm 36))),
(Qb 34 false (Qu 38)),
(Qa (Qu 38) (Qj Qs (Qm 37))),
(Qb 34 false (Qu 39)),
(Qa (Qu 39) (Qd Qs Go.BinOp.geq (Qm 35) (Qm 38))),
(Qa (Qu 40) (Ql (Qm 34) (Qn (Qo (Qp (Qr true)))) (Qm 39)))]
def f5_c4 : MC := .reg false f5_r4
def f5_r5 : List MO := [
(Qa (Qu 41) (Qc (Qm 5))),
(Qa (Qu 4) (Qc (Qm 41)))]
def f5_c5 : MC := .reg false f5_r5
def f5_c6 : MC := MC.ret
def f5_c7 : MC := .seq f5_c5 f5_c6
def f5_c8 : MC := MC.skip
def f5_c9 : MC := .cond (Qm 40) f5_c7 f5_c8
def f5_c10 : MC := .seq f5_c4 f5_c9
def f5_r11 : List MO := [
(Qa (Qu 43) (Qe 2 true (Qm 2))),
(Qa (Qu 44) (Qc (Qm 1))),
(Qa (Qu 45) (Qg 11 [(Qm 43), (Qm 44)])),
(Qa (Qu 42) (Qc (Qm 45))),
(Qa (Qu 46) (Qh (Qm 42) 0)),
(Qa (Qu 47) (Qh (Qm 42) 1)),
(Qa (Qu 8) (Qc (Qm 46))),
(Qa (Qu 9) (Qc (Qm 47)))]
def f5_c11 : MC := .reg false f5_r11
def f5_r12 : List MO := [
(Qa (Qu 49) (Qe 2 true (Qm 2))),
(Qa (Qu 50) (Qc (Qm 1))),
(Qa (Qu 51) (Qg 12 [(Qm 49), (Qm 50)])),
(Qa (Qu 48) (Qc (Qm 51))),
(Qa (Qu 52) (Qh (Qm 48) 0)),
(Qa (Qu 53) (Qh (Qm 48) 1)),
(Qa (Qu 10) (Qc (Qm 52))),
(Qa (Qu 11) (Qc (Qm 53)))]
def f5_c12 : MC := .reg false f5_r12
def f5_r13 : List MO := [
(Qa (Qu 54) (Qf 1 (Qm 2))),
(Qa (Qu 55) (Qe 1 false (Qm 54))),
(Qa (Qu 56) (Qc (Qm 1))),
(Qa (Qu 57) (Qi 6 (Qm 55) (Qm 56))),
(Qa (Qu 58) (Qf 0 (Qm 57))),
(Qa (Qu 59) (Qe 1 false (Qm 58))),
(Qa (Qu 60) (Qf 1 (Qm 2))),
(Qa (Qu 61) (Qe 1 false (Qm 60))),
(Qa (Qu 62) (Qc (Qm 1))),
(Qa (Qu 63) (Qi 6 (Qm 61) (Qm 62))),
(Qa (Qu 64) (Qf 1 (Qm 63))),
(Qa (Qu 65) (Qe 3 true (Qm 64))),
(Qa (Qu 66) (MOp.build [(Qq Qt 0), (Qq Qt 0), (Qq Qt 0), (D.str (ByteArray.mk #[])), (D.sl []), (D.sl [])] [(0, (1, (Qm 59))), (1, (3, (Qm 65)))])),
(Qa (Qu 12) (MOp.alloc [(Qq Qt 0), (Qq Qt 0), (Qq Qt 0), (D.str (ByteArray.mk #[])), (D.sl []), (D.sl [])])),
(Qa none (Qk 6 (Qm 12) (Qm 66)))]
def f5_c13 : MC := .reg true f5_r13
def f5_r14 : List MO := [
(Qa (Qu 67) (Qf 1 (Qm 2))),
(Qa (Qu 68) (Qe 1 false (Qm 67))),
(Qa (Qu 69) (Qc (Qm 1))),
(Qa (Qu 70) (Qi 6 (Qm 68) (Qm 69))),
(Qa (Qu 71) (Qf 4 (Qm 70))),
(Qa (Qu 72) (Qe 1 false (Qm 71))),
(Qa (Qu 73) (Qj Qs (Qm 72))),
(Qa (Qu 74) (Qd Qs Go.BinOp.sub (Qm 73) (Qn (Qo (Qp (Qq Qt 1)))))),
(Qa (Qu 13) (Qc (Qm 74)))]
def f5_c14 : MC := .reg false f5_r14
def f5_r15 : List MO := [
(Qa (Qu 75) (Qc (Qm 13))),
(Qa (Qu 76) (Qd Qs Go.BinOp.geq (Qm 75) (Qn (Qo (Qp (Qq Qt 0))))))]
def f5_c15 : MC := .reg false f5_r15
def f5_c16 : MC := MC.skip
def f5_c17 : MC := (MC.exit 0)
def f5_c18 : MC := .cond (Qm 76) f5_c16 f5_c17
def f5_c19 : MC := .seq f5_c15 f5_c18
def f5_r20 : List MO := [
(Qa (Qu 79) (Qf 4 (Qm 12))),
(Qa (Qu 80) (Qe 1 false (Qm 79))),
(Qa (Qu 81) (Qf 1 (Qm 2))),
(Qa (Qu 82) (Qe 1 false (Qm 81))),
(Qa (Qu 83) (Qc (Qm 1))),
(Qa (Qu 84) (Qi 6 (Qm 82) (Qm 83))),
(Qa (Qu 85) (Qf 4 (Qm 84))),
(Qa (Qu 86) (Qe 1 false (Qm 85))),
(Qa (Qu 87) (Qc (Qm 13))),
(Qa (Qu 88) (Qi 3 (Qm 86) (Qm 87))),
(Qa (Qu 89) (Qe 3 true (Qm 88))),
(Qa (Qu 90) (MOp.bslice 3 [(Qq Qt 0), (Qq Qt 0), (D.str (ByteArray.mk #[]))] 1 [(0, (Qm 89))])),
(Qa (Qu 91) (MOp.app 3 32 (Qm 80) (Qm 90))),
(Qa (Qu 92) (Qf 4 (Qm 12))),
(Qa none (Qk 1 (Qm 92) (Qm 91)))]
def f5_c20 : MC := .reg true f5_r20
def f5_r21 : List MO := [
(Qa (Qu 93) (Qf 5 (Qm 12))),
(Qa (Qu 94) (Qe 1 false (Qm 93))),
(Qa (Qu 95) (Qf 1 (Qm 2))),
(Qa (Qu 96) (Qe 1 false (Qm 95))),
(Qa (Qu 97) (Qc (Qm 1))),
(Qa (Qu 98) (Qi 6 (Qm 96) (Qm 97))),
(Qa (Qu 99) (Qf 5 (Qm 98))),
(Qa (Qu 100) (Qe 1 false (Qm 99))),
(Qa (Qu 101) (Qc (Qm 13))),
(Qa (Qu 102) (Qi 1 (Qm 100) (Qm 101))),
(Qa (Qu 103) (Qe 1 false (Qm 102))),
(Qa (Qu 104) (MOp.bslice 1 [(Qq Qt 0)] 1 [(0, (Qm 103))])),
(Qa (Qu 105) (MOp.app 1 8 (Qm 94) (Qm 104))),
(Qa (Qu 106) (Qf 5 (Qm 12))),
(Qa none (Qk 1 (Qm 106) (Qm 105)))]
def f5_c21 : MC := .reg true f5_r21
def f5_c22 : MC := .seq f5_c20 f5_c21
def f5_c23 : MC := .blk 1 f5_c22
def f5_r24 : List MO := [
(Qa (Qu 77) (Qc (Qm 13))),
(Qa (Qu 78) (Qd Qs Go.BinOp.sub (Qm 77) (Qn (Qo (Qp (Qq Qt 1)))))),
(Qa (Qu 13) (Qc (Qm 78)))]
def f5_c24 : MC := .reg false f5_r24
def f5_c25 : MC := .seq f5_c23 f5_c24
def f5_c26 : MC := .seq f5_c19 f5_c25
def f5_c27 : MC := .loop f5_c26
def f5_c28 : MC := .blk 0 f5_c27
def f5_c29 : MC := .seq f5_c14 f5_c28
def f5_r30 : List MO := [
(Qa (Qu 107) (Qf 4 (Qm 12))),
(Qa (Qu 108) (Qe 1 false (Qm 107))),
(Qa (Qu 109) (Qj Qs (Qm 108))),
(Qa (Qu 110) (Qd Qs Go.BinOp.eql (Qm 109) (Qn (Qo (Qp (Qq Qt 0))))))]
def f5_c30 : MC := .reg false f5_r30
def f5_r31 : List MO := [
(Qa (Qu 111) (Qc (Qm 5))),
(Qa (Qu 112) (Qc (Qm 111))),
(Qb 112 true (Qu 113)),
(Qa (Qu 113) (Qc (Qm 10))),
(Qb 112 true (Qu 114)),
(Qa (Qu 114) (Qj Qs (Qm 113))),
(Qb 112 true (Qu 115)),
(Qa (Qu 115) (Qd Qs Go.BinOp.eql (Qm 114) (Qn (Qo (Qp (Qq Qt 0)))))),
(Qa (Qu 116) (Ql (Qm 112) (Qm 115) (Qn (Qo (Qp (Qr false)))))),
(Qa (Qu 4) (Qc (Qm 116)))]
def f5_c31 : MC := .reg false f5_r31
def f5_c32 : MC := MC.ret
def f5_c33 : MC := .seq f5_c31 f5_c32
def f5_c34 : MC := MC.skip
def f5_c35 : MC := .cond (Qm 110) f5_c33 f5_c34
def f5_c36 : MC := .seq f5_c30 f5_c35
def f5_r37 : List MO := [
(Qa (Qu 117) (Qf 1 (Qm 2))),
(Qa (Qu 118) (Qe 1 false (Qm 117))),
(Qa (Qu 119) (Qc (Qm 1))),
(Qa (Qu 120) (Qe 6 true (Qm 12))),
(Qa (Qu 121) (Qi 6 (Qm 118) (Qm 119))),
(Qa none (Qk 6 (Qm 121) (Qm 120)))]
def f5_c37 : MC := .reg false f5_r37
def f5_r38 : List MO := [
(Qa (Qu 123) (Qe 2 true (Qm 2))),
(Qa (Qu 124) (Qg 10 [(Qm 123)])),
(Qa (Qu 122) (Qc (Qm 124))),
(Qa (Qu 125) (Qh (Qm 122) 0)),
(Qa (Qu 126) (Qh (Qm 122) 1)),
(Qa (Qu 14) (Qc (Qm 125))),
(Qa (Qu 15) (Qc (Qm 126)))]
def f5_c38 : MC := .reg false f5_r38
def f5_r39 : List MO := [
(Qa (Qu 128) (Qe 2 true (Qm 2))),
(Qa (Qu 129) (Qc (Qm 1))),
(Qa (Qu 130) (Qg 11 [(Qm 128), (Qm 129)])),
(Qa (Qu 127) (Qc (Qm 130))),
(Qa (Qu 131) (Qh (Qm 127) 0)),
(Qa (Qu 132) (Qh (Qm 127) 1)),
(Qa (Qu 16) (Qc (Qm 131))),
(Qa (Qu 17) (Qc (Qm 132)))]
def f5_c39 : MC := .reg false f5_r39
def f5_r40 : List MO := [
(Qa (Qu 134) (Qe 2 true (Qm 2))),
(Qa (Qu 135) (Qc (Qm 1))),
(Qa (Qu 136) (Qg 12 [(Qm 134), (Qm 135)])),
(Qa (Qu 133) (Qc (Qm 136))),
(Qa (Qu 137) (Qh (Qm 133) 0)),
(Qa (Qu 138) (Qh (Qm 133) 1)),
(Qa (Qu 18) (Qc (Qm 137))),
(Qa (Qu 19) (Qc (Qm 138)))]
def f5_c40 : MC := .reg false f5_r40
def f5_r41 : List MO := [
(Qa (Qu 139) (Qc (Qm 5))),
(Qa (Qu 140) (Qc (Qm 139))),
(Qb 140 true (Qu 141)),
(Qa (Qu 141) (Qc (Qm 15))),
(Qb 140 true (Qu 142)),
(Qa (Qu 142) (Qd Qs Go.BinOp.eql (Qm 141) (Qn (Qo (Qp (Qq Qt 0)))))),
(Qa (Qu 143) (Ql (Qm 140) (Qm 142) (Qn (Qo (Qp (Qr false)))))),
(Qa (Qu 144) (Qc (Qm 143))),
(Qb 144 true (Qu 145)),
(Qa (Qu 145) (Qc (Qm 17))),
(Qb 144 true (Qu 146)),
(Qa (Qu 146) (Qd Qs Go.BinOp.eql (Qm 145) (Qn (Qo (Qp (Qq Qt 0)))))),
(Qa (Qu 147) (Ql (Qm 144) (Qm 146) (Qn (Qo (Qp (Qr false)))))),
(Qa (Qu 148) (Qc (Qm 147))),
(Qb 148 true (Qu 149)),
(Qa (Qu 149) (Qc (Qm 19))),
(Qb 148 true (Qu 150)),
(Qa (Qu 150) (Qd Qs Go.BinOp.eql (Qm 149) (Qn (Qo (Qp (Qq Qt 0)))))),
(Qa (Qu 151) (Ql (Qm 148) (Qm 150) (Qn (Qo (Qp (Qr false)))))),
(Qa (Qu 152) (Qc (Qm 151))),
(Qb 152 true (Qu 153)),
(Qa (Qu 153) (Qc (Qm 8))),
(Qb 152 true (Qu 154)),
(Qa (Qu 154) (Qc (Qm 16))),
(Qb 152 true (Qu 155)),
(Qa (Qu 155) (Qg 15 [(Qm 153), (Qm 154)])),
(Qa (Qu 156) (Ql (Qm 152) (Qm 155) (Qn (Qo (Qp (Qr false)))))),
(Qa (Qu 157) (Qc (Qm 156))),
(Qb 157 true (Qu 158)),
(Qa (Qu 158) (Qc (Qm 10))),
(Qb 157 true (Qu 159)),
(Qa (Qu 159) (Qc (Qm 18))),
(Qb 157 true (Qu 160)),
(Qa (Qu 160) (Qg 16 [(Qm 158), (Qm 159)])),
(Qa (Qu 161) (Ql (Qm 157) (Qm 160) (Qn (Qo (Qp (Qr false)))))),
(Qa (Qu 4) (Qc (Qm 161)))]
def f5_c41 : MC := .reg false f5_r41
def f5_c42 : MC := MC.ret
def f5_c43 : MC := .seq f5_c41 f5_c42
def f5_c44 : MC := .seq f5_c40 f5_c43
def f5_c45 : MC := .seq f5_c39 f5_c44
def f5_c46 : MC := .seq f5_c38 f5_c45
def f5_c47 : MC := .seq f5_c37 f5_c46
def f5_c48 : MC := .seq f5_c36 f5_c47
def f5_c49 : MC := .seq f5_c29 f5_c48
def f5_c50 : MC := .seq f5_c13 f5_c49
def f5_c51 : MC := .seq f5_c12 f5_c50
def f5_c52 : MC := .seq f5_c11 f5_c51
def f5_c53 : MC := .seq f5_c10 f5_c52
def f5_c54 : MC := .seq f5_c3 f5_c53
def f5_c55 : MC := .seq f5_c2 f5_c54
def f5_c56 : MC := .seq f5_c1 f5_c55
def f5_c57 : MC := .seq f5_c0 f5_c56
noncomputable def f5_code : Code := (Go.Proofs.Tryd.f5.body).getD .skip
theorem f5_body : Go.Proofs.Tryd.f5.body = Qu f5_code := by kernel_rfl
theorem f5_tr : trC Go.Proofs.Tryd.prog [] f5_code = Qu f5_c57 := by kernel_rfl
theorem f5_rs : rsOf Go.Proofs.Tryd.prog Go.Proofs.Tryd.f5.results.toList = Qu [(RV.t 4)] := by kernel_rfl
theorem f5_nt : Go.Proofs.Tryd.f5.ntmps = 162 := by kernel_rfl
theorem f5_ok : callable Go.Proofs.Tryd.prog 5 = true := by kernel_rfl
theorem f5_in {gp : Heap} {args : List V} {res : V} (h : G ⟨Go.Proofs.Tryd.prog, gp, 0, [(RV.t 4)], fun r c => r = res ∧ c = [], false⟩ [.code f5_c57, .fin] ⟨args ++ List.replicate (162 - args.length) .un, []⟩) : Does Go.Proofs.Tryd.prog gp 5 args res :=
  does_intro f5_ok Go.Proofs.Tryd.func5 f5_body f5_tr f5_rs (by rw [f5_nt]; exact h)
theorem f5_tri {gp : Heap} {args : List V} {pre : List Ch} {R : V → List Ch → Prop} (h : G ⟨Go.Proofs.Tryd.prog, gp, pre.length, [(RV.t 4)], R, false⟩ [.code f5_c57, .fin] ⟨args ++ List.replicate (162 - args.length) .un, pre⟩) : Tri Go.Proofs.Tryd.prog gp 5 args pre R :=
  tri_intro Go.Proofs.Tryd.func5 f5_body f5_tr f5_rs (by rw [f5_nt]; exact h)

/-! sigillary/sigillarylaw07.ArenaFinds -/
def f6_r0 : List MO := [
(Qa (Qu 3) (MOp.box (Qm 0))),
(Qa (Qu 5) (MOp.box (Qm 2))),
(Qa (Qu 6) (Qc (Qn (Qo (Qp (Qr false))))))]
def f6_c0 : MC := .reg false f6_r0
def f6_r1 : List MO := [
(Qa (Qu 16) (Qg 8 [])),
(Qa (Qu 7) (Qc (Qm 16)))]
def f6_c1 : MC := .reg false f6_r1
def f6_r2 : List MO := [
(Qa (Qu 17) (Qe 2 true (Qm 3))),
(Qa (Qu 18) (Qg 9 [(Qm 17)])),
(Qa none (Qk 2 (Qm 3) (Qm 18)))]
def f6_c2 : MC := .reg false f6_r2
def f6_r3 : List MO := [
(Qa (Qu 19) (Qe 3 true (Qm 5))),
(Qa (Qu 20) (Qg 17 [(Qm 19)])),
(Qa none (Qk 3 (Qm 5) (Qm 20)))]
def f6_c3 : MC := .reg false f6_r3
def f6_r4 : List MO := [
(Qa (Qu 22) (Qe 2 true (Qm 3))),
(Qa (Qu 23) (Qg 10 [(Qm 22)])),
(Qa (Qu 21) (Qc (Qm 23))),
(Qa (Qu 24) (Qh (Qm 21) 0)),
(Qa (Qu 25) (Qh (Qm 21) 1)),
(Qa (Qu 8) (Qc (Qm 24))),
(Qa (Qu 9) (Qc (Qm 25)))]
def f6_c4 : MC := .reg false f6_r4
def f6_r5 : List MO := [
(Qa (Qu 26) (Qc (Qm 9))),
(Qa (Qu 27) (Qd Qs Go.BinOp.neq (Qm 26) (Qn (Qo (Qp (Qq Qt 0))))))]
def f6_c5 : MC := .reg false f6_r5
def f6_r6 : List MO := [
(Qa (Qu 28) (Qc (Qm 7))),
(Qa (Qu 6) (Qc (Qm 28)))]
def f6_c6 : MC := .reg false f6_r6
def f6_c7 : MC := MC.ret
def f6_c8 : MC := .seq f6_c6 f6_c7
def f6_c9 : MC := MC.skip
def f6_c10 : MC := .cond (Qm 27) f6_c8 f6_c9
def f6_c11 : MC := .seq f6_c5 f6_c10
def f6_r12 : List MO := [
(Qa (Qu 30) (Qe 2 true (Qm 3))),
(Qa (Qu 31) (Qc (Qm 1))),
(Qa (Qu 32) (Qe 3 true (Qm 5))),
(Qa (Qu 33) (Qg 13 [(Qm 30), (Qm 31), (Qm 32)])),
(Qa (Qu 29) (Qc (Qm 33))),
(Qa (Qu 34) (Qh (Qm 29) 0)),
(Qa (Qu 35) (Qh (Qm 29) 1)),
(Qa (Qu 10) (Qc (Qm 34))),
(Qa (Qu 11) (Qc (Qm 35)))]
def f6_c12 : MC := .reg false f6_r12
def f6_r13 : List MO := [
(Qa (Qu 37) (Qe 2 true (Qm 3))),
(Qa (Qu 38) (Qc (Qm 1))),
(Qa (Qu 39) (Qg 12 [(Qm 37), (Qm 38)])),
(Qa (Qu 36) (Qc (Qm 39))),
(Qa (Qu 40) (Qh (Qm 36) 0)),
(Qa (Qu 41) (Qh (Qm 36) 1)),
(Qa (Qu 12) (Qc (Qm 40))),
(Qa (Qu 13) (Qc (Qm 41)))]
def f6_c13 : MC := .reg false f6_r13
def f6_r14 : List MO := [
(Qa (Qu 14) (Qc (Qn (Qo (Qp (Qr false))))))]
def f6_c14 : MC := .reg false f6_r14
def f6_r15 : List MO := [
(Qa (Qu 15) (Qc (Qn (Qo (Qp (Qq Qt 0))))))]
def f6_c15 : MC := .reg false f6_r15
def f6_r16 : List MO := [
(Qa (Qu 42) (Qc (Qm 15))),
(Qa (Qu 43) (Qc (Qm 12))),
(Qa (Qu 44) (Qj Qs (Qm 43))),
(Qa (Qu 45) (Qd Qs Go.BinOp.lss (Qm 42) (Qm 44)))]
def f6_c16 : MC := .reg false f6_r16
def f6_c17 : MC := MC.skip
def f6_c18 : MC := (MC.exit 0)
def f6_c19 : MC := .cond (Qm 45) f6_c17 f6_c18
def f6_c20 : MC := .seq f6_c16 f6_c19
def f6_r21 : List MO := [
(Qa (Qu 48) (Qc (Qm 14))),
(Qa (Qu 49) (Qc (Qm 48))),
(Qb 49 false (Qu 50)),
(Qa (Qu 50) (Qc (Qm 12))),
(Qb 49 false (Qu 51)),
(Qa (Qu 51) (Qc (Qm 15))),
(Qb 49 false (Qu 52)),
(Qa (Qu 52) (Qi 3 (Qm 50) (Qm 51))),
(Qb 49 false (Qu 53)),
(Qa (Qu 53) (Qe 3 true (Qm 52))),
(Qb 49 false (Qu 54)),
(Qa (Qu 54) (Qe 3 true (Qm 5))),
(Qb 49 false (Qu 55)),
(Qa (Qu 55) (MOp.eqs false [Qs, Qs, Leaf.s] (Qm 53) (Qm 54))),
(Qa (Qu 56) (Ql (Qm 49) (Qn (Qo (Qp (Qr true)))) (Qm 55))),
(Qa (Qu 14) (Qc (Qm 56)))]
def f6_c21 : MC := .reg true f6_r21
def f6_c22 : MC := .blk 1 f6_c21
def f6_r23 : List MO := [
(Qa (Qu 46) (Qc (Qm 15))),
(Qa (Qu 47) (Qd Qs Go.BinOp.add (Qm 46) (Qn (Qo (Qp (Qq Qt 1)))))),
(Qa (Qu 15) (Qc (Qm 47)))]
def f6_c23 : MC := .reg false f6_r23
def f6_c24 : MC := .seq f6_c22 f6_c23
def f6_c25 : MC := .seq f6_c20 f6_c24
def f6_c26 : MC := .loop f6_c25
def f6_c27 : MC := .blk 0 f6_c26
def f6_c28 : MC := .seq f6_c15 f6_c27
def f6_r29 : List MO := [
(Qa (Qu 57) (Qc (Qm 7))),
(Qa (Qu 58) (Qc (Qm 57))),
(Qb 58 true (Qu 59)),
(Qa (Qu 59) (Qc (Qm 11))),
(Qb 58 true (Qu 60)),
(Qa (Qu 60) (Qc (Qm 14))),
(Qb 58 true (Qu 61)),
(Qa (Qu 61) (Qd Leaf.b Go.BinOp.eql (Qm 59) (Qm 60))),
(Qa (Qu 62) (Ql (Qm 58) (Qm 61) (Qn (Qo (Qp (Qr false)))))),
(Qa (Qu 63) (Qc (Qm 62))),
(Qb 63 true (Qu 64)),
(Qa (Qu 64) (Qc (Qm 11))),
(Qb 63 true (Qu 65)),
(Qa (Qu 65) (Qc (Qm 64))),
(Qb 65 false (Qu 66)),
(Qa (Qu 66) (Qc (Qm 10))),
(Qb 65 false (Qu 67)),
(Qa (Qu 67) (Qd Qs Go.BinOp.eql (Qm 66) (Qn (Qo (Qp (Qq Qt 0)))))),
(Qb 63 true (Qu 68)),
(Qa (Qu 68) (Ql (Qm 65) (Qn (Qo (Qp (Qr true)))) (Qm 67))),
(Qa (Qu 69) (Ql (Qm 63) (Qm 68) (Qn (Qo (Qp (Qr false)))))),
(Qa (Qu 70) (Qc (Qm 69))),
(Qb 70 true (Qu 71)),
(Qa (Qu 71) (Qc (Qm 10))),
(Qb 70 true (Qu 72)),
(Qa (Qu 72) (Qd Qs Go.BinOp.geq (Qm 71) (Qn (Qo (Qp (Qq Qt 0)))))),
(Qa (Qu 73) (Ql (Qm 70) (Qm 72) (Qn (Qo (Qp (Qr false)))))),
(Qa (Qu 74) (Qc (Qm 73))),
(Qb 74 true (Qu 75)),
(Qa (Qu 75) (Qc (Qm 10))),
(Qb 74 true (Qu 76)),
(Qa (Qu 76) (Qf 1 (Qm 3))),
(Qb 74 true (Qu 77)),
(Qa (Qu 77) (Qe 1 false (Qm 76))),
(Qb 74 true (Qu 78)),
(Qa (Qu 78) (Qj Qs (Qm 77))),
(Qb 74 true (Qu 79)),
(Qa (Qu 79) (Qd Qs Go.BinOp.lss (Qm 75) (Qm 78))),
(Qa (Qu 80) (Ql (Qm 74) (Qm 79) (Qn (Qo (Qp (Qr false)))))),
(Qa (Qu 6) (Qc (Qm 80)))]
def f6_c29 : MC := .reg false f6_r29
def f6_c30 : MC := MC.ret
def f6_c31 : MC := .seq f6_c29 f6_c30
def f6_c32 : MC := .seq f6_c28 f6_c31
def f6_c33 : MC := .seq f6_c14 f6_c32
def f6_c34 : MC := .seq f6_c13 f6_c33
def f6_c35 : MC := .seq f6_c12 f6_c34
def f6_c36 : MC := .seq f6_c11 f6_c35
def f6_c37 : MC := .seq f6_c4 f6_c36
def f6_c38 : MC := .seq f6_c3 f6_c37
def f6_c39 : MC := .seq f6_c2 f6_c38
def f6_c40 : MC := .seq f6_c1 f6_c39
def f6_c41 : MC := .seq f6_c0 f6_c40
noncomputable def f6_code : Code := (Go.Proofs.Tryd.f6.body).getD .skip
theorem f6_body : Go.Proofs.Tryd.f6.body = Qu f6_code := by kernel_rfl
theorem f6_tr : trC Go.Proofs.Tryd.prog [] f6_code = Qu f6_c41 := by kernel_rfl
theorem f6_rs : rsOf Go.Proofs.Tryd.prog Go.Proofs.Tryd.f6.results.toList = Qu [(RV.t 6)] := by kernel_rfl
theorem f6_nt : Go.Proofs.Tryd.f6.ntmps = 81 := by kernel_rfl
theorem f6_ok : callable Go.Proofs.Tryd.prog 6 = true := by kernel_rfl
theorem f6_in {gp : Heap} {args : List V} {res : V} (h : G ⟨Go.Proofs.Tryd.prog, gp, 0, [(RV.t 6)], fun r c => r = res ∧ c = [], false⟩ [.code f6_c41, .fin] ⟨args ++ List.replicate (81 - args.length) .un, []⟩) : Does Go.Proofs.Tryd.prog gp 6 args res :=
  does_intro f6_ok Go.Proofs.Tryd.func6 f6_body f6_tr f6_rs (by rw [f6_nt]; exact h)
theorem f6_tri {gp : Heap} {args : List V} {pre : List Ch} {R : V → List Ch → Prop} (h : G ⟨Go.Proofs.Tryd.prog, gp, pre.length, [(RV.t 6)], R, false⟩ [.code f6_c41, .fin] ⟨args ++ List.replicate (81 - args.length) .un, pre⟩) : Tri Go.Proofs.Tryd.prog gp 6 args pre R :=
  tri_intro Go.Proofs.Tryd.func6 f6_body f6_tr f6_rs (by rw [f6_nt]; exact h)

/-! sigillary/sigillarylaw07.ArenaRoots -/
def f7_r0 : List MO := [
(Qa (Qu 2) (MOp.box (Qm 0))),
(Qa (Qu 4) (Qc (Qn (Qo (Qp (Qr false))))))]
def f7_c0 : MC := .reg false f7_r0
def f7_r1 : List MO := [
(Qa (Qu 10) (Qg 8 [])),
(Qa (Qu 5) (Qc (Qm 10)))]
def f7_c1 : MC := .reg false f7_r1
def f7_r2 : List MO := [
(Qa (Qu 11) (Qe 2 true (Qm 2))),
(Qa (Qu 12) (Qg 9 [(Qm 11)])),
(Qa none (Qk 2 (Qm 2) (Qm 12)))]
def f7_c2 : MC := .reg false f7_r2
def f7_r3 : List MO := [
(Qa (Qu 14) (Qe 2 true (Qm 2))),
(Qa (Qu 15) (Qg 10 [(Qm 14)])),
(Qa (Qu 13) (Qc (Qm 15))),
(Qa (Qu 16) (Qh (Qm 13) 0)),
(Qa (Qu 17) (Qh (Qm 13) 1)),
(Qa (Qu 6) (Qc (Qm 16))),
(Qa (Qu 7) (Qc (Qm 17)))]
def f7_c3 : MC := .reg false f7_r3
def f7_r4 : List MO := [
(Qa (Qu 19) (Qc (Qm 1))),
(Qa (Qu 20) (Qf 1 (Qm 2))),
(Qa (Qu 21) (Qe 1 false (Qm 20))),
(Qa (Qu 22) (MOp.build [(Qq Qt 0), (D.sl [])] [(0, (1, (Qm 19))), (1, (1, (Qm 21)))])),
(Qa (Qu 23) (Qg 10 [(Qm 22)])),
(Qa (Qu 18) (Qc (Qm 23))),
(Qa (Qu 24) (Qh (Qm 18) 0)),
(Qa (Qu 25) (Qh (Qm 18) 1)),
(Qa (Qu 8) (Qc (Qm 24))),
(Qa (Qu 9) (Qc (Qm 25)))]
def f7_c4 : MC := .reg false f7_r4
def f7_r5 : List MO := [
(Qa (Qu 26) (Qc (Qm 7))),
(Qa (Qu 27) (Qd Qs Go.BinOp.neq (Qm 26) (Qn (Qo (Qp (Qq Qt 0))))))]
def f7_c5 : MC := .reg false f7_r5
def f7_r6 : List MO := [
(Qa (Qu 28) (Qc (Qm 5))),
(Qa (Qu 4) (Qc (Qm 28)))]
def f7_c6 : MC := .reg false f7_r6
def f7_c7 : MC := MC.ret
def f7_c8 : MC := .seq f7_c6 f7_c7
def f7_c9 : MC := MC.skip
def f7_c10 : MC := .cond (Qm 27) f7_c8 f7_c9
def f7_c11 : MC := .seq f7_c5 f7_c10
def f7_r12 : List MO := [
(Qa (Qu 29) (Qc (Qm 1))),
(Qa (Qu 30) (Qd Qs Go.BinOp.lss (Qm 29) (Qn (Qo (Qp (Qq Qt 0)))))),
(Qa (Qu 31) (Qc (Qm 30))),
(Qb 31 false (Qu 32)),
(Qa (Qu 32) (Qc (Qm 1))),
(Qb 31 false (Qu 33)),
(Qa (Qu 33) (Qf 1 (Qm 2))),
(Qb 31 false (Qu 34)),
(Qa (Qu 34) (Qe 1 false (Qm 33))),
(Qb 31 false (Qu 35)),
(Qa (Qu 35) (Qj Qs (Qm 34))),
(Qb 31 false (Qu 36)),
(Qa (Qu 36) (Qd Qs Go.BinOp.geq (Qm 32) (Qm 35))),
(Qa (Qu 37) (Ql (Qm 31) (Qn (Qo (Qp (Qr true)))) (Qm 36)))]
def f7_c12 : MC := .reg false f7_r12
def f7_r13 : List MO := [
(Qa (Qu 38) (Qc (Qm 5))),
(Qa (Qu 39) (Qc (Qm 38))),
(Qb 39 true (Qu 40)),
(Qa (Qu 40) (Qc (Qm 9))),
(Qb 39 true (Qu 41)),
(Qa (Qu 41) (Qd Qs Go.BinOp.eql (Qm 40) (Qn (Qo (Qp (Qq Qt 70)))))),
(Qa (Qu 42) (Ql (Qm 39) (Qm 41) (Qn (Qo (Qp (Qr false)))))),
(Qa (Qu 43) (Qc (Qm 42))),
(Qb 43 true (Qu 44)),
(Qa (Qu 44) (Qc (Qm 8))),
(Qb 43 true (Qu 45)),
(Qa (Qu 45) (Qd Qs Go.BinOp.eql (Qm 44) (Qn (Qo (Qp (Qq Qt (-1))))))),
(Qa (Qu 46) (Ql (Qm 43) (Qm 45) (Qn (Qo (Qp (Qr false)))))),
(Qa (Qu 4) (Qc (Qm 46)))]
def f7_c13 : MC := .reg false f7_r13
def f7_c14 : MC := MC.ret
def f7_c15 : MC := .seq f7_c13 f7_c14
def f7_c16 : MC := MC.skip
def f7_c17 : MC := .cond (Qm 37) f7_c15 f7_c16
def f7_c18 : MC := .seq f7_c12 f7_c17
def f7_r19 : List MO := [
(Qa (Qu 47) (Qc (Qm 5))),
(Qa (Qu 48) (Qc (Qm 47))),
(Qb 48 true (Qu 49)),
(Qa (Qu 49) (Qc (Qm 9))),
(Qb 48 true (Qu 50)),
(Qa (Qu 50) (Qd Qs Go.BinOp.eql (Qm 49) (Qn (Qo (Qp (Qq Qt 0)))))),
(Qa (Qu 51) (Ql (Qm 48) (Qm 50) (Qn (Qo (Qp (Qr false)))))),
(Qa (Qu 52) (Qc (Qm 51))),
(Qb 52 true (Qu 53)),
(Qa (Qu 53) (Qc (Qm 8))),
(Qb 52 true (Qu 54)),
(Qa (Qu 54) (Qd Qs Go.BinOp.eql (Qm 53) (Qn (Qo (Qp (Qq Qt 0)))))),
(Qa (Qu 55) (Ql (Qm 52) (Qm 54) (Qn (Qo (Qp (Qr false)))))),
(Qa (Qu 4) (Qc (Qm 55)))]
def f7_c19 : MC := .reg false f7_r19
def f7_c20 : MC := MC.ret
def f7_c21 : MC := .seq f7_c19 f7_c20
def f7_c22 : MC := .seq f7_c18 f7_c21
def f7_c23 : MC := .seq f7_c11 f7_c22
def f7_c24 : MC := .seq f7_c4 f7_c23
def f7_c25 : MC := .seq f7_c3 f7_c24
def f7_c26 : MC := .seq f7_c2 f7_c25
def f7_c27 : MC := .seq f7_c1 f7_c26
def f7_c28 : MC := .seq f7_c0 f7_c27
noncomputable def f7_code : Code := (Go.Proofs.Tryd.f7.body).getD .skip
theorem f7_body : Go.Proofs.Tryd.f7.body = Qu f7_code := by kernel_rfl
theorem f7_tr : trC Go.Proofs.Tryd.prog [] f7_code = Qu f7_c28 := by kernel_rfl
theorem f7_rs : rsOf Go.Proofs.Tryd.prog Go.Proofs.Tryd.f7.results.toList = Qu [(RV.t 4)] := by kernel_rfl
theorem f7_nt : Go.Proofs.Tryd.f7.ntmps = 56 := by kernel_rfl
theorem f7_ok : callable Go.Proofs.Tryd.prog 7 = true := by kernel_rfl
theorem f7_in {gp : Heap} {args : List V} {res : V} (h : G ⟨Go.Proofs.Tryd.prog, gp, 0, [(RV.t 4)], fun r c => r = res ∧ c = [], false⟩ [.code f7_c28, .fin] ⟨args ++ List.replicate (56 - args.length) .un, []⟩) : Does Go.Proofs.Tryd.prog gp 7 args res :=
  does_intro f7_ok Go.Proofs.Tryd.func7 f7_body f7_tr f7_rs (by rw [f7_nt]; exact h)
theorem f7_tri {gp : Heap} {args : List V} {pre : List Ch} {R : V → List Ch → Prop} (h : G ⟨Go.Proofs.Tryd.prog, gp, pre.length, [(RV.t 4)], R, false⟩ [.code f7_c28, .fin] ⟨args ++ List.replicate (56 - args.length) .un, pre⟩) : Tri Go.Proofs.Tryd.prog gp 7 args pre R :=
  tri_intro Go.Proofs.Tryd.func7 f7_body f7_tr f7_rs (by rw [f7_nt]; exact h)

/-! sigillary/sigillarylaw07.shown -/
def f8_r0 : List MO := [
(Qa (Qu 0) (Qc (Qn (Qo (Qp (Qr false))))))]
def f8_c0 : MC := .reg false f8_r0
def f8_r1 : List MO := [
(Qa (Qu 14) (MOp.build [(Qq Qt 0), (Qq Qt 0), (D.str (ByteArray.mk #[]))] [(0, (1, (Qn (Qo (Qp (Qq Qt 3)))))), (2, (1, (Qn (Qo (Qp (D.str (ByteArray.mk #[98])))))))])),
(Qa (Qu 15) (MOp.build [(Qq Qt 0), (Qq Qt 0), (D.str (ByteArray.mk #[]))] [(0, (1, (Qn (Qo (Qp (Qq Qt 2)))))), (1, (1, (Qn (Qo (Qp (Qq Qt 2))))))])),
(Qa (Qu 16) (MOp.bslice 3 [(Qq Qt 0), (Qq Qt 0), (D.str (ByteArray.mk #[]))] 2 [(0, (Qm 14)), (1, (Qm 15))])),
(Qa (Qu 17) (MOp.bslice 1 [(Qq Qt 0)] 2 [(0, (Qn (Qo (Qp (Qq Qt 0))))), (1, (Qn (Qo (Qp (Qq Qt 1)))))])),
(Qa (Qu 18) (MOp.build [(Qq Qt 0), (Qq Qt 0), (Qq Qt 0), (D.str (ByteArray.mk #[])), (D.sl []), (D.sl [])] [(0, (1, (Qn (Qo (Qp (Qq Qt 2)))))), (4, (1, (Qm 16))), (5, (1, (Qm 17)))])),
(Qa (Qu 19) (MOp.build [(Qq Qt 0), (Qq Qt 0), (D.str (ByteArray.mk #[]))] [(0, (1, (Qn (Qo (Qp (Qq Qt 2)))))), (1, (1, (Qn (Qo (Qp (Qq Qt 5))))))])),
(Qa (Qu 20) (MOp.build [(Qq Qt 0), (Qq Qt 0), (Qq Qt 0), (D.str (ByteArray.mk #[])), (D.sl []), (D.sl [])] [(1, (3, (Qm 19)))])),
(Qa (Qu 21) (MOp.bslice 6 [(Qq Qt 0), (Qq Qt 0), (Qq Qt 0), (D.str (ByteArray.mk #[])), (D.sl []), (D.sl [])] 2 [(0, (Qm 18)), (1, (Qm 20))])),
(Qa (Qu 22) (MOp.build [(Qq Qt 0), (D.sl [])] [(1, (1, (Qm 21)))])),
(Qa (Qu 1) (MOp.alloc [(Qq Qt 0), (D.sl [])])),
(Qa none (Qk 2 (Qm 1) (Qm 22)))]
def f8_c1 : MC := .reg false f8_r1
def f8_r2 : List MO := [
(Qa (Qu 24) (Qe 2 true (Qm 1))),
(Qa (Qu 25) (Qg 10 [(Qm 24)])),
(Qa (Qu 23) (Qc (Qm 25))),
(Qa (Qu 26) (Qh (Qm 23) 0)),
(Qa (Qu 27) (Qh (Qm 23) 1)),
(Qa (Qu 2) (Qc (Qm 26))),
(Qa (Qu 3) (Qc (Qm 27)))]
def f8_c2 : MC := .reg false f8_r2
def f8_r3 : List MO := [
(Qa (Qu 29) (Qe 2 true (Qm 1))),
(Qa (Qu 30) (Qg 11 [(Qm 29), (Qn (Qo (Qp (Qq Qt 0))))])),
(Qa (Qu 28) (Qc (Qm 30))),
(Qa (Qu 31) (Qh (Qm 28) 0)),
(Qa (Qu 32) (Qh (Qm 28) 1)),
(Qa (Qu 4) (Qc (Qm 31))),
(Qa (Qu 5) (Qc (Qm 32)))]
def f8_c3 : MC := .reg false f8_r3
def f8_r4 : List MO := [
(Qa (Qu 34) (Qe 2 true (Qm 1))),
(Qa (Qu 35) (Qg 12 [(Qm 34), (Qn (Qo (Qp (Qq Qt 0))))])),
(Qa (Qu 33) (Qc (Qm 35))),
(Qa (Qu 36) (Qh (Qm 33) 0)),
(Qa (Qu 37) (Qh (Qm 33) 1)),
(Qa (Qu 6) (Qc (Qm 36))),
(Qa (Qu 7) (Qc (Qm 37)))]
def f8_c4 : MC := .reg false f8_r4
def f8_r5 : List MO := [
(Qa (Qu 39) (Qe 2 true (Qm 1))),
(Qa (Qu 40) (MOp.build [(Qq Qt 0), (Qq Qt 0), (D.str (ByteArray.mk #[]))] [(0, (1, (Qn (Qo (Qp (Qq Qt 2)))))), (1, (1, (Qn (Qo (Qp (Qq Qt 2))))))])),
(Qa (Qu 41) (Qg 13 [(Qm 39), (Qn (Qo (Qp (Qq Qt 0)))), (Qm 40)])),
(Qa (Qu 38) (Qc (Qm 41))),
(Qa (Qu 42) (Qh (Qm 38) 0)),
(Qa (Qu 43) (Qh (Qm 38) 1)),
(Qa (Qu 8) (Qc (Qm 42))),
(Qa (Qu 9) (Qc (Qm 43)))]
def f8_c5 : MC := .reg false f8_r5
def f8_r6 : List MO := [
(Qa (Qu 45) (MOp.bslice 1 [(Qq Qt 0)] 1 [(0, (Qn (Qo (Qp (Qq Qt 1)))))])),
(Qa (Qu 46) (MOp.build [(Qq Qt 0), (Qq Qt 0), (Qq Qt 0), (D.str (ByteArray.mk #[])), (D.sl []), (D.sl [])] [(0, (1, (Qn (Qo (Qp (Qq Qt 1)))))), (5, (1, (Qm 45)))])),
(Qa (Qu 47) (MOp.bslice 6 [(Qq Qt 0), (Qq Qt 0), (Qq Qt 0), (D.str (ByteArray.mk #[])), (D.sl []), (D.sl [])] 1 [(0, (Qm 46))])),
(Qa (Qu 48) (MOp.build [(Qq Qt 0), (D.sl [])] [(1, (1, (Qm 47)))])),
(Qa (Qu 49) (Qg 10 [(Qm 48)])),
(Qa (Qu 44) (Qc (Qm 49))),
(Qa (Qu 50) (Qh (Qm 44) 0)),
(Qa (Qu 51) (Qh (Qm 44) 1)),
(Qa (Qu 10) (Qc (Qm 50))),
(Qa (Qu 11) (Qc (Qm 51)))]
def f8_c6 : MC := .reg false f8_r6
def f8_r7 : List MO := [
(Qa (Qu 53) (Qe 2 true (Qm 1))),
(Qa (Qu 54) (Qg 11 [(Qm 53), (Qn (Qo (Qp (Qq Qt 2))))])),
(Qa (Qu 52) (Qc (Qm 54))),
(Qa (Qu 55) (Qh (Qm 52) 0)),
(Qa (Qu 56) (Qh (Qm 52) 1)),
(Qa (Qu 12) (Qc (Qm 55))),
(Qa (Qu 13) (Qc (Qm 56)))]
def f8_c7 : MC := .reg false f8_r7
def f8_r8 : List MO := [
(Qa (Qu 57) (Qc (Qm 3))),
(Qa (Qu 58) (Qd Qs Go.BinOp.eql (Qm 57) (Qn (Qo (Qp (Qq Qt 0)))))),
(Qa (Qu 59) (Qc (Qm 58))),
(Qb 59 true (Qu 60)),
(Qa (Qu 60) (Qc (Qm 5))),
(Qb 59 true (Qu 61)),
(Qa (Qu 61) (Qd Qs Go.BinOp.eql (Qm 60) (Qn (Qo (Qp (Qq Qt 0)))))),
(Qa (Qu 62) (Ql (Qm 59) (Qm 61) (Qn (Qo (Qp (Qr false)))))),
(Qa (Qu 63) (Qc (Qm 62))),
(Qb 63 true (Qu 64)),
(Qa (Qu 64) (Qc (Qm 4))),
(Qb 63 true (Qu 65)),
(Qa (Qu 65) (MOp.bslice 1 [(Qq Qt 0)] 2 [(0, (Qn (Qo (Qp (Qq Qt 1))))), (1, (Qn (Qo (Qp (Qq Qt 0)))))])),
(Qb 63 true (Qu 66)),
(Qa (Qu 66) (Qg 15 [(Qm 64), (Qm 65)])),
(Qa (Qu 67) (Ql (Qm 63) (Qm 66) (Qn (Qo (Qp (Qr false)))))),
(Qa (Qu 68) (Qc (Qm 67))),
(Qb 68 true (Qu 69)),
(Qa (Qu 69) (Qc (Qm 7))),
(Qb 68 true (Qu 70)),
(Qa (Qu 70) (Qd Qs Go.BinOp.eql (Qm 69) (Qn (Qo (Qp (Qq Qt 0)))))),
(Qa (Qu 71) (Ql (Qm 68) (Qm 70) (Qn (Qo (Qp (Qr false)))))),
(Qa (Qu 72) (Qc (Qm 71))),
(Qb 72 true (Qu 73)),
(Qa (Qu 73) (Qc (Qm 6))),
(Qb 72 true (Qu 74)),
(Qa (Qu 74) (Qj Qs (Qm 73))),
(Qb 72 true (Qu 75)),
(Qa (Qu 75) (Qd Qs Go.BinOp.eql (Qm 74) (Qn (Qo (Qp (Qq Qt 2)))))),
(Qa (Qu 76) (Ql (Qm 72) (Qm 75) (Qn (Qo (Qp (Qr false)))))),
(Qa (Qu 77) (Qc (Qm 76))),
(Qb 77 true (Qu 78)),
(Qa (Qu 78) (Qc (Qm 6))),
(Qb 77 true (Qu 79)),
(Qa (Qu 79) (Qi 3 (Qm 78) (Qn (Qo (Qp (Qq Qt 0)))))),
(Qb 77 true (Qu 80)),
(Qa (Qu 80) (Qf 0 (Qm 79))),
(Qb 77 true (Qu 81)),
(Qa (Qu 81) (Qe 1 false (Qm 80))),
(Qb 77 true (Qu 82)),
(Qa (Qu 82) (Qd Qs Go.BinOp.eql (Qm 81) (Qn (Qo (Qp (Qq Qt 2)))))),
(Qa (Qu 83) (Ql (Qm 77) (Qm 82) (Qn (Qo (Qp (Qr false)))))),
(Qa (Qu 84) (Qc (Qm 83))),
(Qb 84 true (Qu 85)),
(Qa (Qu 85) (Qc (Qm 8))),
(Qb 84 true (Qu 86)),
(Qa (Qu 86) (Qd Qs Go.BinOp.eql (Qm 85) (Qn (Qo (Qp (Qq Qt 1)))))),
(Qa (Qu 87) (Ql (Qm 84) (Qm 86) (Qn (Qo (Qp (Qr false)))))),
(Qa (Qu 88) (Qc (Qm 87))),
(Qb 88 true (Qu 89)),
(Qa (Qu 89) (Qc (Qm 9))),
(Qa (Qu 90) (Ql (Qm 88) (Qm 89) (Qn (Qo (Qp (Qr false)))))),
(Qa (Qu 91) (Qc (Qm 90))),
(Qb 91 true (Qu 92)),
(Qa (Qu 92) (Qc (Qm 10))),
(Qb 91 true (Qu 93)),
(Qa (Qu 93) (Qd Qs Go.BinOp.eql (Qm 92) (Qn (Qo (Qp (Qq Qt 0)))))),
(Qa (Qu 94) (Ql (Qm 91) (Qm 93) (Qn (Qo (Qp (Qr false)))))),
(Qa (Qu 95) (Qc (Qm 94))),
(Qb 95 true (Qu 96)),
(Qa (Qu 96) (Qc (Qm 11))),
(Qb 95 true (Qu 97)),
(Qa (Qu 97) (Qd Qs Go.BinOp.eql (Qm 96) (Qn (Qo (Qp (Qq Qt 70)))))),
(Qa (Qu 98) (Ql (Qm 95) (Qm 97) (Qn (Qo (Qp (Qr false)))))),
(Qa (Qu 99) (Qc (Qm 98))),
(Qb 99 true (Qu 100)),
(Qa (Qu 100) (Qc (Qm 13))),
(Qb 99 true (Qu 101)),
(Qa (Qu 101) (Qd Qs Go.BinOp.eql (Qm 100) (Qn (Qo (Qp (Qq Qt 2)))))),
(Qa (Qu 102) (Ql (Qm 99) (Qm 101) (Qn (Qo (Qp (Qr false)))))),
(Qa (Qu 103) (Qc (Qm 102))),
(Qb 103 true (Qu 104)),
(Qa (Qu 104) (Qe 2 true (Qm 1))),
(Qb 103 true (Qu 105)),
(Qa (Qu 105) (Qe 2 true (Qm 1))),
(Qb 103 true (Qu 106)),
(Qa (Qu 106) (Qg 18 [(Qm 104), (Qm 105)])),
(Qa (Qu 107) (Ql (Qm 103) (Qm 106) (Qn (Qo (Qp (Qr false)))))),
(Qa (Qu 0) (Qc (Qm 107)))]
def f8_c8 : MC := .reg false f8_r8
def f8_c9 : MC := MC.ret
def f8_c10 : MC := .seq f8_c8 f8_c9
def f8_c11 : MC := .seq f8_c7 f8_c10
def f8_c12 : MC := .seq f8_c6 f8_c11
def f8_c13 : MC := .seq f8_c5 f8_c12
def f8_c14 : MC := .seq f8_c4 f8_c13
def f8_c15 : MC := .seq f8_c3 f8_c14
def f8_c16 : MC := .seq f8_c2 f8_c15
def f8_c17 : MC := .seq f8_c1 f8_c16
def f8_c18 : MC := .seq f8_c0 f8_c17
noncomputable def f8_code : Code := (Go.Proofs.Tryd.f8.body).getD .skip
theorem f8_body : Go.Proofs.Tryd.f8.body = Qu f8_code := by kernel_rfl
theorem f8_tr : trC Go.Proofs.Tryd.prog [] f8_code = Qu f8_c18 := by kernel_rfl
theorem f8_rs : rsOf Go.Proofs.Tryd.prog Go.Proofs.Tryd.f8.results.toList = Qu [(RV.t 0)] := by kernel_rfl
theorem f8_nt : Go.Proofs.Tryd.f8.ntmps = 108 := by kernel_rfl
theorem f8_ok : callable Go.Proofs.Tryd.prog 8 = true := by kernel_rfl
theorem f8_in {gp : Heap} {args : List V} {res : V} (h : G ⟨Go.Proofs.Tryd.prog, gp, 0, [(RV.t 0)], fun r c => r = res ∧ c = [], false⟩ [.code f8_c18, .fin] ⟨args ++ List.replicate (108 - args.length) .un, []⟩) : Does Go.Proofs.Tryd.prog gp 8 args res :=
  does_intro f8_ok Go.Proofs.Tryd.func8 f8_body f8_tr f8_rs (by rw [f8_nt]; exact h)
theorem f8_tri {gp : Heap} {args : List V} {pre : List Ch} {R : V → List Ch → Prop} (h : G ⟨Go.Proofs.Tryd.prog, gp, pre.length, [(RV.t 0)], R, false⟩ [.code f8_c18, .fin] ⟨args ++ List.replicate (108 - args.length) .un, pre⟩) : Tri Go.Proofs.Tryd.prog gp 8 args pre R :=
  tri_intro Go.Proofs.Tryd.func8 f8_body f8_tr f8_rs (by rw [f8_nt]; exact h)

/-! sigillary/sigillarylaw07.Cut -/
def f9_r0 : List MO := [
(Qa (Qu 1) (MOp.ibox (Qm 0))),
(Qa (Qu 2) (MOp.alloc [(Qq Qt 0), (D.sl [])]))]
def f9_c0 : MC := .reg false f9_r0
def f9_r1 : List MO := [
(Qa (Qu 9) (Qf 0 (Qm 1))),
(Qa (Qu 10) (Qe 1 false (Qm 9))),
(Qa (Qu 11) (MOp.build [(Qq Qt 0), (D.sl [])] [(0, (1, (Qm 10)))])),
(Qa (Qu 3) (MOp.alloc [(Qq Qt 0), (D.sl [])])),
(Qa none (Qk 2 (Qm 3) (Qm 11)))]
def f9_c1 : MC := .reg false f9_r1
def f9_r2 : List MO := [
(Qa (Qu 4) (Qc (Qn (Qo (Qp (Qq Qt 0))))))]
def f9_c2 : MC := .reg false f9_r2
def f9_r3 : List MO := [
(Qa (Qu 12) (Qc (Qm 4))),
(Qa (Qu 13) (Qf 1 (Qm 1))),
(Qa (Qu 14) (Qe 1 false (Qm 13))),
(Qa (Qu 15) (Qj Qs (Qm 14))),
(Qa (Qu 16) (Qd Qs Go.BinOp.lss (Qm 12) (Qm 15))),
(Qa (Qu 17) (Qc (Qm 16))),
(Qb 17 true (Qu 18)),
(Qa (Qu 18) (Qc (Qm 4))),
(Qb 17 true (Qu 19)),
(Qa (Qu 19) (Qd Qs Go.BinOp.lss (Qm 18) (Qn (Qo (Qp (Qq Qt 201)))))),
(Qa (Qu 20) (Ql (Qm 17) (Qm 19) (Qn (Qo (Qp (Qr false))))))]
def f9_c3 : MC := .reg false f9_r3
def f9_c4 : MC := MC.skip
def f9_c5 : MC := (MC.exit 0)
def f9_c6 : MC := .cond (Qm 20) f9_c4 f9_c5
def f9_c7 : MC := .seq f9_c3 f9_c6
def f9_r8 : List MO := [
(Qa (Qu 23) (Qf 1 (Qm 1))),
(Qa (Qu 24) (Qe 1 false (Qm 23))),
(Qa (Qu 25) (Qc (Qm 4))),
(Qa (Qu 26) (Qi 6 (Qm 24) (Qm 25))),
(Qa (Qu 27) (Qe 6 true (Qm 26))),
(Qa (Qu 5) (MOp.alloc [(Qq Qt 0), (Qq Qt 0), (Qq Qt 0), (D.str (ByteArray.mk #[])), (D.sl []), (D.sl [])])),
(Qa none (Qk 6 (Qm 5) (Qm 27)))]
def f9_c8 : MC := .reg false f9_r8
def f9_r9 : List MO := [
(Qa (Qu 28) (Qf 0 (Qm 5))),
(Qa (Qu 29) (Qe 1 false (Qm 28))),
(Qa (Qu 30) (Qf 1 (Qm 5))),
(Qa (Qu 31) (Qe 3 true (Qm 30))),
(Qa (Qu 32) (Qg 17 [(Qm 31)])),
(Qa (Qu 33) (MOp.build [(Qq Qt 0), (Qq Qt 0), (Qq Qt 0), (D.str (ByteArray.mk #[])), (D.sl []), (D.sl [])] [(0, (1, (Qm 29))), (1, (3, (Qm 32)))])),
(Qa (Qu 6) (MOp.alloc [(Qq Qt 0), (Qq Qt 0), (Qq Qt 0), (D.str (ByteArray.mk #[])), (D.sl []), (D.sl [])])),
(Qa none (Qk 6 (Qm 6) (Qm 33)))]
def f9_c9 : MC := .reg true f9_r9
def f9_r10 : List MO := [
(Qa (Qu 7) (Qc (Qn (Qo (Qp (Qq Qt 0))))))]
def f9_c10 : MC := .reg false f9_r10
def f9_r11 : List MO := [
(Qa (Qu 34) (Qc (Qm 7))),
(Qa (Qu 35) (Qf 4 (Qm 5))),
(Qa (Qu 36) (Qe 1 false (Qm 35))),
(Qa (Qu 37) (Qj Qs (Qm 36))),
(Qa (Qu 38) (Qd Qs Go.BinOp.lss (Qm 34) (Qm 37))),
(Qa (Qu 39) (Qc (Qm 38))),
(Qb 39 true (Qu 40)),
(Qa (Qu 40) (Qc (Qm 7))),
(Qb 39 true (Qu 41)),
(Qa (Qu 41) (Qd Qs Go.BinOp.lss (Qm 40) (Qn (Qo (Qp (Qq Qt 12)))))),
(Qa (Qu 42) (Ql (Qm 39) (Qm 41) (Qn (Qo (Qp (Qr false))))))]
def f9_c11 : MC := .reg false f9_r11
def f9_c12 : MC := MC.skip
def f9_c13 : MC := (MC.exit 2)
def f9_c14 : MC := .cond (Qm 42) f9_c12 f9_c13
def f9_c15 : MC := .seq f9_c11 f9_c14
def f9_r16 : List MO := [
(Qa (Qu 45) (Qf 4 (Qm 6))),
(Qa (Qu 46) (Qe 1 false (Qm 45))),
(Qa (Qu 47) (Qf 4 (Qm 5))),
(Qa (Qu 48) (Qe 1 false (Qm 47))),
(Qa (Qu 49) (Qc (Qm 7))),
(Qa (Qu 50) (Qi 3 (Qm 48) (Qm 49))),
(Qa (Qu 51) (Qe 3 true (Qm 50))),
(Qa (Qu 52) (Qg 17 [(Qm 51)])),
(Qa (Qu 53) (MOp.bslice 3 [(Qq Qt 0), (Qq Qt 0), (D.str (ByteArray.mk #[]))] 1 [(0, (Qm 52))])),
(Qa (Qu 54) (MOp.app 3 32 (Qm 46) (Qm 53))),
(Qa (Qu 55) (Qf 4 (Qm 6))),
(Qa none (Qk 1 (Qm 55) (Qm 54)))]
def f9_c16 : MC := .reg true f9_r16
def f9_c17 : MC := .blk 3 f9_c16
def f9_r18 : List MO := [
(Qa (Qu 43) (Qc (Qm 7))),
(Qa (Qu 44) (Qd Qs Go.BinOp.add (Qm 43) (Qn (Qo (Qp (Qq Qt 1)))))),
(Qa (Qu 7) (Qc (Qm 44)))]
def f9_c18 : MC := .reg false f9_r18
def f9_c19 : MC := .seq f9_c17 f9_c18
def f9_c20 : MC := .seq f9_c15 f9_c19
def f9_c21 : MC := .loop f9_c20
def f9_c22 : MC := .blk 2 f9_c21
def f9_c23 : MC := .seq f9_c10 f9_c22
def f9_r24 : List MO := [
(Qa (Qu 8) (Qc (Qn (Qo (Qp (Qq Qt 0))))))]
def f9_c24 : MC := .reg false f9_r24
def f9_r25 : List MO := [
(Qa (Qu 56) (Qc (Qm 8))),
(Qa (Qu 57) (Qf 5 (Qm 5))),
(Qa (Qu 58) (Qe 1 false (Qm 57))),
(Qa (Qu 59) (Qj Qs (Qm 58))),
(Qa (Qu 60) (Qd Qs Go.BinOp.lss (Qm 56) (Qm 59))),
(Qa (Qu 61) (Qc (Qm 60))),
(Qb 61 true (Qu 62)),
(Qa (Qu 62) (Qc (Qm 8))),
(Qb 61 true (Qu 63)),
(Qa (Qu 63) (Qd Qs Go.BinOp.lss (Qm 62) (Qn (Qo (Qp (Qq Qt 12)))))),
(Qa (Qu 64) (Ql (Qm 61) (Qm 63) (Qn (Qo (Qp (Qr false))))))]
def f9_c25 : MC := .reg false f9_r25
def f9_c26 : MC := MC.skip
def f9_c27 : MC := (MC.exit 4)
def f9_c28 : MC := .cond (Qm 64) f9_c26 f9_c27
def f9_c29 : MC := .seq f9_c25 f9_c28
def f9_r30 : List MO := [
(Qa (Qu 67) (Qf 5 (Qm 6))),
(Qa (Qu 68) (Qe 1 false (Qm 67))),
(Qa (Qu 69) (Qf 5 (Qm 5))),
(Qa (Qu 70) (Qe 1 false (Qm 69))),
(Qa (Qu 71) (Qc (Qm 8))),
(Qa (Qu 72) (Qi 1 (Qm 70) (Qm 71))),
(Qa (Qu 73) (Qe 1 false (Qm 72))),
(Qa (Qu 74) (MOp.bslice 1 [(Qq Qt 0)] 1 [(0, (Qm 73))])),
(Qa (Qu 75) (MOp.app 1 8 (Qm 68) (Qm 74))),
(Qa (Qu 76) (Qf 5 (Qm 6))),
(Qa none (Qk 1 (Qm 76) (Qm 75)))]
def f9_c30 : MC := .reg true f9_r30
def f9_c31 : MC := .blk 5 f9_c30
def f9_r32 : List MO := [
(Qa (Qu 65) (Qc (Qm 8))),
(Qa (Qu 66) (Qd Qs Go.BinOp.add (Qm 65) (Qn (Qo (Qp (Qq Qt 1)))))),
(Qa (Qu 8) (Qc (Qm 66)))]
def f9_c32 : MC := .reg false f9_r32
def f9_c33 : MC := .seq f9_c31 f9_c32
def f9_c34 : MC := .seq f9_c29 f9_c33
def f9_c35 : MC := .loop f9_c34
def f9_c36 : MC := .blk 4 f9_c35
def f9_c37 : MC := .seq f9_c24 f9_c36
def f9_r38 : List MO := [
(Qa (Qu 77) (Qf 1 (Qm 3))),
(Qa (Qu 78) (Qe 1 false (Qm 77))),
(Qa (Qu 79) (Qe 6 true (Qm 6))),
(Qa (Qu 80) (MOp.bslice 6 [(Qq Qt 0), (Qq Qt 0), (Qq Qt 0), (D.str (ByteArray.mk #[])), (D.sl []), (D.sl [])] 1 [(0, (Qm 79))])),
(Qa (Qu 81) (MOp.app 6 88 (Qm 78) (Qm 80))),
(Qa (Qu 82) (Qf 1 (Qm 3))),
(Qa none (Qk 1 (Qm 82) (Qm 81)))]
def f9_c38 : MC := .reg false f9_r38
def f9_c39 : MC := .seq f9_c37 f9_c38
def f9_c40 : MC := .seq f9_c23 f9_c39
def f9_c41 : MC := .seq f9_c9 f9_c40
def f9_c42 : MC := .seq f9_c8 f9_c41
def f9_c43 : MC := .blk 1 f9_c42
def f9_r44 : List MO := [
(Qa (Qu 21) (Qc (Qm 4))),
(Qa (Qu 22) (Qd Qs Go.BinOp.add (Qm 21) (Qn (Qo (Qp (Qq Qt 1)))))),
(Qa (Qu 4) (Qc (Qm 22)))]
def f9_c44 : MC := .reg false f9_r44
def f9_c45 : MC := .seq f9_c43 f9_c44
def f9_c46 : MC := .seq f9_c7 f9_c45
def f9_c47 : MC := .loop f9_c46
def f9_c48 : MC := .blk 0 f9_c47
def f9_c49 : MC := .seq f9_c2 f9_c48
def f9_r50 : List MO := [
(Qa (Qu 83) (Qe 2 true (Qm 3))),
(Qa none (Qk 2 (Qm 2) (Qm 83)))]
def f9_c50 : MC := .reg false f9_r50
def f9_c51 : MC := MC.ret
def f9_c52 : MC := .seq f9_c50 f9_c51
def f9_c53 : MC := .seq f9_c49 f9_c52
def f9_c54 : MC := .seq f9_c1 f9_c53
def f9_c55 : MC := .seq f9_c0 f9_c54
noncomputable def f9_code : Code := (Go.Proofs.Tryd.f9.body).getD .skip
theorem f9_body : Go.Proofs.Tryd.f9.body = Qu f9_code := by kernel_rfl
theorem f9_tr : trC Go.Proofs.Tryd.prog [1] f9_code = Qu f9_c55 := by kernel_rfl
theorem f9_rs : rsOf Go.Proofs.Tryd.prog Go.Proofs.Tryd.f9.results.toList = Qu [(RV.cell 2 2 true)] := by kernel_rfl
theorem f9_nt : Go.Proofs.Tryd.f9.ntmps = 84 := by kernel_rfl
theorem f9_ok : callable Go.Proofs.Tryd.prog 9 = true := by kernel_rfl
theorem f9_in {gp : Heap} {args : List V} {res : V} (h : G ⟨Go.Proofs.Tryd.prog, gp, 0, [(RV.cell 2 2 true)], fun r c => r = res ∧ c = [], false⟩ [.code f9_c55, .fin] ⟨args ++ List.replicate (84 - args.length) .un, []⟩) : Does Go.Proofs.Tryd.prog gp 9 args res :=
  does_intro f9_ok Go.Proofs.Tryd.func9 f9_body f9_tr f9_rs (by rw [f9_nt]; exact h)
theorem f9_tri {gp : Heap} {args : List V} {pre : List Ch} {R : V → List Ch → Prop} (h : G ⟨Go.Proofs.Tryd.prog, gp, pre.length, [(RV.cell 2 2 true)], R, false⟩ [.code f9_c55, .fin] ⟨args ++ List.replicate (84 - args.length) .un, pre⟩) : Tri Go.Proofs.Tryd.prog gp 9 args pre R :=
  tri_intro Go.Proofs.Tryd.func9 f9_body f9_tr f9_rs (by rw [f9_nt]; exact h)

/-! sigillary/arena.Check -/
def f10_r0 : List MO := [
(Qa (Qu 1) (MOp.ibox (Qm 0))),
(Qa (Qu 2) (Qc (Qn (Qo (Qp (Qq Qt 0)))))),
(Qa (Qu 3) (Qc (Qn (Qo (Qp (Qq Qt 0))))))]
def f10_c0 : MC := .reg false f10_r0
def f10_r1 : List MO := [
(Qa (Qu 4) (Qe 2 true (Qm 1))),
(Qa (Qu 5) (Qg 20 [(Qm 4)])),
(Qa (Qu 6) (Qg 19 [(Qm 5)])),
(Qa (Qu 7) (Qh (Qm 6) 0)),
(Qa (Qu 8) (Qh (Qm 6) 1)),
(Qa (Qu 2) (Qc (Qm 7))),
(Qa (Qu 3) (Qc (Qm 8)))]
def f10_c1 : MC := .reg false f10_r1
def f10_c2 : MC := MC.ret
def f10_c3 : MC := .seq f10_c1 f10_c2
def f10_c4 : MC := .seq f10_c0 f10_c3
noncomputable def f10_code : Code := (Go.Proofs.Tryd.f10.body).getD .skip
theorem f10_body : Go.Proofs.Tryd.f10.body = Qu f10_code := by kernel_rfl
theorem f10_tr : trC Go.Proofs.Tryd.prog [1] f10_code = Qu f10_c4 := by kernel_rfl
theorem f10_rs : rsOf Go.Proofs.Tryd.prog Go.Proofs.Tryd.f10.results.toList = Qu [(RV.t 2), (RV.t 3)] := by kernel_rfl
theorem f10_nt : Go.Proofs.Tryd.f10.ntmps = 9 := by kernel_rfl
theorem f10_ok : callable Go.Proofs.Tryd.prog 10 = true := by kernel_rfl
theorem f10_in {gp : Heap} {args : List V} {res : V} (h : G ⟨Go.Proofs.Tryd.prog, gp, 0, [(RV.t 2), (RV.t 3)], fun r c => r = res ∧ c = [], false⟩ [.code f10_c4, .fin] ⟨args ++ List.replicate (9 - args.length) .un, []⟩) : Does Go.Proofs.Tryd.prog gp 10 args res :=
  does_intro f10_ok Go.Proofs.Tryd.func10 f10_body f10_tr f10_rs (by rw [f10_nt]; exact h)
theorem f10_tri {gp : Heap} {args : List V} {pre : List Ch} {R : V → List Ch → Prop} (h : G ⟨Go.Proofs.Tryd.prog, gp, pre.length, [(RV.t 2), (RV.t 3)], R, false⟩ [.code f10_c4, .fin] ⟨args ++ List.replicate (9 - args.length) .un, pre⟩) : Tri Go.Proofs.Tryd.prog gp 10 args pre R :=
  tri_intro Go.Proofs.Tryd.func10 f10_body f10_tr f10_rs (by rw [f10_nt]; exact h)

/-! sigillary/arena.Kids -/
def f11_r0 : List MO := [
(Qa (Qu 2) (MOp.ibox (Qm 0))),
(Qa (Qu 4) (Qc (Qn (Qo A.nil)))),
(Qa (Qu 5) (Qc (Qn (Qo (Qp (Qq Qt 0))))))]
def f11_c0 : MC := .reg false f11_r0
def f11_r1 : List MO := [
(Qa (Qu 12) (Qe 2 true (Qm 2))),
(Qa (Qu 13) (Qc (Qm 1))),
(Qa (Qu 14) (Qg 21 [(Qm 12), (Qm 13)])),
(Qa (Qu 11) (Qc (Qm 14))),
(Qa (Qu 15) (Qh (Qm 11) 0)),
(Qa (Qu 16) (Qh (Qm 11) 1)),
(Qa (Qu 6) (MOp.alloc [(Qq Qt 0), (Qq Qt 0), (Qq Qt 0), (D.str (ByteArray.mk #[])), (D.sl []), (D.sl []), (Qq Qt 0)])),
(Qa none (Qk 7 (Qm 6) (Qm 15))),
(Qa (Qu 7) (Qc (Qm 16)))]
def f11_c1 : MC := .reg false f11_r1
def f11_r2 : List MO := [
(Qa (Qu 17) (Qc (Qm 7))),
(Qa (Qu 18) (Qd Qs Go.BinOp.eql (Qm 17) (Qn (Qo (Qp (Qq Qt 0)))))),
(Qa (Qu 19) (Qc (Qm 18))),
(Qb 19 true (Qu 20)),
(Qa (Qu 20) (Qf 0 (Qm 6))),
(Qb 19 true (Qu 21)),
(Qa (Qu 21) (Qf 0 (Qm 20))),
(Qb 19 true (Qu 22)),
(Qa (Qu 22) (Qe 1 false (Qm 21))),
(Qb 19 true (Qu 23)),
(Qa (Qu 23) (Qd Qs Go.BinOp.eql (Qm 22) (Qn (Qo (Qp (Qq Qt 1)))))),
(Qa (Qu 24) (Ql (Qm 19) (Qm 23) (Qn (Qo (Qp (Qr false))))))]
def f11_c2 : MC := .reg false f11_r2
def f11_r3 : List MO := [
(Qa (Qu 25) (Qf 0 (Qm 6))),
(Qa (Qu 26) (Qf 5 (Qm 25))),
(Qa (Qu 27) (Qe 1 false (Qm 26))),
(Qa (Qu 28) (Qg 22 [(Qm 27)])),
(Qa (Qu 29) (Qc (Qm 7))),
(Qa (Qu 4) (Qc (Qm 28))),
(Qa (Qu 5) (Qc (Qm 29)))]
def f11_c3 : MC := .reg false f11_r3
def f11_c4 : MC := MC.ret
def f11_c5 : MC := .seq f11_c3 f11_c4
def f11_c6 : MC := MC.skip
def f11_c7 : MC := .cond (Qm 24) f11_c5 f11_c6
def f11_c8 : MC := .seq f11_c2 f11_c7
def f11_r9 : List MO := [
(Qa (Qu 8) (Qc (Qn (Qo A.nil))))]
def f11_c9 : MC := .reg false f11_r9
def f11_r10 : List MO := [
(Qa (Qu 30) (Qe 7 true (Qm 6))),
(Qa (Qu 31) (Qg 23 [(Qm 30)])),
(Qa (Qu 32) (Qj Qs (Qm 31))),
(Qa (Qu 33) (Qc (Qn (Qo (Qp (Qq Qt 0))))))]
def f11_c10 : MC := .reg false f11_r10
def f11_r11 : List MO := [
(Qa (Qu 34) (Qd Qs Go.BinOp.lss (Qm 33) (Qm 32)))]
def f11_c11 : MC := .reg false f11_r11
def f11_c12 : MC := MC.skip
def f11_c13 : MC := (MC.exit 0)
def f11_c14 : MC := .cond (Qm 34) f11_c12 f11_c13
def f11_r15 : List MO := [
(Qa (Qu 35) (Qi 4 (Qm 31) (Qm 33))),
(Qa (Qu 36) (Qe 4 true (Qm 35))),
(Qa (Qu 10) (MOp.alloc [(Qq Qt 0), (Qq Qt 0), (D.str (ByteArray.mk #[])), (Qq Qt 0)])),
(Qa none (Qk 4 (Qm 10) (Qm 36)))]
def f11_c15 : MC := .reg false f11_r15
def f11_r16 : List MO := [
(Qa (Qu 37) (Qc (Qm 8))),
(Qa (Qu 38) (Qf 3 (Qm 10))),
(Qa (Qu 39) (Qe 1 false (Qm 38))),
(Qa (Qu 40) (MOp.bslice 1 [(Qq Qt 0)] 1 [(0, (Qm 39))])),
(Qa (Qu 41) (MOp.app 1 8 (Qm 37) (Qm 40))),
(Qa (Qu 8) (Qc (Qm 41)))]
def f11_c16 : MC := .reg false f11_r16
def f11_c17 : MC := .seq f11_c15 f11_c16
def f11_c18 : MC := .blk 1 f11_c17
def f11_r19 : List MO := [
(Qa (Qu 42) (Qd Qs Go.BinOp.add (Qm 33) (Qn (Qo (Qp (Qq Qt 1)))))),
(Qa (Qu 33) (Qc (Qm 42)))]
def f11_c19 : MC := .reg false f11_r19
def f11_c20 : MC := .seq f11_c18 f11_c19
def f11_c21 : MC := .seq f11_c14 f11_c20
def f11_c22 : MC := .seq f11_c11 f11_c21
def f11_c23 : MC := .loop f11_c22
def f11_c24 : MC := .blk 0 f11_c23
def f11_c25 : MC := .seq f11_c10 f11_c24
def f11_r26 : List MO := [
(Qa (Qu 43) (Qc (Qm 8))),
(Qa (Qu 44) (Qc (Qm 7))),
(Qa (Qu 4) (Qc (Qm 43))),
(Qa (Qu 5) (Qc (Qm 44)))]
def f11_c26 : MC := .reg false f11_r26
def f11_c27 : MC := MC.ret
def f11_c28 : MC := .seq f11_c26 f11_c27
def f11_c29 : MC := .seq f11_c25 f11_c28
def f11_c30 : MC := .seq f11_c9 f11_c29
def f11_c31 : MC := .seq f11_c8 f11_c30
def f11_c32 : MC := .seq f11_c1 f11_c31
def f11_c33 : MC := .seq f11_c0 f11_c32
noncomputable def f11_code : Code := (Go.Proofs.Tryd.f11.body).getD .skip
theorem f11_body : Go.Proofs.Tryd.f11.body = Qu f11_code := by kernel_rfl
theorem f11_tr : trC Go.Proofs.Tryd.prog [2] f11_code = Qu f11_c33 := by kernel_rfl
theorem f11_rs : rsOf Go.Proofs.Tryd.prog Go.Proofs.Tryd.f11.results.toList = Qu [(RV.t 4), (RV.t 5)] := by kernel_rfl
theorem f11_nt : Go.Proofs.Tryd.f11.ntmps = 45 := by kernel_rfl
theorem f11_ok : callable Go.Proofs.Tryd.prog 11 = true := by kernel_rfl
theorem f11_in {gp : Heap} {args : List V} {res : V} (h : G ⟨Go.Proofs.Tryd.prog, gp, 0, [(RV.t 4), (RV.t 5)], fun r c => r = res ∧ c = [], false⟩ [.code f11_c33, .fin] ⟨args ++ List.replicate (45 - args.length) .un, []⟩) : Does Go.Proofs.Tryd.prog gp 11 args res :=
  does_intro f11_ok Go.Proofs.Tryd.func11 f11_body f11_tr f11_rs (by rw [f11_nt]; exact h)
theorem f11_tri {gp : Heap} {args : List V} {pre : List Ch} {R : V → List Ch → Prop} (h : G ⟨Go.Proofs.Tryd.prog, gp, pre.length, [(RV.t 4), (RV.t 5)], R, false⟩ [.code f11_c33, .fin] ⟨args ++ List.replicate (45 - args.length) .un, pre⟩) : Tri Go.Proofs.Tryd.prog gp 11 args pre R :=
  tri_intro Go.Proofs.Tryd.func11 f11_body f11_tr f11_rs (by rw [f11_nt]; exact h)

/-! sigillary/arena.Keys -/
def f12_r0 : List MO := [
(Qa (Qu 2) (MOp.ibox (Qm 0))),
(Qa (Qu 4) (Qc (Qn (Qo A.nil)))),
(Qa (Qu 5) (Qc (Qn (Qo (Qp (Qq Qt 0))))))]
def f12_c0 : MC := .reg false f12_r0
def f12_r1 : List MO := [
(Qa (Qu 12) (Qe 2 true (Qm 2))),
(Qa (Qu 13) (Qc (Qm 1))),
(Qa (Qu 14) (Qg 21 [(Qm 12), (Qm 13)])),
(Qa (Qu 11) (Qc (Qm 14))),
(Qa (Qu 15) (Qh (Qm 11) 0)),
(Qa (Qu 16) (Qh (Qm 11) 1)),
(Qa (Qu 6) (MOp.alloc [(Qq Qt 0), (Qq Qt 0), (Qq Qt 0), (D.str (ByteArray.mk #[])), (D.sl []), (D.sl []), (Qq Qt 0)])),
(Qa none (Qk 7 (Qm 6) (Qm 15))),
(Qa (Qu 7) (Qc (Qm 16)))]
def f12_c1 : MC := .reg false f12_r1
def f12_r2 : List MO := [
(Qa (Qu 8) (Qc (Qn (Qo A.nil))))]
def f12_c2 : MC := .reg false f12_r2
def f12_r3 : List MO := [
(Qa (Qu 17) (Qe 7 true (Qm 6))),
(Qa (Qu 18) (Qg 23 [(Qm 17)])),
(Qa (Qu 19) (Qj Qs (Qm 18))),
(Qa (Qu 20) (Qc (Qn (Qo (Qp (Qq Qt 0))))))]
def f12_c3 : MC := .reg false f12_r3
def f12_r4 : List MO := [
(Qa (Qu 21) (Qd Qs Go.BinOp.lss (Qm 20) (Qm 19)))]
def f12_c4 : MC := .reg false f12_r4
def f12_c5 : MC := MC.skip
def f12_c6 : MC := (MC.exit 0)
def f12_c7 : MC := .cond (Qm 21) f12_c5 f12_c6
def f12_r8 : List MO := [
(Qa (Qu 22) (Qi 4 (Qm 18) (Qm 20))),
(Qa (Qu 23) (Qe 4 true (Qm 22))),
(Qa (Qu 10) (MOp.alloc [(Qq Qt 0), (Qq Qt 0), (D.str (ByteArray.mk #[])), (Qq Qt 0)])),
(Qa none (Qk 4 (Qm 10) (Qm 23)))]
def f12_c8 : MC := .reg false f12_r8
def f12_r9 : List MO := [
(Qa (Qu 24) (Qc (Qm 8))),
(Qa (Qu 25) (Qf 0 (Qm 10))),
(Qa (Qu 26) (Qe 3 true (Qm 25))),
(Qa (Qu 27) (MOp.bslice 3 [(Qq Qt 0), (Qq Qt 0), (D.str (ByteArray.mk #[]))] 1 [(0, (Qm 26))])),
(Qa (Qu 28) (MOp.app 3 32 (Qm 24) (Qm 27))),
(Qa (Qu 8) (Qc (Qm 28)))]
def f12_c9 : MC := .reg false f12_r9
def f12_c10 : MC := .seq f12_c8 f12_c9
def f12_c11 : MC := .blk 1 f12_c10
def f12_r12 : List MO := [
(Qa (Qu 29) (Qd Qs Go.BinOp.add (Qm 20) (Qn (Qo (Qp (Qq Qt 1)))))),
(Qa (Qu 20) (Qc (Qm 29)))]
def f12_c12 : MC := .reg false f12_r12
def f12_c13 : MC := .seq f12_c11 f12_c12
def f12_c14 : MC := .seq f12_c7 f12_c13
def f12_c15 : MC := .seq f12_c4 f12_c14
def f12_c16 : MC := .loop f12_c15
def f12_c17 : MC := .blk 0 f12_c16
def f12_c18 : MC := .seq f12_c3 f12_c17
def f12_r19 : List MO := [
(Qa (Qu 30) (Qc (Qm 8))),
(Qa (Qu 31) (Qc (Qm 7))),
(Qa (Qu 4) (Qc (Qm 30))),
(Qa (Qu 5) (Qc (Qm 31)))]
def f12_c19 : MC := .reg false f12_r19
def f12_c20 : MC := MC.ret
def f12_c21 : MC := .seq f12_c19 f12_c20
def f12_c22 : MC := .seq f12_c18 f12_c21
def f12_c23 : MC := .seq f12_c2 f12_c22
def f12_c24 : MC := .seq f12_c1 f12_c23
def f12_c25 : MC := .seq f12_c0 f12_c24
noncomputable def f12_code : Code := (Go.Proofs.Tryd.f12.body).getD .skip
theorem f12_body : Go.Proofs.Tryd.f12.body = Qu f12_code := by kernel_rfl
theorem f12_tr : trC Go.Proofs.Tryd.prog [2] f12_code = Qu f12_c25 := by kernel_rfl
theorem f12_rs : rsOf Go.Proofs.Tryd.prog Go.Proofs.Tryd.f12.results.toList = Qu [(RV.t 4), (RV.t 5)] := by kernel_rfl
theorem f12_nt : Go.Proofs.Tryd.f12.ntmps = 32 := by kernel_rfl
theorem f12_ok : callable Go.Proofs.Tryd.prog 12 = true := by kernel_rfl
theorem f12_in {gp : Heap} {args : List V} {res : V} (h : G ⟨Go.Proofs.Tryd.prog, gp, 0, [(RV.t 4), (RV.t 5)], fun r c => r = res ∧ c = [], false⟩ [.code f12_c25, .fin] ⟨args ++ List.replicate (32 - args.length) .un, []⟩) : Does Go.Proofs.Tryd.prog gp 12 args res :=
  does_intro f12_ok Go.Proofs.Tryd.func12 f12_body f12_tr f12_rs (by rw [f12_nt]; exact h)
theorem f12_tri {gp : Heap} {args : List V} {pre : List Ch} {R : V → List Ch → Prop} (h : G ⟨Go.Proofs.Tryd.prog, gp, pre.length, [(RV.t 4), (RV.t 5)], R, false⟩ [.code f12_c25, .fin] ⟨args ++ List.replicate (32 - args.length) .un, pre⟩) : Tri Go.Proofs.Tryd.prog gp 12 args pre R :=
  tri_intro Go.Proofs.Tryd.func12 f12_body f12_tr f12_rs (by rw [f12_nt]; exact h)

/-! sigillary/arena.Find -/
def f13_r0 : List MO := [
(Qa (Qu 3) (MOp.ibox (Qm 0))),
(Qa (Qu 5) (MOp.ibox (Qm 2))),
(Qa (Qu 6) (Qc (Qn (Qo (Qp (Qq Qt 0)))))),
(Qa (Qu 7) (Qc (Qn (Qo (Qp (Qr false))))))]
def f13_c0 : MC := .reg false f13_r0
def f13_r1 : List MO := [
(Qa (Qu 13) (Qe 2 true (Qm 3))),
(Qa (Qu 14) (Qc (Qm 1))),
(Qa (Qu 15) (Qg 21 [(Qm 13), (Qm 14)])),
(Qa (Qu 12) (Qc (Qm 15))),
(Qa (Qu 16) (Qh (Qm 12) 0)),
(Qa (Qu 17) (Qh (Qm 12) 1)),
(Qa (Qu 8) (MOp.alloc [(Qq Qt 0), (Qq Qt 0), (Qq Qt 0), (D.str (ByteArray.mk #[])), (D.sl []), (D.sl []), (Qq Qt 0)])),
(Qa none (Qk 7 (Qm 8) (Qm 16))),
(Qa (Qu 9) (Qc (Qm 17)))]
def f13_c1 : MC := .reg false f13_r1
def f13_r2 : List MO := [
(Qa (Qu 18) (Qc (Qm 9))),
(Qa (Qu 19) (Qd Qs Go.BinOp.neq (Qm 18) (Qn (Qo (Qp (Qq Qt 0)))))),
(Qa (Qu 20) (Qc (Qm 19))),
(Qb 20 false (Qu 21)),
(Qa (Qu 21) (Qf 0 (Qm 8))),
(Qb 20 false (Qu 22)),
(Qa (Qu 22) (Qf 0 (Qm 21))),
(Qb 20 false (Qu 23)),
(Qa (Qu 23) (Qe 1 false (Qm 22))),
(Qb 20 false (Qu 24)),
(Qa (Qu 24) (Qd Qs Go.BinOp.neq (Qm 23) (Qn (Qo (Qp (Qq Qt 2)))))),
(Qa (Qu 25) (Ql (Qm 20) (Qn (Qo (Qp (Qr true)))) (Qm 24)))]
def f13_c2 : MC := .reg false f13_r2
def f13_r3 : List MO := [
(Qa (Qu 6) (Qc (Qn (Qo (Qp (Qq Qt 0)))))),
(Qa (Qu 7) (Qc (Qn (Qo (Qp (Qr false))))))]
def f13_c3 : MC := .reg false f13_r3
def f13_c4 : MC := MC.ret
def f13_c5 : MC := .seq f13_c3 f13_c4
def f13_c6 : MC := MC.skip
def f13_c7 : MC := .cond (Qm 25) f13_c5 f13_c6
def f13_c8 : MC := .seq f13_c2 f13_c7
def f13_r9 : List MO := [
(Qa (Qu 26) (Qf 0 (Qm 8))),
(Qa (Qu 27) (Qf 4 (Qm 26))),
(Qa (Qu 28) (Qe 1 false (Qm 27))),
(Qa (Qu 29) (Qf 0 (Qm 8))),
(Qa (Qu 30) (Qf 4 (Qm 29))),
(Qa (Qu 31) (Qe 1 false (Qm 30))),
(Qa (Qu 32) (Qj Qs (Qm 31))),
(Qa (Qu 33) (Qf 0 (Qm 8))),
(Qa (Qu 34) (Qf 5 (Qm 33))),
(Qa (Qu 35) (Qe 1 false (Qm 34))),
(Qa (Qu 36) (Qj Qs (Qm 35))),
(Qa (Qu 37) (MOp.min (Qm 32) (Qm 36))),
(Qa (Qu 38) (MOp.slc 3 (Qm 28) none (Qu (Qm 37)))),
(Qa (Qu 39) (Qj Qs (Qm 38))),
(Qa (Qu 40) (Qc (Qn (Qo (Qp (Qq Qt 0))))))]
def f13_c9 : MC := .reg false f13_r9
def f13_r10 : List MO := [
(Qa (Qu 41) (Qd Qs Go.BinOp.lss (Qm 40) (Qm 39)))]
def f13_c10 : MC := .reg false f13_r10
def f13_c11 : MC := MC.skip
def f13_c12 : MC := (MC.exit 0)
def f13_c13 : MC := .cond (Qm 41) f13_c11 f13_c12
def f13_r14 : List MO := [
(Qa (Qu 42) (Qc (Qm 40))),
(Qa (Qu 43) (Qi 3 (Qm 38) (Qm 40))),
(Qa (Qu 44) (Qe 3 true (Qm 43))),
(Qa (Qu 11) (MOp.alloc [(Qq Qt 0), (Qq Qt 0), (D.str (ByteArray.mk #[]))])),
(Qa (Qu 10) (Qc (Qm 42))),
(Qa none (Qk 3 (Qm 11) (Qm 44)))]
def f13_c14 : MC := .reg false f13_r14
def f13_r15 : List MO := [
(Qa (Qu 45) (Qe 3 true (Qm 11))),
(Qa (Qu 46) (Qe 3 true (Qm 5))),
(Qa (Qu 47) (MOp.eqs false [Qs, Qs, Leaf.s] (Qm 45) (Qm 46)))]
def f13_c15 : MC := .reg false f13_r15
def f13_r16 : List MO := [
(Qa (Qu 48) (Qf 0 (Qm 8))),
(Qa (Qu 49) (Qf 5 (Qm 48))),
(Qa (Qu 50) (Qe 1 false (Qm 49))),
(Qa (Qu 51) (Qc (Qm 10))),
(Qa (Qu 52) (Qi 1 (Qm 50) (Qm 51))),
(Qa (Qu 53) (Qe 1 false (Qm 52))),
(Qa (Qu 6) (Qc (Qm 53))),
(Qa (Qu 7) (Qc (Qn (Qo (Qp (Qr true))))))]
def f13_c16 : MC := .reg false f13_r16
def f13_c17 : MC := MC.ret
def f13_c18 : MC := .seq f13_c16 f13_c17
def f13_c19 : MC := MC.skip
def f13_c20 : MC := .cond (Qm 47) f13_c18 f13_c19
def f13_c21 : MC := .seq f13_c15 f13_c20
def f13_c22 : MC := .seq f13_c14 f13_c21
def f13_c23 : MC := .blk 1 f13_c22
def f13_r24 : List MO := [
(Qa (Qu 54) (Qd Qs Go.BinOp.add (Qm 40) (Qn (Qo (Qp (Qq Qt 1)))))),
(Qa (Qu 40) (Qc (Qm 54)))]
def f13_c24 : MC := .reg false f13_r24
def f13_c25 : MC := .seq f13_c23 f13_c24
def f13_c26 : MC := .seq f13_c13 f13_c25
def f13_c27 : MC := .seq f13_c10 f13_c26
def f13_c28 : MC := .loop f13_c27
def f13_c29 : MC := .blk 0 f13_c28
def f13_c30 : MC := .seq f13_c9 f13_c29
def f13_r31 : List MO := [
(Qa (Qu 6) (Qc (Qn (Qo (Qp (Qq Qt 0)))))),
(Qa (Qu 7) (Qc (Qn (Qo (Qp (Qr false))))))]
def f13_c31 : MC := .reg false f13_r31
def f13_c32 : MC := MC.ret
def f13_c33 : MC := .seq f13_c31 f13_c32
def f13_c34 : MC := .seq f13_c30 f13_c33
def f13_c35 : MC := .seq f13_c8 f13_c34
def f13_c36 : MC := .seq f13_c1 f13_c35
def f13_c37 : MC := .seq f13_c0 f13_c36
noncomputable def f13_code : Code := (Go.Proofs.Tryd.f13.body).getD .skip
theorem f13_body : Go.Proofs.Tryd.f13.body = Qu f13_code := by kernel_rfl
theorem f13_tr : trC Go.Proofs.Tryd.prog [3, 5] f13_code = Qu f13_c37 := by kernel_rfl
theorem f13_rs : rsOf Go.Proofs.Tryd.prog Go.Proofs.Tryd.f13.results.toList = Qu [(RV.t 6), (RV.t 7)] := by kernel_rfl
theorem f13_nt : Go.Proofs.Tryd.f13.ntmps = 55 := by kernel_rfl
theorem f13_ok : callable Go.Proofs.Tryd.prog 13 = true := by kernel_rfl
theorem f13_in {gp : Heap} {args : List V} {res : V} (h : G ⟨Go.Proofs.Tryd.prog, gp, 0, [(RV.t 6), (RV.t 7)], fun r c => r = res ∧ c = [], false⟩ [.code f13_c37, .fin] ⟨args ++ List.replicate (55 - args.length) .un, []⟩) : Does Go.Proofs.Tryd.prog gp 13 args res :=
  does_intro f13_ok Go.Proofs.Tryd.func13 f13_body f13_tr f13_rs (by rw [f13_nt]; exact h)
theorem f13_tri {gp : Heap} {args : List V} {pre : List Ch} {R : V → List Ch → Prop} (h : G ⟨Go.Proofs.Tryd.prog, gp, pre.length, [(RV.t 6), (RV.t 7)], R, false⟩ [.code f13_c37, .fin] ⟨args ++ List.replicate (55 - args.length) .un, pre⟩) : Tri Go.Proofs.Tryd.prog gp 13 args pre R :=
  tri_intro Go.Proofs.Tryd.func13 f13_body f13_tr f13_rs (by rw [f13_nt]; exact h)

/-! sigillary/scal.Compare -/
def f14_r0 : List MO := [
(Qa (Qu 2) (MOp.ibox (Qm 0))),
(Qa (Qu 3) (MOp.ibox (Qm 1))),
(Qa (Qu 4) (Qc (Qn (Qo (Qp (Qq Qt 0))))))]
def f14_c0 : MC := .reg false f14_r0
def f14_r1 : List MO := [
(Qa (Qu 5) (Qe 3 true (Qm 2))),
(Qa (Qu 6) (Qe 3 true (Qm 3))),
(Qa (Qu 7) (MOp.eqs false [Qs, Qs, Leaf.s] (Qm 5) (Qm 6)))]
def f14_c1 : MC := .reg false f14_r1
def f14_r2 : List MO := [
(Qa (Qu 4) (Qc (Qn (Qo (Qp (Qq Qt 0))))))]
def f14_c2 : MC := .reg false f14_r2
def f14_c3 : MC := MC.ret
def f14_c4 : MC := .seq f14_c2 f14_c3
def f14_c5 : MC := MC.skip
def f14_c6 : MC := .cond (Qm 7) f14_c4 f14_c5
def f14_c7 : MC := .seq f14_c1 f14_c6
def f14_r8 : List MO := [
(Qa (Qu 8) (Qf 0 (Qm 2))),
(Qa (Qu 9) (Qe 1 false (Qm 8))),
(Qa (Qu 10) (Qf 0 (Qm 3))),
(Qa (Qu 11) (Qe 1 false (Qm 10))),
(Qa (Qu 12) (Qg 25 [(Qm 9), (Qm 11)])),
(Qa (Qu 13) (Qf 1 (Qm 2))),
(Qa (Qu 14) (Qe 1 false (Qm 13))),
(Qa (Qu 15) (Qf 1 (Qm 3))),
(Qa (Qu 16) (Qe 1 false (Qm 15))),
(Qa (Qu 17) (Qg 25 [(Qm 14), (Qm 16)])),
(Qa (Qu 18) (Qf 2 (Qm 2))),
(Qa (Qu 19) (Qe 1 false (Qm 18))),
(Qa (Qu 20) (Qf 2 (Qm 3))),
(Qa (Qu 21) (Qe 1 false (Qm 20))),
(Qa (Qu 22) (Qg 26 [(Qm 19), (Qm 21)])),
(Qa (Qu 23) (MOp.bslice 1 [(Qq Qt 0)] 3 [(0, (Qm 12)), (1, (Qm 17)), (2, (Qm 22))])),
(Qa (Qu 24) (Qg 24 [(Qm 23)])),
(Qa (Qu 4) (Qc (Qm 24)))]
def f14_c8 : MC := .reg true f14_r8
def f14_c9 : MC := MC.ret
def f14_c10 : MC := .seq f14_c8 f14_c9
def f14_c11 : MC := .seq f14_c7 f14_c10
def f14_c12 : MC := .seq f14_c0 f14_c11
noncomputable def f14_code : Code := (Go.Proofs.Tryd.f14.body).getD .skip
theorem f14_body : Go.Proofs.Tryd.f14.body = Qu f14_code := by kernel_rfl
theorem f14_tr : trC Go.Proofs.Tryd.prog [2, 3] f14_code = Qu f14_c12 := by kernel_rfl
theorem f14_rs : rsOf Go.Proofs.Tryd.prog Go.Proofs.Tryd.f14.results.toList = Qu [(RV.t 4)] := by kernel_rfl
theorem f14_nt : Go.Proofs.Tryd.f14.ntmps = 25 := by kernel_rfl
theorem f14_ok : callable Go.Proofs.Tryd.prog 14 = true := by kernel_rfl
theorem f14_in {gp : Heap} {args : List V} {res : V} (h : G ⟨Go.Proofs.Tryd.prog, gp, 0, [(RV.t 4)], fun r c => r = res ∧ c = [], false⟩ [.code f14_c12, .fin] ⟨args ++ List.replicate (25 - args.length) .un, []⟩) : Does Go.Proofs.Tryd.prog gp 14 args res :=
  does_intro f14_ok Go.Proofs.Tryd.func14 f14_body f14_tr f14_rs (by rw [f14_nt]; exact h)
theorem f14_tri {gp : Heap} {args : List V} {pre : List Ch} {R : V → List Ch → Prop} (h : G ⟨Go.Proofs.Tryd.prog, gp, pre.length, [(RV.t 4)], R, false⟩ [.code f14_c12, .fin] ⟨args ++ List.replicate (25 - args.length) .un, pre⟩) : Tri Go.Proofs.Tryd.prog gp 14 args pre R :=
  tri_intro Go.Proofs.Tryd.func14 f14_body f14_tr f14_rs (by rw [f14_nt]; exact h)

/-! sigillary/sigillaryref01.Ints -/
def f15_r0 : List MO := [
(Qa (Qu 4) (Qc (Qn (Qo (Qp (Qr false))))))]
def f15_c0 : MC := .reg false f15_r0
def f15_r1 : List MO := [
(Qa (Qu 6) (Qc (Qm 0))),
(Qa (Qu 7) (Qj Qs (Qm 6))),
(Qa (Qu 8) (Qc (Qm 1))),
(Qa (Qu 9) (Qj Qs (Qm 8))),
(Qa (Qu 10) (Qd Qs Go.BinOp.neq (Qm 7) (Qm 9)))]
def f15_c1 : MC := .reg false f15_r1
def f15_r2 : List MO := [
(Qa (Qu 4) (Qc (Qn (Qo (Qp (Qr false))))))]
def f15_c2 : MC := .reg false f15_r2
def f15_c3 : MC := MC.ret
def f15_c4 : MC := .seq f15_c2 f15_c3
def f15_c5 : MC := MC.skip
def f15_c6 : MC := .cond (Qm 10) f15_c4 f15_c5
def f15_c7 : MC := .seq f15_c1 f15_c6
def f15_r8 : List MO := [
(Qa (Qu 5) (Qc (Qn (Qo (Qp (Qq Qt 0))))))]
def f15_c8 : MC := .reg false f15_r8
def f15_r9 : List MO := [
(Qa (Qu 11) (Qc (Qm 5))),
(Qa (Qu 12) (Qc (Qm 0))),
(Qa (Qu 13) (Qj Qs (Qm 12))),
(Qa (Qu 14) (Qd Qs Go.BinOp.lss (Qm 11) (Qm 13)))]
def f15_c9 : MC := .reg false f15_r9
def f15_c10 : MC := MC.skip
def f15_c11 : MC := (MC.exit 0)
def f15_c12 : MC := .cond (Qm 14) f15_c10 f15_c11
def f15_c13 : MC := .seq f15_c9 f15_c12
def f15_r14 : List MO := [
(Qa (Qu 17) (Qc (Qm 0))),
(Qa (Qu 18) (Qc (Qm 5))),
(Qa (Qu 19) (Qi 1 (Qm 17) (Qm 18))),
(Qa (Qu 20) (Qe 1 false (Qm 19))),
(Qa (Qu 21) (Qc (Qm 1))),
(Qa (Qu 22) (Qc (Qm 5))),
(Qa (Qu 23) (Qi 1 (Qm 21) (Qm 22))),
(Qa (Qu 24) (Qe 1 false (Qm 23))),
(Qa (Qu 25) (Qd Qs Go.BinOp.neq (Qm 20) (Qm 24)))]
def f15_c14 : MC := .reg true f15_r14
def f15_r15 : List MO := [
(Qa (Qu 4) (Qc (Qn (Qo (Qp (Qr false))))))]
def f15_c15 : MC := .reg false f15_r15
def f15_c16 : MC := MC.ret
def f15_c17 : MC := .seq f15_c15 f15_c16
def f15_c18 : MC := MC.skip
def f15_c19 : MC := .cond (Qm 25) f15_c17 f15_c18
def f15_c20 : MC := .seq f15_c14 f15_c19
def f15_c21 : MC := .blk 1 f15_c20
def f15_r22 : List MO := [
(Qa (Qu 15) (Qc (Qm 5))),
(Qa (Qu 16) (Qd Qs Go.BinOp.add (Qm 15) (Qn (Qo (Qp (Qq Qt 1)))))),
(Qa (Qu 5) (Qc (Qm 16)))]
def f15_c22 : MC := .reg false f15_r22
def f15_c23 : MC := .seq f15_c21 f15_c22
def f15_c24 : MC := .seq f15_c13 f15_c23
def f15_c25 : MC := .loop f15_c24
def f15_c26 : MC := .blk 0 f15_c25
def f15_c27 : MC := .seq f15_c8 f15_c26
def f15_r28 : List MO := [
(Qa (Qu 4) (Qc (Qn (Qo (Qp (Qr true))))))]
def f15_c28 : MC := .reg false f15_r28
def f15_c29 : MC := MC.ret
def f15_c30 : MC := .seq f15_c28 f15_c29
def f15_c31 : MC := .seq f15_c27 f15_c30
def f15_c32 : MC := .seq f15_c7 f15_c31
def f15_c33 : MC := .seq f15_c0 f15_c32
noncomputable def f15_code : Code := (Go.Proofs.Tryd.f15.body).getD .skip
theorem f15_body : Go.Proofs.Tryd.f15.body = Qu f15_code := by kernel_rfl
theorem f15_tr : trC Go.Proofs.Tryd.prog [] f15_code = Qu f15_c33 := by kernel_rfl
theorem f15_rs : rsOf Go.Proofs.Tryd.prog Go.Proofs.Tryd.f15.results.toList = Qu [(RV.t 4)] := by kernel_rfl
theorem f15_nt : Go.Proofs.Tryd.f15.ntmps = 26 := by kernel_rfl
theorem f15_ok : callable Go.Proofs.Tryd.prog 15 = true := by kernel_rfl
theorem f15_in {gp : Heap} {args : List V} {res : V} (h : G ⟨Go.Proofs.Tryd.prog, gp, 0, [(RV.t 4)], fun r c => r = res ∧ c = [], false⟩ [.code f15_c33, .fin] ⟨args ++ List.replicate (26 - args.length) .un, []⟩) : Does Go.Proofs.Tryd.prog gp 15 args res :=
  does_intro f15_ok Go.Proofs.Tryd.func15 f15_body f15_tr f15_rs (by rw [f15_nt]; exact h)
theorem f15_tri {gp : Heap} {args : List V} {pre : List Ch} {R : V → List Ch → Prop} (h : G ⟨Go.Proofs.Tryd.prog, gp, pre.length, [(RV.t 4)], R, false⟩ [.code f15_c33, .fin] ⟨args ++ List.replicate (26 - args.length) .un, pre⟩) : Tri Go.Proofs.Tryd.prog gp 15 args pre R :=
  tri_intro Go.Proofs.Tryd.func15 f15_body f15_tr f15_rs (by rw [f15_nt]; exact h)

/-! sigillary/sigillaryref06.Same -/
def f16_r0 : List MO := [
(Qa (Qu 4) (Qc (Qn (Qo (Qp (Qr false))))))]
def f16_c0 : MC := .reg false f16_r0
def f16_r1 : List MO := [
(Qa (Qu 6) (Qc (Qm 0))),
(Qa (Qu 7) (Qj Qs (Qm 6))),
(Qa (Qu 8) (Qc (Qm 1))),
(Qa (Qu 9) (Qj Qs (Qm 8))),
(Qa (Qu 10) (Qd Qs Go.BinOp.neq (Qm 7) (Qm 9)))]
def f16_c1 : MC := .reg false f16_r1
def f16_r2 : List MO := [
(Qa (Qu 4) (Qc (Qn (Qo (Qp (Qr false))))))]
def f16_c2 : MC := .reg false f16_r2
def f16_c3 : MC := MC.ret
def f16_c4 : MC := .seq f16_c2 f16_c3
def f16_c5 : MC := MC.skip
def f16_c6 : MC := .cond (Qm 10) f16_c4 f16_c5
def f16_c7 : MC := .seq f16_c1 f16_c6
def f16_r8 : List MO := [
(Qa (Qu 5) (Qc (Qn (Qo (Qp (Qq Qt 0))))))]
def f16_c8 : MC := .reg false f16_r8
def f16_r9 : List MO := [
(Qa (Qu 11) (Qc (Qm 5))),
(Qa (Qu 12) (Qc (Qm 0))),
(Qa (Qu 13) (Qj Qs (Qm 12))),
(Qa (Qu 14) (Qd Qs Go.BinOp.lss (Qm 11) (Qm 13)))]
def f16_c9 : MC := .reg false f16_r9
def f16_c10 : MC := MC.skip
def f16_c11 : MC := (MC.exit 0)
def f16_c12 : MC := .cond (Qm 14) f16_c10 f16_c11
def f16_c13 : MC := .seq f16_c9 f16_c12
def f16_r14 : List MO := [
(Qa (Qu 17) (Qc (Qm 0))),
(Qa (Qu 18) (Qc (Qm 5))),
(Qa (Qu 19) (Qi 3 (Qm 17) (Qm 18))),
(Qa (Qu 20) (Qe 3 true (Qm 19))),
(Qa (Qu 21) (Qc (Qm 1))),
(Qa (Qu 22) (Qc (Qm 5))),
(Qa (Qu 23) (Qi 3 (Qm 21) (Qm 22))),
(Qa (Qu 24) (Qe 3 true (Qm 23))),
(Qa (Qu 25) (MOp.eqs true [Qs, Qs, Leaf.s] (Qm 20) (Qm 24)))]
def f16_c14 : MC := .reg true f16_r14
def f16_r15 : List MO := [
(Qa (Qu 4) (Qc (Qn (Qo (Qp (Qr false))))))]
def f16_c15 : MC := .reg false f16_r15
def f16_c16 : MC := MC.ret
def f16_c17 : MC := .seq f16_c15 f16_c16
def f16_c18 : MC := MC.skip
def f16_c19 : MC := .cond (Qm 25) f16_c17 f16_c18
def f16_c20 : MC := .seq f16_c14 f16_c19
def f16_c21 : MC := .blk 1 f16_c20
def f16_r22 : List MO := [
(Qa (Qu 15) (Qc (Qm 5))),
(Qa (Qu 16) (Qd Qs Go.BinOp.add (Qm 15) (Qn (Qo (Qp (Qq Qt 1)))))),
(Qa (Qu 5) (Qc (Qm 16)))]
def f16_c22 : MC := .reg false f16_r22
def f16_c23 : MC := .seq f16_c21 f16_c22
def f16_c24 : MC := .seq f16_c13 f16_c23
def f16_c25 : MC := .loop f16_c24
def f16_c26 : MC := .blk 0 f16_c25
def f16_c27 : MC := .seq f16_c8 f16_c26
def f16_r28 : List MO := [
(Qa (Qu 4) (Qc (Qn (Qo (Qp (Qr true))))))]
def f16_c28 : MC := .reg false f16_r28
def f16_c29 : MC := MC.ret
def f16_c30 : MC := .seq f16_c28 f16_c29
def f16_c31 : MC := .seq f16_c27 f16_c30
def f16_c32 : MC := .seq f16_c7 f16_c31
def f16_c33 : MC := .seq f16_c0 f16_c32
noncomputable def f16_code : Code := (Go.Proofs.Tryd.f16.body).getD .skip
theorem f16_body : Go.Proofs.Tryd.f16.body = Qu f16_code := by kernel_rfl
theorem f16_tr : trC Go.Proofs.Tryd.prog [] f16_code = Qu f16_c33 := by kernel_rfl
theorem f16_rs : rsOf Go.Proofs.Tryd.prog Go.Proofs.Tryd.f16.results.toList = Qu [(RV.t 4)] := by kernel_rfl
theorem f16_nt : Go.Proofs.Tryd.f16.ntmps = 26 := by kernel_rfl
theorem f16_ok : callable Go.Proofs.Tryd.prog 16 = true := by kernel_rfl
theorem f16_in {gp : Heap} {args : List V} {res : V} (h : G ⟨Go.Proofs.Tryd.prog, gp, 0, [(RV.t 4)], fun r c => r = res ∧ c = [], false⟩ [.code f16_c33, .fin] ⟨args ++ List.replicate (26 - args.length) .un, []⟩) : Does Go.Proofs.Tryd.prog gp 16 args res :=
  does_intro f16_ok Go.Proofs.Tryd.func16 f16_body f16_tr f16_rs (by rw [f16_nt]; exact h)
theorem f16_tri {gp : Heap} {args : List V} {pre : List Ch} {R : V → List Ch → Prop} (h : G ⟨Go.Proofs.Tryd.prog, gp, pre.length, [(RV.t 4)], R, false⟩ [.code f16_c33, .fin] ⟨args ++ List.replicate (26 - args.length) .un, pre⟩) : Tri Go.Proofs.Tryd.prog gp 16 args pre R :=
  tri_intro Go.Proofs.Tryd.func16 f16_body f16_tr f16_rs (by rw [f16_nt]; exact h)

/-! sigillary/sigillarylaw06.Cut -/
def f17_r0 : List MO := [
(Qa (Qu 1) (MOp.ibox (Qm 0))),
(Qa (Qu 2) (MOp.alloc [(Qq Qt 0), (Qq Qt 0), (D.str (ByteArray.mk #[]))]))]
def f17_c0 : MC := .reg false f17_r0
def f17_r1 : List MO := [
(Qa (Qu 3) (Qf 0 (Qm 1))),
(Qa (Qu 4) (Qe 1 false (Qm 3))),
(Qa (Qu 5) (Qf 1 (Qm 1))),
(Qa (Qu 6) (Qe 1 false (Qm 5))),
(Qa (Qu 7) (Qf 2 (Qm 1))),
(Qa (Qu 8) (Qe 1 false (Qm 7))),
(Qa (Qu 9) (Qg 27 [(Qm 8)])),
(Qa (Qu 10) (MOp.build [(Qq Qt 0), (Qq Qt 0), (D.str (ByteArray.mk #[]))] [(0, (1, (Qm 4))), (1, (1, (Qm 6))), (2, (1, (Qm 9)))])),
(Qa none (Qk 3 (Qm 2) (Qm 10)))]
def f17_c1 : MC := .reg true f17_r1
def f17_c2 : MC := MC.ret
def f17_c3 : MC := .seq f17_c1 f17_c2
def f17_c4 : MC := .seq f17_c0 f17_c3
noncomputable def f17_code : Code := (Go.Proofs.Tryd.f17.body).getD .skip
theorem f17_body : Go.Proofs.Tryd.f17.body = Qu f17_code := by kernel_rfl
theorem f17_tr : trC Go.Proofs.Tryd.prog [1] f17_code = Qu f17_c4 := by kernel_rfl
theorem f17_rs : rsOf Go.Proofs.Tryd.prog Go.Proofs.Tryd.f17.results.toList = Qu [(RV.cell 2 3 true)] := by kernel_rfl
theorem f17_nt : Go.Proofs.Tryd.f17.ntmps = 11 := by kernel_rfl
theorem f17_ok : callable Go.Proofs.Tryd.prog 17 = true := by kernel_rfl
theorem f17_in {gp : Heap} {args : List V} {res : V} (h : G ⟨Go.Proofs.Tryd.prog, gp, 0, [(RV.cell 2 3 true)], fun r c => r = res ∧ c = [], false⟩ [.code f17_c4, .fin] ⟨args ++ List.replicate (11 - args.length) .un, []⟩) : Does Go.Proofs.Tryd.prog gp 17 args res :=
  does_intro f17_ok Go.Proofs.Tryd.func17 f17_body f17_tr f17_rs (by rw [f17_nt]; exact h)
theorem f17_tri {gp : Heap} {args : List V} {pre : List Ch} {R : V → List Ch → Prop} (h : G ⟨Go.Proofs.Tryd.prog, gp, pre.length, [(RV.cell 2 3 true)], R, false⟩ [.code f17_c4, .fin] ⟨args ++ List.replicate (11 - args.length) .un, pre⟩) : Tri Go.Proofs.Tryd.prog gp 17 args pre R :=
  tri_intro Go.Proofs.Tryd.func17 f17_body f17_tr f17_rs (by rw [f17_nt]; exact h)

/-! sigillary/arena.Same -/
def f18_r0 : List MO := [
(Qa (Qu 2) (MOp.ibox (Qm 0))),
(Qa (Qu 3) (MOp.ibox (Qm 1))),
(Qa (Qu 4) (Qc (Qn (Qo (Qp (Qr false))))))]
def f18_c0 : MC := .reg false f18_r0
def f18_r1 : List MO := [
(Qa (Qu 5) (Qc (Qn (Qo (Qp (D.fn (Go.Fn.func 28) []))))))]
def f18_c1 : MC := .reg false f18_r1
def f18_r2 : List MO := [
(Qa (Qu 6) (Qf 0 (Qm 2))),
(Qa (Qu 7) (Qe 1 false (Qm 6))),
(Qa (Qu 8) (Qf 0 (Qm 3))),
(Qa (Qu 9) (Qe 1 false (Qm 8))),
(Qa (Qu 10) (Qd Qs Go.BinOp.eql (Qm 7) (Qm 9))),
(Qa (Qu 11) (Qc (Qm 10))),
(Qb 11 true (Qu 12)),
(Qa (Qu 12) (Qf 1 (Qm 2))),
(Qb 11 true (Qu 13)),
(Qa (Qu 13) (Qe 1 false (Qm 12))),
(Qb 11 true (Qu 14)),
(Qa (Qu 14) (Qf 1 (Qm 3))),
(Qb 11 true (Qu 15)),
(Qa (Qu 15) (Qe 1 false (Qm 14))),
(Qb 11 true (Qu 16)),
(Qa (Qu 16) (Qc (Qm 5))),
(Qb 11 true (Qu 17)),
(Qa (Qu 17) (Qg 31 [(Qm 13), (Qm 15), (Qm 16)])),
(Qa (Qu 18) (Ql (Qm 11) (Qm 17) (Qn (Qo (Qp (Qr false)))))),
(Qa (Qu 4) (Qc (Qm 18)))]
def f18_c2 : MC := .reg false f18_r2
def f18_c3 : MC := MC.ret
def f18_c4 : MC := .seq f18_c2 f18_c3
def f18_c5 : MC := .seq f18_c1 f18_c4
def f18_c6 : MC := .seq f18_c0 f18_c5
noncomputable def f18_code : Code := (Go.Proofs.Tryd.f18.body).getD .skip
theorem f18_body : Go.Proofs.Tryd.f18.body = Qu f18_code := by kernel_rfl
theorem f18_tr : trC Go.Proofs.Tryd.prog [2, 3] f18_code = Qu f18_c6 := by kernel_rfl
theorem f18_rs : rsOf Go.Proofs.Tryd.prog Go.Proofs.Tryd.f18.results.toList = Qu [(RV.t 4)] := by kernel_rfl
theorem f18_nt : Go.Proofs.Tryd.f18.ntmps = 19 := by kernel_rfl
theorem f18_ok : callable Go.Proofs.Tryd.prog 18 = true := by kernel_rfl
theorem f18_in {gp : Heap} {args : List V} {res : V} (h : G ⟨Go.Proofs.Tryd.prog, gp, 0, [(RV.t 4)], fun r c => r = res ∧ c = [], false⟩ [.code f18_c6, .fin] ⟨args ++ List.replicate (19 - args.length) .un, []⟩) : Does Go.Proofs.Tryd.prog gp 18 args res :=
  does_intro f18_ok Go.Proofs.Tryd.func18 f18_body f18_tr f18_rs (by rw [f18_nt]; exact h)
theorem f18_tri {gp : Heap} {args : List V} {pre : List Ch} {R : V → List Ch → Prop} (h : G ⟨Go.Proofs.Tryd.prog, gp, pre.length, [(RV.t 4)], R, false⟩ [.code f18_c6, .fin] ⟨args ++ List.replicate (19 - args.length) .un, pre⟩) : Tri Go.Proofs.Tryd.prog gp 18 args pre R :=
  tri_intro Go.Proofs.Tryd.func18 f18_body f18_tr f18_rs (by rw [f18_nt]; exact h)

/-! sigillary/arena.told -/
def f19_r0 : List MO := [
(Qa (Qu 2) (Qc (Qn (Qo (Qp (Qq Qt 0)))))),
(Qa (Qu 3) (Qc (Qn (Qo (Qp (Qq Qt 0))))))]
def f19_c0 : MC := .reg false f19_r0
def f19_r1 : List MO := [
(Qa (Qu 4) (MOp.alloc [(Qq Qt 0), (Qq Qt 0)]))]
def f19_c1 : MC := .reg false f19_r1
def f19_r2 : List MO := [
(Qa (Qu 5) (Qc (Qm 0))),
(Qa (Qu 6) (MOp.mkI 72 (Qm 4))),
(Qa (Qu 7) (Qg 32 [(Qm 5), (Qm 6)]))]
def f19_c2 : MC := .reg false f19_r2
def f19_r3 : List MO := [
(Qa (Qu 8) (Qf 0 (Qm 4))),
(Qa (Qu 9) (Qe 1 false (Qm 8))),
(Qa (Qu 10) (Qf 1 (Qm 4))),
(Qa (Qu 11) (Qe 1 false (Qm 10))),
(Qa (Qu 2) (Qc (Qm 9))),
(Qa (Qu 3) (Qc (Qm 11)))]
def f19_c3 : MC := .reg true f19_r3
def f19_c4 : MC := MC.ret
def f19_c5 : MC := .seq f19_c3 f19_c4
def f19_c6 : MC := MC.skip
def f19_c7 : MC := .cond (Qm 7) f19_c5 f19_c6
def f19_c8 : MC := .seq f19_c2 f19_c7
def f19_r9 : List MO := [
(Qa (Qu 2) (Qc (Qn (Qo (Qp (Qq Qt 0)))))),
(Qa (Qu 3) (Qc (Qn (Qo (Qp (Qq Qt 0))))))]
def f19_c9 : MC := .reg false f19_r9
def f19_c10 : MC := MC.ret
def f19_c11 : MC := .seq f19_c9 f19_c10
def f19_c12 : MC := .seq f19_c8 f19_c11
def f19_c13 : MC := .seq f19_c1 f19_c12
def f19_c14 : MC := .seq f19_c0 f19_c13
noncomputable def f19_code : Code := (Go.Proofs.Tryd.f19.body).getD .skip
theorem f19_body : Go.Proofs.Tryd.f19.body = Qu f19_code := by kernel_rfl
theorem f19_tr : trC Go.Proofs.Tryd.prog [] f19_code = Qu f19_c14 := by kernel_rfl
theorem f19_rs : rsOf Go.Proofs.Tryd.prog Go.Proofs.Tryd.f19.results.toList = Qu [(RV.t 2), (RV.t 3)] := by kernel_rfl
theorem f19_nt : Go.Proofs.Tryd.f19.ntmps = 12 := by kernel_rfl
theorem f19_ok : callable Go.Proofs.Tryd.prog 19 = true := by kernel_rfl
theorem f19_in {gp : Heap} {args : List V} {res : V} (h : G ⟨Go.Proofs.Tryd.prog, gp, 0, [(RV.t 2), (RV.t 3)], fun r c => r = res ∧ c = [], false⟩ [.code f19_c14, .fin] ⟨args ++ List.replicate (12 - args.length) .un, []⟩) : Does Go.Proofs.Tryd.prog gp 19 args res :=
  does_intro f19_ok Go.Proofs.Tryd.func19 f19_body f19_tr f19_rs (by rw [f19_nt]; exact h)
theorem f19_tri {gp : Heap} {args : List V} {pre : List Ch} {R : V → List Ch → Prop} (h : G ⟨Go.Proofs.Tryd.prog, gp, pre.length, [(RV.t 2), (RV.t 3)], R, false⟩ [.code f19_c14, .fin] ⟨args ++ List.replicate (12 - args.length) .un, pre⟩) : Tri Go.Proofs.Tryd.prog gp 19 args pre R :=
  tri_intro Go.Proofs.Tryd.func19 f19_body f19_tr f19_rs (by rw [f19_nt]; exact h)

/-! sigillary/arena.check -/
def f20_r0 : List MO := [
(Qa (Qu 1) (MOp.ibox (Qm 0))),
(Qa (Qu 2) (MOp.alloc [D.nilI]))]
def f20_c0 : MC := .reg false f20_r0
def f20_r1 : List MO := [
(Qa (Qu 6) (Qf 1 (Qm 1))),
(Qa (Qu 7) (Qe 1 false (Qm 6))),
(Qa (Qu 8) (Qj Qs (Qm 7))),
(Qa (Qu 9) (Qd Qs Go.BinOp.gtr (Qm 8) (Qn (Qo (Qp (Qq Qt 200)))))),
(Qa (Qu 5) (Qc (Qm 9)))]
def f20_c1 : MC := .reg false f20_r1
def f20_r2 : List MO := [
(Qa (Qu 10) (MOp.build [(Qq Qt 0), (Qq Qt 0)] [(0, (1, (Qn (Qo (Qp (Qq Qt 0)))))), (1, (1, (Qn (Qo (Qp (Qq Qt 71))))))])),
(Qa (Qu 11) (MOp.mkI 70 (Qm 10))),
(Qa none (Qk 1 (Qm 2) (Qm 11)))]
def f20_c2 : MC := .reg false f20_r2
def f20_c3 : MC := MC.ret
def f20_c4 : MC := .seq f20_c2 f20_c3
def f20_r5 : List MO := [
(Qa (Qu 13) (Qe 2 true (Qm 1))),
(Qa (Qu 14) (Qf 0 (Qm 1))),
(Qa (Qu 15) (Qe 1 false (Qm 14))),
(Qa (Qu 16) (Qg 33 [(Qm 13), (Qm 15)])),
(Qa (Qu 17) (MOp.not (Qm 16))),
(Qa (Qu 12) (Qc (Qm 17)))]
def f20_c5 : MC := .reg false f20_r5
def f20_r6 : List MO := [
(Qa (Qu 18) (MOp.build [(Qq Qt 0), (Qq Qt 0)] [(0, (1, (Qn (Qo (Qp (Qq Qt (-1))))))), (1, (1, (Qn (Qo (Qp (Qq Qt 70))))))])),
(Qa (Qu 19) (MOp.mkI 70 (Qm 18))),
(Qa none (Qk 1 (Qm 2) (Qm 19)))]
def f20_c6 : MC := .reg false f20_r6
def f20_c7 : MC := MC.ret
def f20_c8 : MC := .seq f20_c6 f20_c7
def f20_c9 : MC := MC.skip
def f20_c10 : MC := .cond (Qm 12) f20_c8 f20_c9
def f20_c11 : MC := .seq f20_c5 f20_c10
def f20_c12 : MC := .cond (Qm 5) f20_c4 f20_c11
def f20_c13 : MC := .seq f20_c1 f20_c12
def f20_c14 : MC := .blk 0 f20_c13
def f20_r15 : List MO := [
(Qa (Qu 20) (Qe 2 true (Qm 1))),
(Qa (Qu 21) (Qg 34 [(Qm 20)]))]
def f20_c15 : MC := .reg false f20_r15
def f20_r16 : List MO := [
(Qa (Qu 3) (Qc (Qm 22)))]
def f20_c16 : MC := .reg false f20_r16
def f20_r17 : List MO := [
(Qa (Qu 4) (MOp.alloc [(Qq Qt 0), (Qq Qt 0), (Qq Qt 0), (D.str (ByteArray.mk #[])), (D.sl []), (D.sl []), (Qq Qt 0)])),
(Qa none (Qk 7 (Qm 4) (Qm 23)))]
def f20_c17 : MC := .reg false f20_r17
def f20_c18 : MC := .seq f20_c16 f20_c17
def f20_r19 : List MO := [
(Qa (Qu 24) (Qe 7 true (Qm 4))),
(Qa (Qu 25) (Qg 35 [(Qm 24)])),
(Qa (Qu 26) (MOp.not (Qm 25)))]
def f20_c19 : MC := .reg false f20_r19
def f20_r20 : List MO := [
(Qa (Qu 27) (Qc (Qm 3))),
(Qa (Qu 28) (MOp.build [(Qq Qt 0), (Qq Qt 0)] [(0, (1, (Qm 27))), (1, (1, (Qn (Qo (Qp (Qq Qt 70))))))])),
(Qa (Qu 29) (MOp.mkI 70 (Qm 28))),
(Qa none (Qk 1 (Qm 2) (Qm 29)))]
def f20_c20 : MC := .reg false f20_r20
def f20_c21 : MC := MC.ret
def f20_c22 : MC := .seq f20_c20 f20_c21
def f20_c23 : MC := MC.skip
def f20_c24 : MC := .cond (Qm 26) f20_c22 f20_c23
def f20_c25 : MC := .seq f20_c19 f20_c24
def f20_c26 : MC := .blk 2 f20_c25
def f20_c27 : MC := .rf (Qm 21) [22, 23] f20_c18 f20_c26
def f20_c28 : MC := .blk 1 f20_c27
def f20_c29 : MC := .seq f20_c15 f20_c28
def f20_r30 : List MO := [
(Qa none (Qk 1 (Qm 2) (Qn (Qo (Qp D.nilI)))))]
def f20_c30 : MC := .reg false f20_r30
def f20_c31 : MC := MC.ret
def f20_c32 : MC := .seq f20_c30 f20_c31
def f20_c33 : MC := .seq f20_c29 f20_c32
def f20_c34 : MC := .seq f20_c14 f20_c33
def f20_c35 : MC := .seq f20_c0 f20_c34
noncomputable def f20_code : Code := (Go.Proofs.Tryd.f20.body).getD .skip
theorem f20_body : Go.Proofs.Tryd.f20.body = Qu f20_code := by kernel_rfl
theorem f20_tr : trC Go.Proofs.Tryd.prog [1] f20_code = Qu f20_c35 := by kernel_rfl
theorem f20_rs : rsOf Go.Proofs.Tryd.prog Go.Proofs.Tryd.f20.results.toList = Qu [(RV.cell 2 1 false)] := by kernel_rfl
theorem f20_nt : Go.Proofs.Tryd.f20.ntmps = 30 := by kernel_rfl
theorem f20_ok : callable Go.Proofs.Tryd.prog 20 = true := by kernel_rfl
theorem f20_in {gp : Heap} {args : List V} {res : V} (h : G ⟨Go.Proofs.Tryd.prog, gp, 0, [(RV.cell 2 1 false)], fun r c => r = res ∧ c = [], false⟩ [.code f20_c35, .fin] ⟨args ++ List.replicate (30 - args.length) .un, []⟩) : Does Go.Proofs.Tryd.prog gp 20 args res :=
  does_intro f20_ok Go.Proofs.Tryd.func20 f20_body f20_tr f20_rs (by rw [f20_nt]; exact h)
theorem f20_tri {gp : Heap} {args : List V} {pre : List Ch} {R : V → List Ch → Prop} (h : G ⟨Go.Proofs.Tryd.prog, gp, pre.length, [(RV.cell 2 1 false)], R, false⟩ [.code f20_c35, .fin] ⟨args ++ List.replicate (30 - args.length) .un, pre⟩) : Tri Go.Proofs.Tryd.prog gp 20 args pre R :=
  tri_intro Go.Proofs.Tryd.func20 f20_body f20_tr f20_rs (by rw [f20_nt]; exact h)

/-! sigillary/arena.at -/
def f21_r0 : List MO := [
(Qa (Qu 2) (MOp.ibox (Qm 0))),
(Qa (Qu 4) (MOp.alloc [(Qq Qt 0), (Qq Qt 0), (Qq Qt 0), (D.str (ByteArray.mk #[])), (D.sl []), (D.sl []), (Qq Qt 0)])),
(Qa (Qu 5) (Qc (Qn (Qo (Qp (Qq Qt 0))))))]
def f21_c0 : MC := .reg false f21_r0
def f21_r1 : List MO := [
(Qa (Qu 6) (Qe 2 true (Qm 2))),
(Qa (Qu 7) (Qc (Qm 1))),
(Qa (Qu 8) (Qg 33 [(Qm 6), (Qm 7)])),
(Qa (Qu 9) (MOp.not (Qm 8)))]
def f21_c1 : MC := .reg false f21_r1
def f21_r2 : List MO := [
(Qa (Qu 10) (MOp.build [(Qq Qt 0), (Qq Qt 0), (Qq Qt 0), (D.str (ByteArray.mk #[])), (D.sl []), (D.sl []), (Qq Qt 0)] [])),
(Qa none (Qk 7 (Qm 4) (Qm 10))),
(Qa (Qu 5) (Qc (Qn (Qo (Qp (Qq Qt 2))))))]
def f21_c2 : MC := .reg false f21_r2
def f21_c3 : MC := MC.ret
def f21_c4 : MC := .seq f21_c2 f21_c3
def f21_c5 : MC := MC.skip
def f21_c6 : MC := .cond (Qm 9) f21_c4 f21_c5
def f21_c7 : MC := .seq f21_c1 f21_c6
def f21_r8 : List MO := [
(Qa (Qu 11) (Qf 1 (Qm 2))),
(Qa (Qu 12) (Qe 1 false (Qm 11))),
(Qa (Qu 13) (Qc (Qm 1))),
(Qa (Qu 14) (Qi 6 (Qm 12) (Qm 13))),
(Qa (Qu 15) (Qe 6 true (Qm 14))),
(Qa (Qu 16) (Qf 1 (Qm 2))),
(Qa (Qu 17) (Qe 1 false (Qm 16))),
(Qa (Qu 18) (Qj Qs (Qm 17))),
(Qa (Qu 19) (MOp.build [(Qq Qt 0), (Qq Qt 0), (Qq Qt 0), (D.str (ByteArray.mk #[])), (D.sl []), (D.sl []), (Qq Qt 0)] [(0, (6, (Qm 15))), (6, (1, (Qm 18)))])),
(Qa none (Qk 7 (Qm 4) (Qm 19))),
(Qa (Qu 5) (Qc (Qn (Qo (Qp (Qq Qt 0))))))]
def f21_c8 : MC := .reg true f21_r8
def f21_c9 : MC := MC.ret
def f21_c10 : MC := .seq f21_c8 f21_c9
def f21_c11 : MC := .seq f21_c7 f21_c10
def f21_c12 : MC := .seq f21_c0 f21_c11
noncomputable def f21_code : Code := (Go.Proofs.Tryd.f21.body).getD .skip
theorem f21_body : Go.Proofs.Tryd.f21.body = Qu f21_code := by kernel_rfl
theorem f21_tr : trC Go.Proofs.Tryd.prog [2] f21_code = Qu f21_c12 := by kernel_rfl
theorem f21_rs : rsOf Go.Proofs.Tryd.prog Go.Proofs.Tryd.f21.results.toList = Qu [(RV.cell 4 7 true), (RV.t 5)] := by kernel_rfl
theorem f21_nt : Go.Proofs.Tryd.f21.ntmps = 20 := by kernel_rfl
theorem f21_ok : callable Go.Proofs.Tryd.prog 21 = true := by kernel_rfl
theorem f21_in {gp : Heap} {args : List V} {res : V} (h : G ⟨Go.Proofs.Tryd.prog, gp, 0, [(RV.cell 4 7 true), (RV.t 5)], fun r c => r = res ∧ c = [], false⟩ [.code f21_c12, .fin] ⟨args ++ List.replicate (20 - args.length) .un, []⟩) : Does Go.Proofs.Tryd.prog gp 21 args res :=
  does_intro f21_ok Go.Proofs.Tryd.func21 f21_body f21_tr f21_rs (by rw [f21_nt]; exact h)
theorem f21_tri {gp : Heap} {args : List V} {pre : List Ch} {R : V → List Ch → Prop} (h : G ⟨Go.Proofs.Tryd.prog, gp, pre.length, [(RV.cell 4 7 true), (RV.t 5)], R, false⟩ [.code f21_c12, .fin] ⟨args ++ List.replicate (20 - args.length) .un, pre⟩) : Tri Go.Proofs.Tryd.prog gp 21 args pre R :=
  tri_intro Go.Proofs.Tryd.func21 f21_body f21_tr f21_rs (by rw [f21_nt]; exact h)

/-! slices.Clone[[]int,int] -/
def f22_r0 : List MO := [
(Qa (Qu 2) (Qc (Qn (Qo A.nil))))]
def f22_c0 : MC := .reg false f22_r0
def f22_r1 : List MO := [
(Qa (Qu 3) (Qc (Qm 0))),
(Qa (Qu 4) (MOp.nilq NK.sl false (Qm 3)))]
def f22_c1 : MC := .reg false f22_r1
def f22_r2 : List MO := [
(Qa (Qu 2) (Qc (Qn (Qo A.nil))))]
def f22_c2 : MC := .reg false f22_r2
def f22_c3 : MC := MC.ret
def f22_c4 : MC := .seq f22_c2 f22_c3
def f22_c5 : MC := MC.skip
def f22_c6 : MC := .cond (Qm 4) f22_c4 f22_c5
def f22_c7 : MC := .seq f22_c1 f22_c6
def f22_r8 : List MO := [
(Qa (Qu 5) (MOp.bslO 1 [(Qq Qt 0)] 0 [])),
(Qa (Qu 6) (Qc (Qm 0))),
(Qa (Qu 7) (MOp.app 1 8 (Qm 5) (Qm 6))),
(Qa (Qu 2) (Qc (Qm 7)))]
def f22_c8 : MC := .reg false f22_r8
def f22_c9 : MC := MC.ret
def f22_c10 : MC := .seq f22_c8 f22_c9
def f22_c11 : MC := .seq f22_c7 f22_c10
def f22_c12 : MC := .seq f22_c0 f22_c11
noncomputable def f22_code : Code := (Go.Proofs.Tryd.f22.body).getD .skip
theorem f22_body : Go.Proofs.Tryd.f22.body = Qu f22_code := by kernel_rfl
theorem f22_tr : trC Go.Proofs.Tryd.prog [5] f22_code = Qu f22_c12 := by kernel_rfl
theorem f22_rs : rsOf Go.Proofs.Tryd.prog Go.Proofs.Tryd.f22.results.toList = Qu [(RV.t 2)] := by kernel_rfl
theorem f22_nt : Go.Proofs.Tryd.f22.ntmps = 8 := by kernel_rfl
theorem f22_ok : callable Go.Proofs.Tryd.prog 22 = true := by kernel_rfl
theorem f22_in {gp : Heap} {args : List V} {res : V} (h : G ⟨Go.Proofs.Tryd.prog, gp, 0, [(RV.t 2)], fun r c => r = res ∧ c = [], false⟩ [.code f22_c12, .fin] ⟨args ++ List.replicate (8 - args.length) .un, []⟩) : Does Go.Proofs.Tryd.prog gp 22 args res :=
  does_intro f22_ok Go.Proofs.Tryd.func22 f22_body f22_tr f22_rs (by rw [f22_nt]; exact h)
theorem f22_tri {gp : Heap} {args : List V} {pre : List Ch} {R : V → List Ch → Prop} (h : G ⟨Go.Proofs.Tryd.prog, gp, pre.length, [(RV.t 2)], R, false⟩ [.code f22_c12, .fin] ⟨args ++ List.replicate (8 - args.length) .un, pre⟩) : Tri Go.Proofs.Tryd.prog gp 22 args pre R :=
  tri_intro Go.Proofs.Tryd.func22 f22_body f22_tr f22_rs (by rw [f22_nt]; exact h)

/-! (sigillary/arena.view).pairs -/
def f23_r0 : List MO := [
(Qa (Qu 1) (MOp.ibox (Qm 0))),
(Qa (Qu 2) (Qc (Qn (Qo A.nil))))]
def f23_c0 : MC := .reg false f23_r0
def f23_r1 : List MO := [
(Qa (Qu 6) (Qf 0 (Qm 1))),
(Qa (Qu 7) (Qf 0 (Qm 6))),
(Qa (Qu 8) (Qe 1 false (Qm 7))),
(Qa (Qu 9) (Qd Qs Go.BinOp.neq (Qm 8) (Qn (Qo (Qp (Qq Qt 2)))))),
(Qa (Qu 10) (Qc (Qm 9))),
(Qb 10 false (Qu 11)),
(Qa (Qu 11) (Qe 7 true (Qm 1))),
(Qb 10 false (Qu 12)),
(Qa (Qu 12) (Qg 36 [(Qm 11)])),
(Qb 10 false (Qu 13)),
(Qa (Qu 13) (MOp.not (Qm 12))),
(Qa (Qu 14) (Ql (Qm 10) (Qn (Qo (Qp (Qr true)))) (Qm 13)))]
def f23_c1 : MC := .reg false f23_r1
def f23_r2 : List MO := [
(Qa (Qu 2) (Qc (Qn (Qo A.nil))))]
def f23_c2 : MC := .reg false f23_r2
def f23_c3 : MC := MC.ret
def f23_c4 : MC := .seq f23_c2 f23_c3
def f23_c5 : MC := MC.skip
def f23_c6 : MC := .cond (Qm 14) f23_c4 f23_c5
def f23_c7 : MC := .seq f23_c1 f23_c6
def f23_r8 : List MO := [
(Qa (Qu 3) (Qc (Qn (Qo A.nil))))]
def f23_c8 : MC := .reg false f23_r8
def f23_r9 : List MO := [
(Qa (Qu 15) (Qf 0 (Qm 1))),
(Qa (Qu 16) (Qf 4 (Qm 15))),
(Qa (Qu 17) (Qe 1 false (Qm 16))),
(Qa (Qu 18) (Qj Qs (Qm 17))),
(Qa (Qu 19) (Qc (Qn (Qo (Qp (Qq Qt 0))))))]
def f23_c9 : MC := .reg false f23_r9
def f23_r10 : List MO := [
(Qa (Qu 20) (Qd Qs Go.BinOp.lss (Qm 19) (Qm 18)))]
def f23_c10 : MC := .reg false f23_r10
def f23_c11 : MC := MC.skip
def f23_c12 : MC := (MC.exit 0)
def f23_c13 : MC := .cond (Qm 20) f23_c11 f23_c12
def f23_r14 : List MO := [
(Qa (Qu 21) (Qc (Qm 19))),
(Qa (Qu 22) (Qi 3 (Qm 17) (Qm 19))),
(Qa (Qu 23) (Qe 3 true (Qm 22))),
(Qa (Qu 5) (MOp.alloc [(Qq Qt 0), (Qq Qt 0), (D.str (ByteArray.mk #[]))])),
(Qa (Qu 4) (Qc (Qm 21))),
(Qa none (Qk 3 (Qm 5) (Qm 23)))]
def f23_c14 : MC := .reg false f23_r14
def f23_r15 : List MO := [
(Qa (Qu 24) (Qc (Qm 3))),
(Qa (Qu 25) (Qe 3 true (Qm 5))),
(Qa (Qu 26) (Qf 0 (Qm 1))),
(Qa (Qu 27) (Qf 5 (Qm 26))),
(Qa (Qu 28) (Qe 1 false (Qm 27))),
(Qa (Qu 29) (Qc (Qm 4))),
(Qa (Qu 30) (Qi 1 (Qm 28) (Qm 29))),
(Qa (Qu 31) (Qe 1 false (Qm 30))),
(Qa (Qu 32) (MOp.build [(Qq Qt 0), (Qq Qt 0), (D.str (ByteArray.mk #[])), (Qq Qt 0)] [(0, (3, (Qm 25))), (3, (1, (Qm 31)))])),
(Qa (Qu 33) (MOp.bslice 4 [(Qq Qt 0), (Qq Qt 0), (D.str (ByteArray.mk #[])), (Qq Qt 0)] 1 [(0, (Qm 32))])),
(Qa (Qu 34) (MOp.app 4 40 (Qm 24) (Qm 33))),
(Qa (Qu 3) (Qc (Qm 34)))]
def f23_c15 : MC := .reg true f23_r15
def f23_c16 : MC := .seq f23_c14 f23_c15
def f23_c17 : MC := .blk 1 f23_c16
def f23_r18 : List MO := [
(Qa (Qu 35) (Qd Qs Go.BinOp.add (Qm 19) (Qn (Qo (Qp (Qq Qt 1)))))),
(Qa (Qu 19) (Qc (Qm 35)))]
def f23_c18 : MC := .reg false f23_r18
def f23_c19 : MC := .seq f23_c17 f23_c18
def f23_c20 : MC := .seq f23_c13 f23_c19
def f23_c21 : MC := .seq f23_c10 f23_c20
def f23_c22 : MC := .loop f23_c21
def f23_c23 : MC := .blk 0 f23_c22
def f23_c24 : MC := .seq f23_c9 f23_c23
def f23_r25 : List MO := [
(Qa (Qu 36) (Qc (Qm 3))),
(Qa (Qu 37) (Qg 37 [(Qm 36), (Qn (Qo (Qp (D.fn (Go.Fn.func 38) []))))]))]
def f23_c25 : MC := .reg false f23_r25
def f23_r26 : List MO := [
(Qa (Qu 38) (Qc (Qm 3))),
(Qa (Qu 2) (Qc (Qm 38)))]
def f23_c26 : MC := .reg false f23_r26
def f23_c27 : MC := MC.ret
def f23_c28 : MC := .seq f23_c26 f23_c27
def f23_c29 : MC := .seq f23_c25 f23_c28
def f23_c30 : MC := .seq f23_c24 f23_c29
def f23_c31 : MC := .seq f23_c8 f23_c30
def f23_c32 : MC := .seq f23_c7 f23_c31
def f23_c33 : MC := .seq f23_c0 f23_c32
noncomputable def f23_code : Code := (Go.Proofs.Tryd.f23.body).getD .skip
theorem f23_body : Go.Proofs.Tryd.f23.body = Qu f23_code := by kernel_rfl
theorem f23_tr : trC Go.Proofs.Tryd.prog [1] f23_code = Qu f23_c33 := by kernel_rfl
theorem f23_rs : rsOf Go.Proofs.Tryd.prog Go.Proofs.Tryd.f23.results.toList = Qu [(RV.t 2)] := by kernel_rfl
theorem f23_nt : Go.Proofs.Tryd.f23.ntmps = 39 := by kernel_rfl
theorem f23_ok : callable Go.Proofs.Tryd.prog 23 = true := by kernel_rfl
theorem f23_in {gp : Heap} {args : List V} {res : V} (h : G ⟨Go.Proofs.Tryd.prog, gp, 0, [(RV.t 2)], fun r c => r = res ∧ c = [], false⟩ [.code f23_c33, .fin] ⟨args ++ List.replicate (39 - args.length) .un, []⟩) : Does Go.Proofs.Tryd.prog gp 23 args res :=
  does_intro f23_ok Go.Proofs.Tryd.func23 f23_body f23_tr f23_rs (by rw [f23_nt]; exact h)
theorem f23_tri {gp : Heap} {args : List V} {pre : List Ch} {R : V → List Ch → Prop} (h : G ⟨Go.Proofs.Tryd.prog, gp, pre.length, [(RV.t 2)], R, false⟩ [.code f23_c33, .fin] ⟨args ++ List.replicate (39 - args.length) .un, pre⟩) : Tri Go.Proofs.Tryd.prog gp 23 args pre R :=
  tri_intro Go.Proofs.Tryd.func23 f23_body f23_tr f23_rs (by rw [f23_nt]; exact h)

/-! cmp.Or[int] -/
def f24_r0 : List MO := [
(Qa (Qu 2) (Qc (Qn (Qo (Qp (Qq Qt 0))))))]
def f24_c0 : MC := .reg false f24_r0
def f24_r1 : List MO := [
(Qa (Qu 3) (Qc (Qn (Qo (Qp (Qq Qt 0))))))]
def f24_c1 : MC := .reg false f24_r1
def f24_r2 : List MO := [
(Qa (Qu 6) (Qc (Qm 0))),
(Qa (Qu 7) (Qj Qs (Qm 6))),
(Qa (Qu 8) (Qc (Qn (Qo (Qp (Qq Qt 0))))))]
def f24_c2 : MC := .reg false f24_r2
def f24_r3 : List MO := [
(Qa (Qu 9) (Qd Qs Go.BinOp.lss (Qm 8) (Qm 7)))]
def f24_c3 : MC := .reg false f24_r3
def f24_c4 : MC := MC.skip
def f24_c5 : MC := (MC.exit 0)
def f24_c6 : MC := .cond (Qm 9) f24_c4 f24_c5
def f24_r7 : List MO := [
(Qa (Qu 10) (Qi 1 (Qm 6) (Qm 8))),
(Qa (Qu 11) (Qe 1 false (Qm 10))),
(Qa (Qu 5) (Qc (Qm 11)))]
def f24_c7 : MC := .reg false f24_r7
def f24_r8 : List MO := [
(Qa (Qu 12) (Qc (Qm 5))),
(Qa (Qu 13) (Qc (Qm 3))),
(Qa (Qu 14) (Qd Qs Go.BinOp.neq (Qm 12) (Qm 13)))]
def f24_c8 : MC := .reg false f24_r8
def f24_r9 : List MO := [
(Qa (Qu 15) (Qc (Qm 5))),
(Qa (Qu 2) (Qc (Qm 15)))]
def f24_c9 : MC := .reg false f24_r9
def f24_c10 : MC := MC.ret
def f24_c11 : MC := .seq f24_c9 f24_c10
def f24_c12 : MC := MC.skip
def f24_c13 : MC := .cond (Qm 14) f24_c11 f24_c12
def f24_c14 : MC := .seq f24_c8 f24_c13
def f24_c15 : MC := .seq f24_c7 f24_c14
def f24_c16 : MC := .blk 1 f24_c15
def f24_r17 : List MO := [
(Qa (Qu 16) (Qd Qs Go.BinOp.add (Qm 8) (Qn (Qo (Qp (Qq Qt 1)))))),
(Qa (Qu 8) (Qc (Qm 16)))]
def f24_c17 : MC := .reg false f24_r17
def f24_c18 : MC := .seq f24_c16 f24_c17
def f24_c19 : MC := .seq f24_c6 f24_c18
def f24_c20 : MC := .seq f24_c3 f24_c19
def f24_c21 : MC := .loop f24_c20
def f24_c22 : MC := .blk 0 f24_c21
def f24_c23 : MC := .seq f24_c2 f24_c22
def f24_r24 : List MO := [
(Qa (Qu 17) (Qc (Qm 3))),
(Qa (Qu 2) (Qc (Qm 17)))]
def f24_c24 : MC := .reg false f24_r24
def f24_c25 : MC := MC.ret
def f24_c26 : MC := .seq f24_c24 f24_c25
def f24_c27 : MC := .seq f24_c23 f24_c26
def f24_c28 : MC := .seq f24_c1 f24_c27
def f24_c29 : MC := .seq f24_c0 f24_c28
noncomputable def f24_code : Code := (Go.Proofs.Tryd.f24.body).getD .skip
theorem f24_body : Go.Proofs.Tryd.f24.body = Qu f24_code := by kernel_rfl
theorem f24_tr : trC Go.Proofs.Tryd.prog [] f24_code = Qu f24_c29 := by kernel_rfl
theorem f24_rs : rsOf Go.Proofs.Tryd.prog Go.Proofs.Tryd.f24.results.toList = Qu [(RV.t 2)] := by kernel_rfl
theorem f24_nt : Go.Proofs.Tryd.f24.ntmps = 18 := by kernel_rfl
theorem f24_ok : callable Go.Proofs.Tryd.prog 24 = true := by kernel_rfl
theorem f24_in {gp : Heap} {args : List V} {res : V} (h : G ⟨Go.Proofs.Tryd.prog, gp, 0, [(RV.t 2)], fun r c => r = res ∧ c = [], false⟩ [.code f24_c29, .fin] ⟨args ++ List.replicate (18 - args.length) .un, []⟩) : Does Go.Proofs.Tryd.prog gp 24 args res :=
  does_intro f24_ok Go.Proofs.Tryd.func24 f24_body f24_tr f24_rs (by rw [f24_nt]; exact h)
theorem f24_tri {gp : Heap} {args : List V} {pre : List Ch} {R : V → List Ch → Prop} (h : G ⟨Go.Proofs.Tryd.prog, gp, pre.length, [(RV.t 2)], R, false⟩ [.code f24_c29, .fin] ⟨args ++ List.replicate (18 - args.length) .un, pre⟩) : Tri Go.Proofs.Tryd.prog gp 24 args pre R :=
  tri_intro Go.Proofs.Tryd.func24 f24_body f24_tr f24_rs (by rw [f24_nt]; exact h)

/-! cmp.Compare[int] -/
def f25_r0 : List MO := [
(Qa (Qu 4) (Qc (Qn (Qo (Qp (Qq Qt 0))))))]
def f25_c0 : MC := .reg false f25_r0
def f25_r1 : List MO := [
(Qa (Qu 7) (Qc (Qm 0))),
(Qa (Qu 8) (Qg 39 [(Qm 7)])),
(Qa (Qu 5) (Qc (Qm 8)))]
def f25_c1 : MC := .reg false f25_r1
def f25_r2 : List MO := [
(Qa (Qu 9) (Qc (Qm 1))),
(Qa (Qu 10) (Qg 39 [(Qm 9)])),
(Qa (Qu 6) (Qc (Qm 10)))]
def f25_c2 : MC := .reg false f25_r2
def f25_r3 : List MO := [
(Qa (Qu 11) (Qc (Qm 5)))]
def f25_c3 : MC := .reg false f25_r3
def f25_r4 : List MO := [
(Qa (Qu 12) (Qc (Qm 6)))]
def f25_c4 : MC := .reg false f25_r4
def f25_r5 : List MO := [
(Qa (Qu 4) (Qc (Qn (Qo (Qp (Qq Qt 0))))))]
def f25_c5 : MC := .reg false f25_r5
def f25_c6 : MC := MC.ret
def f25_c7 : MC := .seq f25_c5 f25_c6
def f25_c8 : MC := MC.skip
def f25_c9 : MC := .cond (Qm 12) f25_c7 f25_c8
def f25_c10 : MC := .seq f25_c4 f25_c9
def f25_r11 : List MO := [
(Qa (Qu 4) (Qc (Qn (Qo (Qp (Qq Qt (-1)))))))]
def f25_c11 : MC := .reg false f25_r11
def f25_c12 : MC := MC.ret
def f25_c13 : MC := .seq f25_c11 f25_c12
def f25_c14 : MC := .seq f25_c10 f25_c13
def f25_c15 : MC := MC.skip
def f25_c16 : MC := .cond (Qm 11) f25_c14 f25_c15
def f25_c17 : MC := .seq f25_c3 f25_c16
def f25_r18 : List MO := [
(Qa (Qu 13) (Qc (Qm 6)))]
def f25_c18 : MC := .reg false f25_r18
def f25_r19 : List MO := [
(Qa (Qu 4) (Qc (Qn (Qo (Qp (Qq Qt 1))))))]
def f25_c19 : MC := .reg false f25_r19
def f25_c20 : MC := MC.ret
def f25_c21 : MC := .seq f25_c19 f25_c20
def f25_c22 : MC := MC.skip
def f25_c23 : MC := .cond (Qm 13) f25_c21 f25_c22
def f25_c24 : MC := .seq f25_c18 f25_c23
def f25_r25 : List MO := [
(Qa (Qu 14) (Qc (Qm 0))),
(Qa (Qu 15) (Qc (Qm 1))),
(Qa (Qu 16) (Qd Qs Go.BinOp.lss (Qm 14) (Qm 15)))]
def f25_c25 : MC := .reg false f25_r25
def f25_r26 : List MO := [
(Qa (Qu 4) (Qc (Qn (Qo (Qp (Qq Qt (-1)))))))]
def f25_c26 : MC := .reg false f25_r26
def f25_c27 : MC := MC.ret
def f25_c28 : MC := .seq f25_c26 f25_c27
def f25_c29 : MC := MC.skip
def f25_c30 : MC := .cond (Qm 16) f25_c28 f25_c29
def f25_c31 : MC := .seq f25_c25 f25_c30
def f25_r32 : List MO := [
(Qa (Qu 17) (Qc (Qm 0))),
(Qa (Qu 18) (Qc (Qm 1))),
(Qa (Qu 19) (Qd Qs Go.BinOp.gtr (Qm 17) (Qm 18)))]
def f25_c32 : MC := .reg false f25_r32
def f25_r33 : List MO := [
(Qa (Qu 4) (Qc (Qn (Qo (Qp (Qq Qt 1))))))]
def f25_c33 : MC := .reg false f25_r33
def f25_c34 : MC := MC.ret
def f25_c35 : MC := .seq f25_c33 f25_c34
def f25_c36 : MC := MC.skip
def f25_c37 : MC := .cond (Qm 19) f25_c35 f25_c36
def f25_c38 : MC := .seq f25_c32 f25_c37
def f25_r39 : List MO := [
(Qa (Qu 4) (Qc (Qn (Qo (Qp (Qq Qt 0))))))]
def f25_c39 : MC := .reg false f25_r39
def f25_c40 : MC := MC.ret
def f25_c41 : MC := .seq f25_c39 f25_c40
def f25_c42 : MC := .seq f25_c38 f25_c41
def f25_c43 : MC := .seq f25_c31 f25_c42
def f25_c44 : MC := .seq f25_c24 f25_c43
def f25_c45 : MC := .seq f25_c17 f25_c44
def f25_c46 : MC := .seq f25_c2 f25_c45
def f25_c47 : MC := .seq f25_c1 f25_c46
def f25_c48 : MC := .seq f25_c0 f25_c47
noncomputable def f25_code : Code := (Go.Proofs.Tryd.f25.body).getD .skip
theorem f25_body : Go.Proofs.Tryd.f25.body = Qu f25_code := by kernel_rfl
theorem f25_tr : trC Go.Proofs.Tryd.prog [] f25_code = Qu f25_c48 := by kernel_rfl
theorem f25_rs : rsOf Go.Proofs.Tryd.prog Go.Proofs.Tryd.f25.results.toList = Qu [(RV.t 4)] := by kernel_rfl
theorem f25_nt : Go.Proofs.Tryd.f25.ntmps = 20 := by kernel_rfl
theorem f25_ok : callable Go.Proofs.Tryd.prog 25 = true := by kernel_rfl
theorem f25_in {gp : Heap} {args : List V} {res : V} (h : G ⟨Go.Proofs.Tryd.prog, gp, 0, [(RV.t 4)], fun r c => r = res ∧ c = [], false⟩ [.code f25_c48, .fin] ⟨args ++ List.replicate (20 - args.length) .un, []⟩) : Does Go.Proofs.Tryd.prog gp 25 args res :=
  does_intro f25_ok Go.Proofs.Tryd.func25 f25_body f25_tr f25_rs (by rw [f25_nt]; exact h)
theorem f25_tri {gp : Heap} {args : List V} {pre : List Ch} {R : V → List Ch → Prop} (h : G ⟨Go.Proofs.Tryd.prog, gp, pre.length, [(RV.t 4)], R, false⟩ [.code f25_c48, .fin] ⟨args ++ List.replicate (20 - args.length) .un, pre⟩) : Tri Go.Proofs.Tryd.prog gp 25 args pre R :=
  tri_intro Go.Proofs.Tryd.func25 f25_body f25_tr f25_rs (by rw [f25_nt]; exact h)

/-! cmp.Compare[string] -/
def f26_r0 : List MO := [
(Qa (Qu 4) (Qc (Qn (Qo (Qp (Qq Qt 0))))))]
def f26_c0 : MC := .reg false f26_r0
def f26_r1 : List MO := [
(Qa (Qu 7) (Qc (Qm 0))),
(Qa (Qu 8) (Qg 40 [(Qm 7)])),
(Qa (Qu 5) (Qc (Qm 8)))]
def f26_c1 : MC := .reg false f26_r1
def f26_r2 : List MO := [
(Qa (Qu 9) (Qc (Qm 1))),
(Qa (Qu 10) (Qg 40 [(Qm 9)])),
(Qa (Qu 6) (Qc (Qm 10)))]
def f26_c2 : MC := .reg false f26_r2
def f26_r3 : List MO := [
(Qa (Qu 11) (Qc (Qm 5)))]
def f26_c3 : MC := .reg false f26_r3
def f26_r4 : List MO := [
(Qa (Qu 12) (Qc (Qm 6)))]
def f26_c4 : MC := .reg false f26_r4
def f26_r5 : List MO := [
(Qa (Qu 4) (Qc (Qn (Qo (Qp (Qq Qt 0))))))]
def f26_c5 : MC := .reg false f26_r5
def f26_c6 : MC := MC.ret
def f26_c7 : MC := .seq f26_c5 f26_c6
def f26_c8 : MC := MC.skip
def f26_c9 : MC := .cond (Qm 12) f26_c7 f26_c8
def f26_c10 : MC := .seq f26_c4 f26_c9
def f26_r11 : List MO := [
(Qa (Qu 4) (Qc (Qn (Qo (Qp (Qq Qt (-1)))))))]
def f26_c11 : MC := .reg false f26_r11
def f26_c12 : MC := MC.ret
def f26_c13 : MC := .seq f26_c11 f26_c12
def f26_c14 : MC := .seq f26_c10 f26_c13
def f26_c15 : MC := MC.skip
def f26_c16 : MC := .cond (Qm 11) f26_c14 f26_c15
def f26_c17 : MC := .seq f26_c3 f26_c16
def f26_r18 : List MO := [
(Qa (Qu 13) (Qc (Qm 6)))]
def f26_c18 : MC := .reg false f26_r18
def f26_r19 : List MO := [
(Qa (Qu 4) (Qc (Qn (Qo (Qp (Qq Qt 1))))))]
def f26_c19 : MC := .reg false f26_r19
def f26_c20 : MC := MC.ret
def f26_c21 : MC := .seq f26_c19 f26_c20
def f26_c22 : MC := MC.skip
def f26_c23 : MC := .cond (Qm 13) f26_c21 f26_c22
def f26_c24 : MC := .seq f26_c18 f26_c23
def f26_r25 : List MO := [
(Qa (Qu 14) (Qc (Qm 0))),
(Qa (Qu 15) (Qc (Qm 1))),
(Qa (Qu 16) (Qd Leaf.s Go.BinOp.lss (Qm 14) (Qm 15)))]
def f26_c25 : MC := .reg false f26_r25
def f26_r26 : List MO := [
(Qa (Qu 4) (Qc (Qn (Qo (Qp (Qq Qt (-1)))))))]
def f26_c26 : MC := .reg false f26_r26
def f26_c27 : MC := MC.ret
def f26_c28 : MC := .seq f26_c26 f26_c27
def f26_c29 : MC := MC.skip
def f26_c30 : MC := .cond (Qm 16) f26_c28 f26_c29
def f26_c31 : MC := .seq f26_c25 f26_c30
def f26_r32 : List MO := [
(Qa (Qu 17) (Qc (Qm 0))),
(Qa (Qu 18) (Qc (Qm 1))),
(Qa (Qu 19) (Qd Leaf.s Go.BinOp.gtr (Qm 17) (Qm 18)))]
def f26_c32 : MC := .reg false f26_r32
def f26_r33 : List MO := [
(Qa (Qu 4) (Qc (Qn (Qo (Qp (Qq Qt 1))))))]
def f26_c33 : MC := .reg false f26_r33
def f26_c34 : MC := MC.ret
def f26_c35 : MC := .seq f26_c33 f26_c34
def f26_c36 : MC := MC.skip
def f26_c37 : MC := .cond (Qm 19) f26_c35 f26_c36
def f26_c38 : MC := .seq f26_c32 f26_c37
def f26_r39 : List MO := [
(Qa (Qu 4) (Qc (Qn (Qo (Qp (Qq Qt 0))))))]
def f26_c39 : MC := .reg false f26_r39
def f26_c40 : MC := MC.ret
def f26_c41 : MC := .seq f26_c39 f26_c40
def f26_c42 : MC := .seq f26_c38 f26_c41
def f26_c43 : MC := .seq f26_c31 f26_c42
def f26_c44 : MC := .seq f26_c24 f26_c43
def f26_c45 : MC := .seq f26_c17 f26_c44
def f26_c46 : MC := .seq f26_c2 f26_c45
def f26_c47 : MC := .seq f26_c1 f26_c46
def f26_c48 : MC := .seq f26_c0 f26_c47
noncomputable def f26_code : Code := (Go.Proofs.Tryd.f26.body).getD .skip
theorem f26_body : Go.Proofs.Tryd.f26.body = Qu f26_code := by kernel_rfl
theorem f26_tr : trC Go.Proofs.Tryd.prog [] f26_code = Qu f26_c48 := by kernel_rfl
theorem f26_rs : rsOf Go.Proofs.Tryd.prog Go.Proofs.Tryd.f26.results.toList = Qu [(RV.t 4)] := by kernel_rfl
theorem f26_nt : Go.Proofs.Tryd.f26.ntmps = 20 := by kernel_rfl
theorem f26_ok : callable Go.Proofs.Tryd.prog 26 = true := by kernel_rfl
theorem f26_in {gp : Heap} {args : List V} {res : V} (h : G ⟨Go.Proofs.Tryd.prog, gp, 0, [(RV.t 4)], fun r c => r = res ∧ c = [], false⟩ [.code f26_c48, .fin] ⟨args ++ List.replicate (20 - args.length) .un, []⟩) : Does Go.Proofs.Tryd.prog gp 26 args res :=
  does_intro f26_ok Go.Proofs.Tryd.func26 f26_body f26_tr f26_rs (by rw [f26_nt]; exact h)
theorem f26_tri {gp : Heap} {args : List V} {pre : List Ch} {R : V → List Ch → Prop} (h : G ⟨Go.Proofs.Tryd.prog, gp, pre.length, [(RV.t 4)], R, false⟩ [.code f26_c48, .fin] ⟨args ++ List.replicate (20 - args.length) .un, pre⟩) : Tri Go.Proofs.Tryd.prog gp 26 args pre R :=
  tri_intro Go.Proofs.Tryd.func26 f26_body f26_tr f26_rs (by rw [f26_nt]; exact h)

/-! sigillary/sigillarylaw06.cut -/
def f27_r0 : List MO := [
(Qa (Qu 2) (Qc (Qn (Qo (Qp (D.str (ByteArray.mk #[])))))))]
def f27_c0 : MC := .reg false f27_r0
def f27_r1 : List MO := [
(Qa (Qu 3) (Qc (Qm 0))),
(Qa (Qu 4) (Qc (Qm 0))),
(Qa (Qu 5) (Qj Leaf.s (Qm 4))),
(Qa (Qu 6) (MOp.min (Qm 5) (Qn (Qo (Qp (Qq Qt 100)))))),
(Qa (Qu 7) (MOp.slcS (Qm 3) none (Qu (Qm 6)))),
(Qa (Qu 2) (Qc (Qm 7)))]
def f27_c1 : MC := .reg false f27_r1
def f27_c2 : MC := MC.ret
def f27_c3 : MC := .seq f27_c1 f27_c2
def f27_c4 : MC := .seq f27_c0 f27_c3
noncomputable def f27_code : Code := (Go.Proofs.Tryd.f27.body).getD .skip
theorem f27_body : Go.Proofs.Tryd.f27.body = Qu f27_code := by kernel_rfl
theorem f27_tr : trC Go.Proofs.Tryd.prog [] f27_code = Qu f27_c4 := by kernel_rfl
theorem f27_rs : rsOf Go.Proofs.Tryd.prog Go.Proofs.Tryd.f27.results.toList = Qu [(RV.t 2)] := by kernel_rfl
theorem f27_nt : Go.Proofs.Tryd.f27.ntmps = 8 := by kernel_rfl
theorem f27_ok : callable Go.Proofs.Tryd.prog 27 = true := by kernel_rfl
theorem f27_in {gp : Heap} {args : List V} {res : V} (h : G ⟨Go.Proofs.Tryd.prog, gp, 0, [(RV.t 2)], fun r c => r = res ∧ c = [], false⟩ [.code f27_c4, .fin] ⟨args ++ List.replicate (8 - args.length) .un, []⟩) : Does Go.Proofs.Tryd.prog gp 27 args res :=
  does_intro f27_ok Go.Proofs.Tryd.func27 f27_body f27_tr f27_rs (by rw [f27_nt]; exact h)
theorem f27_tri {gp : Heap} {args : List V} {pre : List Ch} {R : V → List Ch → Prop} (h : G ⟨Go.Proofs.Tryd.prog, gp, pre.length, [(RV.t 2)], R, false⟩ [.code f27_c4, .fin] ⟨args ++ List.replicate (8 - args.length) .un, pre⟩) : Tri Go.Proofs.Tryd.prog gp 27 args pre R :=
  tri_intro Go.Proofs.Tryd.func27 f27_body f27_tr f27_rs (by rw [f27_nt]; exact h)

/-! sigillary/arena.Same$1 -/
def f28_r0 : List MO := [
(Qa (Qu 2) (MOp.ibox (Qm 0))),
(Qa (Qu 3) (MOp.ibox (Qm 1))),
(Qa (Qu 4) (Qc (Qn (Qo (Qp (Qr false))))))]
def f28_c0 : MC := .reg false f28_r0
def f28_r1 : List MO := [
(Qa (Qu 5) (Qf 0 (Qm 2))),
(Qa (Qu 6) (Qe 1 false (Qm 5))),
(Qa (Qu 7) (Qf 0 (Qm 3))),
(Qa (Qu 8) (Qe 1 false (Qm 7))),
(Qa (Qu 9) (Qd Qs Go.BinOp.eql (Qm 6) (Qm 8))),
(Qa (Qu 10) (Qc (Qm 9))),
(Qb 10 true (Qu 11)),
(Qa (Qu 11) (Qf 1 (Qm 2))),
(Qb 10 true (Qu 12)),
(Qa (Qu 12) (Qe 3 true (Qm 11))),
(Qb 10 true (Qu 13)),
(Qa (Qu 13) (Qf 1 (Qm 3))),
(Qb 10 true (Qu 14)),
(Qa (Qu 14) (Qe 3 true (Qm 13))),
(Qb 10 true (Qu 15)),
(Qa (Qu 15) (MOp.eqs false [Qs, Qs, Leaf.s] (Qm 12) (Qm 14))),
(Qa (Qu 16) (Ql (Qm 10) (Qm 15) (Qn (Qo (Qp (Qr false)))))),
(Qa (Qu 17) (Qc (Qm 16))),
(Qb 17 true (Qu 18)),
(Qa (Qu 18) (Qf 4 (Qm 2))),
(Qb 17 true (Qu 19)),
(Qa (Qu 19) (Qe 1 false (Qm 18))),
(Qb 17 true (Qu 20)),
(Qa (Qu 20) (Qf 4 (Qm 3))),
(Qb 17 true (Qu 21)),
(Qa (Qu 21) (Qe 1 false (Qm 20))),
(Qb 17 true (Qu 22)),
(Qa (Qu 22) (Qg 29 [(Qm 19), (Qm 21)])),
(Qa (Qu 23) (Ql (Qm 17) (Qm 22) (Qn (Qo (Qp (Qr false)))))),
(Qa (Qu 24) (Qc (Qm 23))),
(Qb 24 true (Qu 25)),
(Qa (Qu 25) (Qf 5 (Qm 2))),
(Qb 24 true (Qu 26)),
(Qa (Qu 26) (Qe 1 false (Qm 25))),
(Qb 24 true (Qu 27)),
(Qa (Qu 27) (Qf 5 (Qm 3))),
(Qb 24 true (Qu 28)),
(Qa (Qu 28) (Qe 1 false (Qm 27))),
(Qb 24 true (Qu 29)),
(Qa (Qu 29) (Qg 30 [(Qm 26), (Qm 28)])),
(Qa (Qu 30) (Ql (Qm 24) (Qm 29) (Qn (Qo (Qp (Qr false)))))),
(Qa (Qu 4) (Qc (Qm 30)))]
def f28_c1 : MC := .reg false f28_r1
def f28_c2 : MC := MC.ret
def f28_c3 : MC := .seq f28_c1 f28_c2
def f28_c4 : MC := .seq f28_c0 f28_c3
noncomputable def f28_code : Code := (Go.Proofs.Tryd.f28.body).getD .skip
theorem f28_body : Go.Proofs.Tryd.f28.body = Qu f28_code := by kernel_rfl
theorem f28_tr : trC Go.Proofs.Tryd.prog [2, 3] f28_code = Qu f28_c4 := by kernel_rfl
theorem f28_rs : rsOf Go.Proofs.Tryd.prog Go.Proofs.Tryd.f28.results.toList = Qu [(RV.t 4)] := by kernel_rfl
theorem f28_nt : Go.Proofs.Tryd.f28.ntmps = 31 := by kernel_rfl
theorem f28_ok : callable Go.Proofs.Tryd.prog 28 = true := by kernel_rfl
theorem f28_in {gp : Heap} {args : List V} {res : V} (h : G ⟨Go.Proofs.Tryd.prog, gp, 0, [(RV.t 4)], fun r c => r = res ∧ c = [], false⟩ [.code f28_c4, .fin] ⟨args ++ List.replicate (31 - args.length) .un, []⟩) : Does Go.Proofs.Tryd.prog gp 28 args res :=
  does_intro f28_ok Go.Proofs.Tryd.func28 f28_body f28_tr f28_rs (by rw [f28_nt]; exact h)
theorem f28_tri {gp : Heap} {args : List V} {pre : List Ch} {R : V → List Ch → Prop} (h : G ⟨Go.Proofs.Tryd.prog, gp, pre.length, [(RV.t 4)], R, false⟩ [.code f28_c4, .fin] ⟨args ++ List.replicate (31 - args.length) .un, pre⟩) : Tri Go.Proofs.Tryd.prog gp 28 args pre R :=
  tri_intro Go.Proofs.Tryd.func28 f28_body f28_tr f28_rs (by rw [f28_nt]; exact h)

/-! slices.Equal[[]sigillary/api.Scalar,sigillary/api.Scalar] -/
def f29_r0 : List MO := [
(Qa (Qu 4) (Qc (Qn (Qo (Qp (Qr false))))))]
def f29_c0 : MC := .reg false f29_r0
def f29_r1 : List MO := [
(Qa (Qu 6) (Qc (Qm 0))),
(Qa (Qu 7) (Qj Qs (Qm 6))),
(Qa (Qu 8) (Qc (Qm 1))),
(Qa (Qu 9) (Qj Qs (Qm 8))),
(Qa (Qu 10) (Qd Qs Go.BinOp.neq (Qm 7) (Qm 9)))]
def f29_c1 : MC := .reg false f29_r1
def f29_r2 : List MO := [
(Qa (Qu 4) (Qc (Qn (Qo (Qp (Qr false))))))]
def f29_c2 : MC := .reg false f29_r2
def f29_c3 : MC := MC.ret
def f29_c4 : MC := .seq f29_c2 f29_c3
def f29_c5 : MC := MC.skip
def f29_c6 : MC := .cond (Qm 10) f29_c4 f29_c5
def f29_c7 : MC := .seq f29_c1 f29_c6
def f29_r8 : List MO := [
(Qa (Qu 11) (Qc (Qm 0))),
(Qa (Qu 12) (Qj Qs (Qm 11))),
(Qa (Qu 13) (Qc (Qn (Qo (Qp (Qq Qt 0))))))]
def f29_c8 : MC := .reg false f29_r8
def f29_r9 : List MO := [
(Qa (Qu 14) (Qd Qs Go.BinOp.lss (Qm 13) (Qm 12)))]
def f29_c9 : MC := .reg false f29_r9
def f29_c10 : MC := MC.skip
def f29_c11 : MC := (MC.exit 0)
def f29_c12 : MC := .cond (Qm 14) f29_c10 f29_c11
def f29_r13 : List MO := [
(Qa (Qu 15) (Qc (Qm 13))),
(Qa (Qu 5) (Qc (Qm 15)))]
def f29_c13 : MC := .reg false f29_r13
def f29_r14 : List MO := [
(Qa (Qu 16) (Qc (Qm 0))),
(Qa (Qu 17) (Qc (Qm 5))),
(Qa (Qu 18) (Qi 3 (Qm 16) (Qm 17))),
(Qa (Qu 19) (Qe 3 true (Qm 18))),
(Qa (Qu 20) (Qc (Qm 1))),
(Qa (Qu 21) (Qc (Qm 5))),
(Qa (Qu 22) (Qi 3 (Qm 20) (Qm 21))),
(Qa (Qu 23) (Qe 3 true (Qm 22))),
(Qa (Qu 24) (MOp.eqs true [Qs, Qs, Leaf.s] (Qm 19) (Qm 23)))]
def f29_c14 : MC := .reg true f29_r14
def f29_r15 : List MO := [
(Qa (Qu 4) (Qc (Qn (Qo (Qp (Qr false))))))]
def f29_c15 : MC := .reg false f29_r15
def f29_c16 : MC := MC.ret
def f29_c17 : MC := .seq f29_c15 f29_c16
def f29_c18 : MC := MC.skip
def f29_c19 : MC := .cond (Qm 24) f29_c17 f29_c18
def f29_c20 : MC := .seq f29_c14 f29_c19
def f29_c21 : MC := .seq f29_c13 f29_c20
def f29_c22 : MC := .blk 1 f29_c21
def f29_r23 : List MO := [
(Qa (Qu 25) (Qd Qs Go.BinOp.add (Qm 13) (Qn (Qo (Qp (Qq Qt 1)))))),
(Qa (Qu 13) (Qc (Qm 25)))]
def f29_c23 : MC := .reg false f29_r23
def f29_c24 : MC := .seq f29_c22 f29_c23
def f29_c25 : MC := .seq f29_c12 f29_c24
def f29_c26 : MC := .seq f29_c9 f29_c25
def f29_c27 : MC := .loop f29_c26
def f29_c28 : MC := .blk 0 f29_c27
def f29_c29 : MC := .seq f29_c8 f29_c28
def f29_r30 : List MO := [
(Qa (Qu 4) (Qc (Qn (Qo (Qp (Qr true))))))]
def f29_c30 : MC := .reg false f29_r30
def f29_c31 : MC := MC.ret
def f29_c32 : MC := .seq f29_c30 f29_c31
def f29_c33 : MC := .seq f29_c29 f29_c32
def f29_c34 : MC := .seq f29_c7 f29_c33
def f29_c35 : MC := .seq f29_c0 f29_c34
noncomputable def f29_code : Code := (Go.Proofs.Tryd.f29.body).getD .skip
theorem f29_body : Go.Proofs.Tryd.f29.body = Qu f29_code := by kernel_rfl
theorem f29_tr : trC Go.Proofs.Tryd.prog [] f29_code = Qu f29_c35 := by kernel_rfl
theorem f29_rs : rsOf Go.Proofs.Tryd.prog Go.Proofs.Tryd.f29.results.toList = Qu [(RV.t 4)] := by kernel_rfl
theorem f29_nt : Go.Proofs.Tryd.f29.ntmps = 26 := by kernel_rfl
theorem f29_ok : callable Go.Proofs.Tryd.prog 29 = true := by kernel_rfl
theorem f29_in {gp : Heap} {args : List V} {res : V} (h : G ⟨Go.Proofs.Tryd.prog, gp, 0, [(RV.t 4)], fun r c => r = res ∧ c = [], false⟩ [.code f29_c35, .fin] ⟨args ++ List.replicate (26 - args.length) .un, []⟩) : Does Go.Proofs.Tryd.prog gp 29 args res :=
  does_intro f29_ok Go.Proofs.Tryd.func29 f29_body f29_tr f29_rs (by rw [f29_nt]; exact h)
theorem f29_tri {gp : Heap} {args : List V} {pre : List Ch} {R : V → List Ch → Prop} (h : G ⟨Go.Proofs.Tryd.prog, gp, pre.length, [(RV.t 4)], R, false⟩ [.code f29_c35, .fin] ⟨args ++ List.replicate (26 - args.length) .un, pre⟩) : Tri Go.Proofs.Tryd.prog gp 29 args pre R :=
  tri_intro Go.Proofs.Tryd.func29 f29_body f29_tr f29_rs (by rw [f29_nt]; exact h)

/-! slices.Equal[[]int,int] -/
def f30_r0 : List MO := [
(Qa (Qu 4) (Qc (Qn (Qo (Qp (Qr false))))))]
def f30_c0 : MC := .reg false f30_r0
def f30_r1 : List MO := [
(Qa (Qu 6) (Qc (Qm 0))),
(Qa (Qu 7) (Qj Qs (Qm 6))),
(Qa (Qu 8) (Qc (Qm 1))),
(Qa (Qu 9) (Qj Qs (Qm 8))),
(Qa (Qu 10) (Qd Qs Go.BinOp.neq (Qm 7) (Qm 9)))]
def f30_c1 : MC := .reg false f30_r1
def f30_r2 : List MO := [
(Qa (Qu 4) (Qc (Qn (Qo (Qp (Qr false))))))]
def f30_c2 : MC := .reg false f30_r2
def f30_c3 : MC := MC.ret
def f30_c4 : MC := .seq f30_c2 f30_c3
def f30_c5 : MC := MC.skip
def f30_c6 : MC := .cond (Qm 10) f30_c4 f30_c5
def f30_c7 : MC := .seq f30_c1 f30_c6
def f30_r8 : List MO := [
(Qa (Qu 11) (Qc (Qm 0))),
(Qa (Qu 12) (Qj Qs (Qm 11))),
(Qa (Qu 13) (Qc (Qn (Qo (Qp (Qq Qt 0))))))]
def f30_c8 : MC := .reg false f30_r8
def f30_r9 : List MO := [
(Qa (Qu 14) (Qd Qs Go.BinOp.lss (Qm 13) (Qm 12)))]
def f30_c9 : MC := .reg false f30_r9
def f30_c10 : MC := MC.skip
def f30_c11 : MC := (MC.exit 0)
def f30_c12 : MC := .cond (Qm 14) f30_c10 f30_c11
def f30_r13 : List MO := [
(Qa (Qu 15) (Qc (Qm 13))),
(Qa (Qu 5) (Qc (Qm 15)))]
def f30_c13 : MC := .reg false f30_r13
def f30_r14 : List MO := [
(Qa (Qu 16) (Qc (Qm 0))),
(Qa (Qu 17) (Qc (Qm 5))),
(Qa (Qu 18) (Qi 1 (Qm 16) (Qm 17))),
(Qa (Qu 19) (Qe 1 false (Qm 18))),
(Qa (Qu 20) (Qc (Qm 1))),
(Qa (Qu 21) (Qc (Qm 5))),
(Qa (Qu 22) (Qi 1 (Qm 20) (Qm 21))),
(Qa (Qu 23) (Qe 1 false (Qm 22))),
(Qa (Qu 24) (Qd Qs Go.BinOp.neq (Qm 19) (Qm 23)))]
def f30_c14 : MC := .reg true f30_r14
def f30_r15 : List MO := [
(Qa (Qu 4) (Qc (Qn (Qo (Qp (Qr false))))))]
def f30_c15 : MC := .reg false f30_r15
def f30_c16 : MC := MC.ret
def f30_c17 : MC := .seq f30_c15 f30_c16
def f30_c18 : MC := MC.skip
def f30_c19 : MC := .cond (Qm 24) f30_c17 f30_c18
def f30_c20 : MC := .seq f30_c14 f30_c19
def f30_c21 : MC := .seq f30_c13 f30_c20
def f30_c22 : MC := .blk 1 f30_c21
def f30_r23 : List MO := [
(Qa (Qu 25) (Qd Qs Go.BinOp.add (Qm 13) (Qn (Qo (Qp (Qq Qt 1)))))),
(Qa (Qu 13) (Qc (Qm 25)))]
def f30_c23 : MC := .reg false f30_r23
def f30_c24 : MC := .seq f30_c22 f30_c23
def f30_c25 : MC := .seq f30_c12 f30_c24
def f30_c26 : MC := .seq f30_c9 f30_c25
def f30_c27 : MC := .loop f30_c26
def f30_c28 : MC := .blk 0 f30_c27
def f30_c29 : MC := .seq f30_c8 f30_c28
def f30_r30 : List MO := [
(Qa (Qu 4) (Qc (Qn (Qo (Qp (Qr true))))))]
def f30_c30 : MC := .reg false f30_r30
def f30_c31 : MC := MC.ret
def f30_c32 : MC := .seq f30_c30 f30_c31
def f30_c33 : MC := .seq f30_c29 f30_c32
def f30_c34 : MC := .seq f30_c7 f30_c33
def f30_c35 : MC := .seq f30_c0 f30_c34
noncomputable def f30_code : Code := (Go.Proofs.Tryd.f30.body).getD .skip
theorem f30_body : Go.Proofs.Tryd.f30.body = Qu f30_code := by kernel_rfl
theorem f30_tr : trC Go.Proofs.Tryd.prog [] f30_code = Qu f30_c35 := by kernel_rfl
theorem f30_rs : rsOf Go.Proofs.Tryd.prog Go.Proofs.Tryd.f30.results.toList = Qu [(RV.t 4)] := by kernel_rfl
theorem f30_nt : Go.Proofs.Tryd.f30.ntmps = 26 := by kernel_rfl
theorem f30_ok : callable Go.Proofs.Tryd.prog 30 = true := by kernel_rfl
theorem f30_in {gp : Heap} {args : List V} {res : V} (h : G ⟨Go.Proofs.Tryd.prog, gp, 0, [(RV.t 4)], fun r c => r = res ∧ c = [], false⟩ [.code f30_c35, .fin] ⟨args ++ List.replicate (26 - args.length) .un, []⟩) : Does Go.Proofs.Tryd.prog gp 30 args res :=
  does_intro f30_ok Go.Proofs.Tryd.func30 f30_body f30_tr f30_rs (by rw [f30_nt]; exact h)
theorem f30_tri {gp : Heap} {args : List V} {pre : List Ch} {R : V → List Ch → Prop} (h : G ⟨Go.Proofs.Tryd.prog, gp, pre.length, [(RV.t 4)], R, false⟩ [.code f30_c35, .fin] ⟨args ++ List.replicate (26 - args.length) .un, pre⟩) : Tri Go.Proofs.Tryd.prog gp 30 args pre R :=
  tri_intro Go.Proofs.Tryd.func30 f30_body f30_tr f30_rs (by rw [f30_nt]; exact h)

/-! slices.EqualFunc[[]sigillary/api.Node,[]sigillary/api.Node,sigillary/api.Node,sigillary/api.Node] -/
def f31_r0 : List MO := [
(Qa (Qu 6) (Qc (Qn (Qo (Qp (Qr false))))))]
def f31_c0 : MC := .reg false f31_r0
def f31_r1 : List MO := [
(Qa (Qu 10) (Qc (Qm 0))),
(Qa (Qu 11) (Qj Qs (Qm 10))),
(Qa (Qu 12) (Qc (Qm 1))),
(Qa (Qu 13) (Qj Qs (Qm 12))),
(Qa (Qu 14) (Qd Qs Go.BinOp.neq (Qm 11) (Qm 13)))]
def f31_c1 : MC := .reg false f31_r1
def f31_r2 : List MO := [
(Qa (Qu 6) (Qc (Qn (Qo (Qp (Qr false))))))]
def f31_c2 : MC := .reg false f31_r2
def f31_c3 : MC := MC.ret
def f31_c4 : MC := .seq f31_c2 f31_c3
def f31_c5 : MC := MC.skip
def f31_c6 : MC := .cond (Qm 14) f31_c4 f31_c5
def f31_c7 : MC := .seq f31_c1 f31_c6
def f31_r8 : List MO := [
(Qa (Qu 15) (Qc (Qm 0))),
(Qa (Qu 16) (Qj Qs (Qm 15))),
(Qa (Qu 17) (Qc (Qn (Qo (Qp (Qq Qt 0))))))]
def f31_c8 : MC := .reg false f31_r8
def f31_r9 : List MO := [
(Qa (Qu 18) (Qd Qs Go.BinOp.lss (Qm 17) (Qm 16)))]
def f31_c9 : MC := .reg false f31_r9
def f31_c10 : MC := MC.skip
def f31_c11 : MC := (MC.exit 0)
def f31_c12 : MC := .cond (Qm 18) f31_c10 f31_c11
def f31_r13 : List MO := [
(Qa (Qu 19) (Qc (Qm 17))),
(Qa (Qu 20) (Qi 6 (Qm 15) (Qm 17))),
(Qa (Qu 21) (Qe 6 true (Qm 20))),
(Qa (Qu 8) (MOp.alloc [(Qq Qt 0), (Qq Qt 0), (Qq Qt 0), (D.str (ByteArray.mk #[])), (D.sl []), (D.sl [])])),
(Qa (Qu 7) (Qc (Qm 19))),
(Qa none (Qk 6 (Qm 8) (Qm 21)))]
def f31_c13 : MC := .reg false f31_r13
def f31_r14 : List MO := [
(Qa (Qu 22) (Qc (Qm 1))),
(Qa (Qu 23) (Qc (Qm 7))),
(Qa (Qu 24) (Qi 6 (Qm 22) (Qm 23))),
(Qa (Qu 25) (Qe 6 true (Qm 24))),
(Qa (Qu 9) (MOp.alloc [(Qq Qt 0), (Qq Qt 0), (Qq Qt 0), (D.str (ByteArray.mk #[])), (D.sl []), (D.sl [])])),
(Qa none (Qk 6 (Qm 9) (Qm 25)))]
def f31_c14 : MC := .reg false f31_r14
def f31_r15 : List MO := [
(Qa (Qu 26) (Qc (Qm 2))),
(Qa (Qu 27) (Qe 6 true (Qm 8))),
(Qa (Qu 28) (Qe 6 true (Qm 9))),
(Qa (Qu 29) (MOp.callv (Qm 26) [(Qm 27), (Qm 28)])),
(Qa (Qu 30) (MOp.not (Qm 29)))]
def f31_c15 : MC := .reg false f31_r15
def f31_r16 : List MO := [
(Qa (Qu 6) (Qc (Qn (Qo (Qp (Qr false))))))]
def f31_c16 : MC := .reg false f31_r16
def f31_c17 : MC := MC.ret
def f31_c18 : MC := .seq f31_c16 f31_c17
def f31_c19 : MC := MC.skip
def f31_c20 : MC := .cond (Qm 30) f31_c18 f31_c19
def f31_c21 : MC := .seq f31_c15 f31_c20
def f31_c22 : MC := .seq f31_c14 f31_c21
def f31_c23 : MC := .seq f31_c13 f31_c22
def f31_c24 : MC := .blk 1 f31_c23
def f31_r25 : List MO := [
(Qa (Qu 31) (Qd Qs Go.BinOp.add (Qm 17) (Qn (Qo (Qp (Qq Qt 1)))))),
(Qa (Qu 17) (Qc (Qm 31)))]
def f31_c25 : MC := .reg false f31_r25
def f31_c26 : MC := .seq f31_c24 f31_c25
def f31_c27 : MC := .seq f31_c12 f31_c26
def f31_c28 : MC := .seq f31_c9 f31_c27
def f31_c29 : MC := .loop f31_c28
def f31_c30 : MC := .blk 0 f31_c29
def f31_c31 : MC := .seq f31_c8 f31_c30
def f31_r32 : List MO := [
(Qa (Qu 6) (Qc (Qn (Qo (Qp (Qr true))))))]
def f31_c32 : MC := .reg false f31_r32
def f31_c33 : MC := MC.ret
def f31_c34 : MC := .seq f31_c32 f31_c33
def f31_c35 : MC := .seq f31_c31 f31_c34
def f31_c36 : MC := .seq f31_c7 f31_c35
def f31_c37 : MC := .seq f31_c0 f31_c36
noncomputable def f31_code : Code := (Go.Proofs.Tryd.f31.body).getD .skip
theorem f31_body : Go.Proofs.Tryd.f31.body = Qu f31_code := by kernel_rfl
theorem f31_tr : trC Go.Proofs.Tryd.prog [] f31_code = Qu f31_c37 := by kernel_rfl
theorem f31_rs : rsOf Go.Proofs.Tryd.prog Go.Proofs.Tryd.f31.results.toList = Qu [(RV.t 6)] := by kernel_rfl
theorem f31_nt : Go.Proofs.Tryd.f31.ntmps = 32 := by kernel_rfl
theorem f31_ok : callable Go.Proofs.Tryd.prog 31 = true := by kernel_rfl
theorem f31_in {gp : Heap} {args : List V} {res : V} (h : G ⟨Go.Proofs.Tryd.prog, gp, 0, [(RV.t 6)], fun r c => r = res ∧ c = [], false⟩ [.code f31_c37, .fin] ⟨args ++ List.replicate (32 - args.length) .un, []⟩) : Does Go.Proofs.Tryd.prog gp 31 args res :=
  does_intro f31_ok Go.Proofs.Tryd.func31 f31_body f31_tr f31_rs (by rw [f31_nt]; exact h)
theorem f31_tri {gp : Heap} {args : List V} {pre : List Ch} {R : V → List Ch → Prop} (h : G ⟨Go.Proofs.Tryd.prog, gp, pre.length, [(RV.t 6)], R, false⟩ [.code f31_c37, .fin] ⟨args ++ List.replicate (32 - args.length) .un, pre⟩) : Tri Go.Proofs.Tryd.prog gp 31 args pre R :=
  tri_intro Go.Proofs.Tryd.func31 f31_body f31_tr f31_rs (by rw [f31_nt]; exact h)

/-! sigillary/arena.isPlace -/
def f33_r0 : List MO := [
(Qa (Qu 2) (MOp.ibox (Qm 0))),
(Qa (Qu 4) (Qc (Qn (Qo (Qp (Qr false))))))]
def f33_c0 : MC := .reg false f33_r0
def f33_r1 : List MO := [
(Qa (Qu 5) (Qc (Qm 1))),
(Qa (Qu 6) (Qd Qs Go.BinOp.geq (Qm 5) (Qn (Qo (Qp (Qq Qt 0)))))),
(Qa (Qu 7) (Qc (Qm 6))),
(Qb 7 true (Qu 8)),
(Qa (Qu 8) (Qc (Qm 1))),
(Qb 7 true (Qu 9)),
(Qa (Qu 9) (Qf 1 (Qm 2))),
(Qb 7 true (Qu 10)),
(Qa (Qu 10) (Qe 1 false (Qm 9))),
(Qb 7 true (Qu 11)),
(Qa (Qu 11) (Qj Qs (Qm 10))),
(Qb 7 true (Qu 12)),
(Qa (Qu 12) (Qd Qs Go.BinOp.lss (Qm 8) (Qm 11))),
(Qa (Qu 13) (Ql (Qm 7) (Qm 12) (Qn (Qo (Qp (Qr false)))))),
(Qa (Qu 4) (Qc (Qm 13)))]
def f33_c1 : MC := .reg false f33_r1
def f33_c2 : MC := MC.ret
def f33_c3 : MC := .seq f33_c1 f33_c2
def f33_c4 : MC := .seq f33_c0 f33_c3
noncomputable def f33_code : Code := (Go.Proofs.Tryd.f33.body).getD .skip
theorem f33_body : Go.Proofs.Tryd.f33.body = Qu f33_code := by kernel_rfl
theorem f33_tr : trC Go.Proofs.Tryd.prog [2] f33_code = Qu f33_c4 := by kernel_rfl
theorem f33_rs : rsOf Go.Proofs.Tryd.prog Go.Proofs.Tryd.f33.results.toList = Qu [(RV.t 4)] := by kernel_rfl
theorem f33_nt : Go.Proofs.Tryd.f33.ntmps = 14 := by kernel_rfl
theorem f33_ok : callable Go.Proofs.Tryd.prog 33 = true := by kernel_rfl
theorem f33_in {gp : Heap} {args : List V} {res : V} (h : G ⟨Go.Proofs.Tryd.prog, gp, 0, [(RV.t 4)], fun r c => r = res ∧ c = [], false⟩ [.code f33_c4, .fin] ⟨args ++ List.replicate (14 - args.length) .un, []⟩) : Does Go.Proofs.Tryd.prog gp 33 args res :=
  does_intro f33_ok Go.Proofs.Tryd.func33 f33_body f33_tr f33_rs (by rw [f33_nt]; exact h)
theorem f33_tri {gp : Heap} {args : List V} {pre : List Ch} {R : V → List Ch → Prop} (h : G ⟨Go.Proofs.Tryd.prog, gp, pre.length, [(RV.t 4)], R, false⟩ [.code f33_c4, .fin] ⟨args ++ List.replicate (14 - args.length) .un, pre⟩) : Tri Go.Proofs.Tryd.prog gp 33 args pre R :=
  tri_intro Go.Proofs.Tryd.func33 f33_body f33_tr f33_rs (by rw [f33_nt]; exact h)

/-! sigillary/arena.views -/
def f34_r0 : List MO := [
(Qa (Qu 1) (MOp.ibox (Qm 0))),
(Qa (Qu 2) (Qc (Qn (Qo (Qp D.nilF)))))]
def f34_c0 : MC := .reg false f34_r0
def f34_r1 : List MO := [
(Qa (Qu 3) (MOp.mkF (Go.Fn.func 45) [(Qm 1)])),
(Qa (Qu 2) (Qc (Qm 3)))]
def f34_c1 : MC := .reg false f34_r1
def f34_c2 : MC := MC.ret
def f34_c3 : MC := .seq f34_c1 f34_c2
def f34_c4 : MC := .seq f34_c0 f34_c3
noncomputable def f34_code : Code := (Go.Proofs.Tryd.f34.body).getD .skip
theorem f34_body : Go.Proofs.Tryd.f34.body = Qu f34_code := by kernel_rfl
theorem f34_tr : trC Go.Proofs.Tryd.prog [1] f34_code = Qu f34_c4 := by kernel_rfl
theorem f34_rs : rsOf Go.Proofs.Tryd.prog Go.Proofs.Tryd.f34.results.toList = Qu [(RV.t 2)] := by kernel_rfl
theorem f34_nt : Go.Proofs.Tryd.f34.ntmps = 4 := by kernel_rfl
theorem f34_ok : callable Go.Proofs.Tryd.prog 34 = true := by kernel_rfl
theorem f34_in {gp : Heap} {args : List V} {res : V} (h : G ⟨Go.Proofs.Tryd.prog, gp, 0, [(RV.t 2)], fun r c => r = res ∧ c = [], false⟩ [.code f34_c4, .fin] ⟨args ++ List.replicate (4 - args.length) .un, []⟩) : Does Go.Proofs.Tryd.prog gp 34 args res :=
  does_intro f34_ok Go.Proofs.Tryd.func34 f34_body f34_tr f34_rs (by rw [f34_nt]; exact h)
theorem f34_tri {gp : Heap} {args : List V} {pre : List Ch} {R : V → List Ch → Prop} (h : G ⟨Go.Proofs.Tryd.prog, gp, pre.length, [(RV.t 2)], R, false⟩ [.code f34_c4, .fin] ⟨args ++ List.replicate (4 - args.length) .un, pre⟩) : Tri Go.Proofs.Tryd.prog gp 34 args pre R :=
  tri_intro Go.Proofs.Tryd.func34 f34_body f34_tr f34_rs (by rw [f34_nt]; exact h)

/-! (sigillary/arena.view).isRight -/
def f35_r0 : List MO := [
(Qa (Qu 1) (MOp.ibox (Qm 0))),
(Qa (Qu 2) (Qc (Qn (Qo (Qp (Qr false))))))]
def f35_c0 : MC := .reg false f35_r0
def f35_r1 : List MO := [
(Qa (Qu 4) (MOp.build [D.nilF, D.nilF, D.nilF] [(0, (1, (Qn (Qo (Qp (D.fn (Go.Fn.func 46) [])))))), (1, (1, (Qn (Qo (Qp (D.fn (Go.Fn.func 47) [])))))), (2, (1, (Qn (Qo (Qp (D.fn (Go.Fn.func 48) []))))))])),
(Qa (Qu 3) (MOp.alloc [D.nilF, D.nilF, D.nilF])),
(Qa none (Qk 3 (Qm 3) (Qm 4)))]
def f35_c1 : MC := .reg false f35_r1
def f35_r2 : List MO := [
(Qa (Qu 5) (Qf 0 (Qm 1))),
(Qa (Qu 6) (Qf 0 (Qm 5))),
(Qa (Qu 7) (Qe 1 false (Qm 6))),
(Qa (Qu 8) (Qd Qs Go.BinOp.geq (Qm 7) (Qn (Qo (Qp (Qq Qt 0)))))),
(Qa (Qu 9) (Qc (Qm 8))),
(Qb 9 true (Qu 10)),
(Qa (Qu 10) (Qf 0 (Qm 1))),
(Qb 9 true (Qu 11)),
(Qa (Qu 11) (Qf 0 (Qm 10))),
(Qb 9 true (Qu 12)),
(Qa (Qu 12) (Qe 1 false (Qm 11))),
(Qb 9 true (Qu 13)),
(Qa (Qu 13) (Qd Qs Go.BinOp.lss (Qm 12) (Qn (Qo (Qp (Qq Qt 3)))))),
(Qa (Qu 14) (Ql (Qm 9) (Qm 13) (Qn (Qo (Qp (Qr false)))))),
(Qa (Qu 15) (Qc (Qm 14))),
(Qb 15 true (Qu 16)),
(Qa (Qu 16) (Qf 0 (Qm 1))),
(Qb 15 true (Qu 17)),
(Qa (Qu 17) (Qf 0 (Qm 16))),
(Qb 15 true (Qu 18)),
(Qa (Qu 18) (Qe 1 false (Qm 17))),
(Qb 15 true (Qu 19)),
(Qa (Qu 19) (MOp.iadA 3 1 (Qm 3) (Qm 18))),
(Qb 15 true (Qu 20)),
(Qa (Qu 20) (Qe 1 false (Qm 19))),
(Qb 15 true (Qu 21)),
(Qa (Qu 21) (Qe 7 true (Qm 1))),
(Qb 15 true (Qu 22)),
(Qa (Qu 22) (MOp.callv (Qm 20) [(Qm 21)])),
(Qa (Qu 23) (Ql (Qm 15) (Qm 22) (Qn (Qo (Qp (Qr false)))))),
(Qa (Qu 2) (Qc (Qm 23)))]
def f35_c2 : MC := .reg true f35_r2
def f35_c3 : MC := MC.ret
def f35_c4 : MC := .seq f35_c2 f35_c3
def f35_c5 : MC := .seq f35_c1 f35_c4
def f35_c6 : MC := .seq f35_c0 f35_c5
noncomputable def f35_code : Code := (Go.Proofs.Tryd.f35.body).getD .skip
theorem f35_body : Go.Proofs.Tryd.f35.body = Qu f35_code := by kernel_rfl
theorem f35_tr : trC Go.Proofs.Tryd.prog [1] f35_code = Qu f35_c6 := by kernel_rfl
theorem f35_rs : rsOf Go.Proofs.Tryd.prog Go.Proofs.Tryd.f35.results.toList = Qu [(RV.t 2)] := by kernel_rfl
theorem f35_nt : Go.Proofs.Tryd.f35.ntmps = 24 := by kernel_rfl
theorem f35_ok : callable Go.Proofs.Tryd.prog 35 = true := by kernel_rfl
theorem f35_in {gp : Heap} {args : List V} {res : V} (h : G ⟨Go.Proofs.Tryd.prog, gp, 0, [(RV.t 2)], fun r c => r = res ∧ c = [], false⟩ [.code f35_c6, .fin] ⟨args ++ List.replicate (24 - args.length) .un, []⟩) : Does Go.Proofs.Tryd.prog gp 35 args res :=
  does_intro f35_ok Go.Proofs.Tryd.func35 f35_body f35_tr f35_rs (by rw [f35_nt]; exact h)
theorem f35_tri {gp : Heap} {args : List V} {pre : List Ch} {R : V → List Ch → Prop} (h : G ⟨Go.Proofs.Tryd.prog, gp, pre.length, [(RV.t 2)], R, false⟩ [.code f35_c6, .fin] ⟨args ++ List.replicate (24 - args.length) .un, pre⟩) : Tri Go.Proofs.Tryd.prog gp 35 args pre R :=
  tri_intro Go.Proofs.Tryd.func35 f35_body f35_tr f35_rs (by rw [f35_nt]; exact h)

/-! (sigillary/arena.view).isPaired -/
def f36_r0 : List MO := [
(Qa (Qu 1) (MOp.ibox (Qm 0))),
(Qa (Qu 2) (Qc (Qn (Qo (Qp (Qr false))))))]
def f36_c0 : MC := .reg false f36_r0
def f36_r1 : List MO := [
(Qa (Qu 3) (Qf 0 (Qm 1))),
(Qa (Qu 4) (Qf 4 (Qm 3))),
(Qa (Qu 5) (Qe 1 false (Qm 4))),
(Qa (Qu 6) (Qj Qs (Qm 5))),
(Qa (Qu 7) (Qf 0 (Qm 1))),
(Qa (Qu 8) (Qf 5 (Qm 7))),
(Qa (Qu 9) (Qe 1 false (Qm 8))),
(Qa (Qu 10) (Qj Qs (Qm 9))),
(Qa (Qu 11) (Qd Qs Go.BinOp.eql (Qm 6) (Qm 10))),
(Qa (Qu 2) (Qc (Qm 11)))]
def f36_c1 : MC := .reg false f36_r1
def f36_c2 : MC := MC.ret
def f36_c3 : MC := .seq f36_c1 f36_c2
def f36_c4 : MC := .seq f36_c0 f36_c3
noncomputable def f36_code : Code := (Go.Proofs.Tryd.f36.body).getD .skip
theorem f36_body : Go.Proofs.Tryd.f36.body = Qu f36_code := by kernel_rfl
theorem f36_tr : trC Go.Proofs.Tryd.prog [1] f36_code = Qu f36_c4 := by kernel_rfl
theorem f36_rs : rsOf Go.Proofs.Tryd.prog Go.Proofs.Tryd.f36.results.toList = Qu [(RV.t 2)] := by kernel_rfl
theorem f36_nt : Go.Proofs.Tryd.f36.ntmps = 12 := by kernel_rfl
theorem f36_ok : callable Go.Proofs.Tryd.prog 36 = true := by kernel_rfl
theorem f36_in {gp : Heap} {args : List V} {res : V} (h : G ⟨Go.Proofs.Tryd.prog, gp, 0, [(RV.t 2)], fun r c => r = res ∧ c = [], false⟩ [.code f36_c4, .fin] ⟨args ++ List.replicate (12 - args.length) .un, []⟩) : Does Go.Proofs.Tryd.prog gp 36 args res :=
  does_intro f36_ok Go.Proofs.Tryd.func36 f36_body f36_tr f36_rs (by rw [f36_nt]; exact h)
theorem f36_tri {gp : Heap} {args : List V} {pre : List Ch} {R : V → List Ch → Prop} (h : G ⟨Go.Proofs.Tryd.prog, gp, pre.length, [(RV.t 2)], R, false⟩ [.code f36_c4, .fin] ⟨args ++ List.replicate (12 - args.length) .un, pre⟩) : Tri Go.Proofs.Tryd.prog gp 36 args pre R :=
  tri_intro Go.Proofs.Tryd.func36 f36_body f36_tr f36_rs (by rw [f36_nt]; exact h)

/-! slices.SortStableFunc[[]sigillary/arena.pair,sigillary/arena.pair] -/
def f37_r0 : List MO := [
(Qa (Qu 4) (Qc (Qm 0))),
(Qa (Qu 5) (Qc (Qm 0))),
(Qa (Qu 6) (Qj Qs (Qm 5))),
(Qa (Qu 7) (Qc (Qm 1))),
(Qa (Qu 8) (Qg 49 [(Qm 4), (Qm 6), (Qm 7)]))]
def f37_c0 : MC := .reg false f37_r0
noncomputable def f37_code : Code := (Go.Proofs.Tryd.f37.body).getD .skip
theorem f37_body : Go.Proofs.Tryd.f37.body = Qu f37_code := by kernel_rfl
theorem f37_tr : trC Go.Proofs.Tryd.prog [] f37_code = Qu f37_c0 := by kernel_rfl
theorem f37_rs : rsOf Go.Proofs.Tryd.prog Go.Proofs.Tryd.f37.results.toList = Qu [] := by kernel_rfl
theorem f37_nt : Go.Proofs.Tryd.f37.ntmps = 9 := by kernel_rfl
theorem f37_ok : callable Go.Proofs.Tryd.prog 37 = true := by kernel_rfl
theorem f37_in {gp : Heap} {args : List V} {res : V} (h : G ⟨Go.Proofs.Tryd.prog, gp, 0, [], fun r c => r = res ∧ c = [], false⟩ [.code f37_c0, .fin] ⟨args ++ List.replicate (9 - args.length) .un, []⟩) : Does Go.Proofs.Tryd.prog gp 37 args res :=
  does_intro f37_ok Go.Proofs.Tryd.func37 f37_body f37_tr f37_rs (by rw [f37_nt]; exact h)
theorem f37_tri {gp : Heap} {args : List V} {pre : List Ch} {R : V → List Ch → Prop} (h : G ⟨Go.Proofs.Tryd.prog, gp, pre.length, [], R, false⟩ [.code f37_c0, .fin] ⟨args ++ List.replicate (9 - args.length) .un, pre⟩) : Tri Go.Proofs.Tryd.prog gp 37 args pre R :=
  tri_intro Go.Proofs.Tryd.func37 f37_body f37_tr f37_rs (by rw [f37_nt]; exact h)

/-! (sigillary/arena.view).pairs$1 -/
def f38_r0 : List MO := [
(Qa (Qu 2) (MOp.ibox (Qm 0))),
(Qa (Qu 3) (MOp.ibox (Qm 1))),
(Qa (Qu 4) (Qc (Qn (Qo (Qp (Qq Qt 0))))))]
def f38_c0 : MC := .reg false f38_r0
def f38_r1 : List MO := [
(Qa (Qu 5) (Qf 0 (Qm 2))),
(Qa (Qu 6) (Qe 3 true (Qm 5))),
(Qa (Qu 7) (Qf 0 (Qm 3))),
(Qa (Qu 8) (Qe 3 true (Qm 7))),
(Qa (Qu 9) (Qg 14 [(Qm 6), (Qm 8)])),
(Qa (Qu 4) (Qc (Qm 9)))]
def f38_c1 : MC := .reg false f38_r1
def f38_c2 : MC := MC.ret
def f38_c3 : MC := .seq f38_c1 f38_c2
def f38_c4 : MC := .seq f38_c0 f38_c3
noncomputable def f38_code : Code := (Go.Proofs.Tryd.f38.body).getD .skip
theorem f38_body : Go.Proofs.Tryd.f38.body = Qu f38_code := by kernel_rfl
theorem f38_tr : trC Go.Proofs.Tryd.prog [2, 3] f38_code = Qu f38_c4 := by kernel_rfl
theorem f38_rs : rsOf Go.Proofs.Tryd.prog Go.Proofs.Tryd.f38.results.toList = Qu [(RV.t 4)] := by kernel_rfl
theorem f38_nt : Go.Proofs.Tryd.f38.ntmps = 10 := by kernel_rfl
theorem f38_ok : callable Go.Proofs.Tryd.prog 38 = true := by kernel_rfl
theorem f38_in {gp : Heap} {args : List V} {res : V} (h : G ⟨Go.Proofs.Tryd.prog, gp, 0, [(RV.t 4)], fun r c => r = res ∧ c = [], false⟩ [.code f38_c4, .fin] ⟨args ++ List.replicate (10 - args.length) .un, []⟩) : Does Go.Proofs.Tryd.prog gp 38 args res :=
  does_intro f38_ok Go.Proofs.Tryd.func38 f38_body f38_tr f38_rs (by rw [f38_nt]; exact h)
theorem f38_tri {gp : Heap} {args : List V} {pre : List Ch} {R : V → List Ch → Prop} (h : G ⟨Go.Proofs.Tryd.prog, gp, pre.length, [(RV.t 4)], R, false⟩ [.code f38_c4, .fin] ⟨args ++ List.replicate (10 - args.length) .un, pre⟩) : Tri Go.Proofs.Tryd.prog gp 38 args pre R :=
  tri_intro Go.Proofs.Tryd.func38 f38_body f38_tr f38_rs (by rw [f38_nt]; exact h)

/-! cmp.isNaN[int] -/
def f39_r0 : List MO := [
(Qa (Qu 2) (Qc (Qn (Qo (Qp (Qr false))))))]
def f39_c0 : MC := .reg false f39_r0
def f39_r1 : List MO := [
(Qa (Qu 3) (Qc (Qm 0))),
(Qa (Qu 4) (Qc (Qm 0))),
(Qa (Qu 5) (Qd Qs Go.BinOp.neq (Qm 3) (Qm 4))),
(Qa (Qu 2) (Qc (Qm 5)))]
def f39_c1 : MC := .reg false f39_r1
def f39_c2 : MC := MC.ret
def f39_c3 : MC := .seq f39_c1 f39_c2
def f39_c4 : MC := .seq f39_c0 f39_c3
noncomputable def f39_code : Code := (Go.Proofs.Tryd.f39.body).getD .skip
theorem f39_body : Go.Proofs.Tryd.f39.body = Qu f39_code := by kernel_rfl
theorem f39_tr : trC Go.Proofs.Tryd.prog [] f39_code = Qu f39_c4 := by kernel_rfl
theorem f39_rs : rsOf Go.Proofs.Tryd.prog Go.Proofs.Tryd.f39.results.toList = Qu [(RV.t 2)] := by kernel_rfl
theorem f39_nt : Go.Proofs.Tryd.f39.ntmps = 6 := by kernel_rfl
theorem f39_ok : callable Go.Proofs.Tryd.prog 39 = true := by kernel_rfl
theorem f39_in {gp : Heap} {args : List V} {res : V} (h : G ⟨Go.Proofs.Tryd.prog, gp, 0, [(RV.t 2)], fun r c => r = res ∧ c = [], false⟩ [.code f39_c4, .fin] ⟨args ++ List.replicate (6 - args.length) .un, []⟩) : Does Go.Proofs.Tryd.prog gp 39 args res :=
  does_intro f39_ok Go.Proofs.Tryd.func39 f39_body f39_tr f39_rs (by rw [f39_nt]; exact h)
theorem f39_tri {gp : Heap} {args : List V} {pre : List Ch} {R : V → List Ch → Prop} (h : G ⟨Go.Proofs.Tryd.prog, gp, pre.length, [(RV.t 2)], R, false⟩ [.code f39_c4, .fin] ⟨args ++ List.replicate (6 - args.length) .un, pre⟩) : Tri Go.Proofs.Tryd.prog gp 39 args pre R :=
  tri_intro Go.Proofs.Tryd.func39 f39_body f39_tr f39_rs (by rw [f39_nt]; exact h)

/-! cmp.isNaN[string] -/
def f40_r0 : List MO := [
(Qa (Qu 2) (Qc (Qn (Qo (Qp (Qr false))))))]
def f40_c0 : MC := .reg false f40_r0
def f40_r1 : List MO := [
(Qa (Qu 3) (Qc (Qm 0))),
(Qa (Qu 4) (Qc (Qm 0))),
(Qa (Qu 5) (Qd Leaf.s Go.BinOp.neq (Qm 3) (Qm 4))),
(Qa (Qu 2) (Qc (Qm 5)))]
def f40_c1 : MC := .reg false f40_r1
def f40_c2 : MC := MC.ret
def f40_c3 : MC := .seq f40_c1 f40_c2
def f40_c4 : MC := .seq f40_c0 f40_c3
noncomputable def f40_code : Code := (Go.Proofs.Tryd.f40.body).getD .skip
theorem f40_body : Go.Proofs.Tryd.f40.body = Qu f40_code := by kernel_rfl
theorem f40_tr : trC Go.Proofs.Tryd.prog [] f40_code = Qu f40_c4 := by kernel_rfl
theorem f40_rs : rsOf Go.Proofs.Tryd.prog Go.Proofs.Tryd.f40.results.toList = Qu [(RV.t 2)] := by kernel_rfl
theorem f40_nt : Go.Proofs.Tryd.f40.ntmps = 6 := by kernel_rfl
theorem f40_ok : callable Go.Proofs.Tryd.prog 40 = true := by kernel_rfl
theorem f40_in {gp : Heap} {args : List V} {res : V} (h : G ⟨Go.Proofs.Tryd.prog, gp, 0, [(RV.t 2)], fun r c => r = res ∧ c = [], false⟩ [.code f40_c4, .fin] ⟨args ++ List.replicate (6 - args.length) .un, []⟩) : Does Go.Proofs.Tryd.prog gp 40 args res :=
  does_intro f40_ok Go.Proofs.Tryd.func40 f40_body f40_tr f40_rs (by rw [f40_nt]; exact h)
theorem f40_tri {gp : Heap} {args : List V} {pre : List Ch} {R : V → List Ch → Prop} (h : G ⟨Go.Proofs.Tryd.prog, gp, pre.length, [(RV.t 2)], R, false⟩ [.code f40_c4, .fin] ⟨args ++ List.replicate (6 - args.length) .un, pre⟩) : Tri Go.Proofs.Tryd.prog gp 40 args pre R :=
  tri_intro Go.Proofs.Tryd.func40 f40_body f40_tr f40_rs (by rw [f40_nt]; exact h)

/-! sigillary/arena.views$1 -/
def f45_c0 : MC := MC.skip
def f45_r1 : List MO := [
(Qa (Qu 5) (Qf 1 (Qm 1))),
(Qa (Qu 6) (Qe 1 false (Qm 5))),
(Qa (Qu 7) (Qj Qs (Qm 6))),
(Qa (Qu 8) (Qc (Qn (Qo (Qp (Qq Qt 0))))))]
def f45_c1 : MC := .reg false f45_r1
def f45_r2 : List MO := [
(Qa (Qu 9) (Qd Qs Go.BinOp.lss (Qm 8) (Qm 7)))]
def f45_c2 : MC := .reg false f45_r2
def f45_c3 : MC := MC.skip
def f45_c4 : MC := (MC.exit 0)
def f45_c5 : MC := .cond (Qm 9) f45_c3 f45_c4
def f45_r6 : List MO := [
(Qa (Qu 10) (Qc (Qm 8))),
(Qa (Qu 11) (Qi 6 (Qm 6) (Qm 8))),
(Qa (Qu 12) (Qe 6 true (Qm 11))),
(Qa (Qu 4) (MOp.alloc [(Qq Qt 0), (Qq Qt 0), (Qq Qt 0), (D.str (ByteArray.mk #[])), (D.sl []), (D.sl [])])),
(Qa (Qu 3) (Qc (Qm 10))),
(Qa none (Qk 6 (Qm 4) (Qm 12)))]
def f45_c6 : MC := .reg false f45_r6
def f45_r7 : List MO := [
(Qa (Qu 13) (Qc (Qm 0))),
(Qa (Qu 14) (Qc (Qm 3))),
(Qa (Qu 15) (Qe 6 true (Qm 4))),
(Qa (Qu 16) (Qf 1 (Qm 1))),
(Qa (Qu 17) (Qe 1 false (Qm 16))),
(Qa (Qu 18) (Qj Qs (Qm 17))),
(Qa (Qu 19) (MOp.build [(Qq Qt 0), (Qq Qt 0), (Qq Qt 0), (D.str (ByteArray.mk #[])), (D.sl []), (D.sl []), (Qq Qt 0)] [(0, (6, (Qm 15))), (6, (1, (Qm 18)))])),
(Qa (Qu 20) (MOp.callv (Qm 13) [(Qm 14), (Qm 19)])),
(Qa (Qu 21) (MOp.not (Qm 20)))]
def f45_c7 : MC := .reg false f45_r7
def f45_c8 : MC := (MC.exit 0)
def f45_c9 : MC := MC.skip
def f45_c10 : MC := .cond (Qm 21) f45_c8 f45_c9
def f45_c11 : MC := .seq f45_c7 f45_c10
def f45_c12 : MC := .seq f45_c6 f45_c11
def f45_c13 : MC := .blk 1 f45_c12
def f45_r14 : List MO := [
(Qa (Qu 22) (Qd Qs Go.BinOp.add (Qm 8) (Qn (Qo (Qp (Qq Qt 1)))))),
(Qa (Qu 8) (Qc (Qm 22)))]
def f45_c14 : MC := .reg false f45_r14
def f45_c15 : MC := .seq f45_c13 f45_c14
def f45_c16 : MC := .seq f45_c5 f45_c15
def f45_c17 : MC := .seq f45_c2 f45_c16
def f45_c18 : MC := .loop f45_c17
def f45_c19 : MC := .blk 0 f45_c18
def f45_c20 : MC := .seq f45_c1 f45_c19
def f45_c21 : MC := .seq f45_c0 f45_c20
def f45_c22 : MC := .scope f45_c21
noncomputable def f45_code : Code := (Go.Proofs.Tryd.f45.body).getD .skip
theorem f45_body : Go.Proofs.Tryd.f45.body = Qu f45_code := by kernel_rfl
theorem f45_tr : trC Go.Proofs.Tryd.prog [] f45_code = Qu f45_c22 := by kernel_rfl
theorem f45_rs : rsOf Go.Proofs.Tryd.prog Go.Proofs.Tryd.f45.results.toList = Qu [] := by kernel_rfl
theorem f45_nt : Go.Proofs.Tryd.f45.ntmps = 23 := by kernel_rfl
theorem f45_ok : callable Go.Proofs.Tryd.prog 45 = true := by kernel_rfl
theorem f45_in {gp : Heap} {args : List V} {res : V} (h : G ⟨Go.Proofs.Tryd.prog, gp, 0, [], fun r c => r = res ∧ c = [], false⟩ [.code f45_c22, .fin] ⟨args ++ List.replicate (23 - args.length) .un, []⟩) : Does Go.Proofs.Tryd.prog gp 45 args res :=
  does_intro f45_ok Go.Proofs.Tryd.func45 f45_body f45_tr f45_rs (by rw [f45_nt]; exact h)
theorem f45_tri {gp : Heap} {args : List V} {pre : List Ch} {R : V → List Ch → Prop} (h : G ⟨Go.Proofs.Tryd.prog, gp, pre.length, [], R, false⟩ [.code f45_c22, .fin] ⟨args ++ List.replicate (23 - args.length) .un, pre⟩) : Tri Go.Proofs.Tryd.prog gp 45 args pre R :=
  tri_intro Go.Proofs.Tryd.func45 f45_body f45_tr f45_rs (by rw [f45_nt]; exact h)

/-! (sigillary/arena.view).isOne -/
def f46_r0 : List MO := [
(Qa (Qu 1) (MOp.ibox (Qm 0))),
(Qa (Qu 2) (Qc (Qn (Qo (Qp (Qr false))))))]
def f46_c0 : MC := .reg false f46_r0
def f46_r1 : List MO := [
(Qa (Qu 3) (Qf 0 (Qm 1))),
(Qa (Qu 4) (Qf 1 (Qm 3))),
(Qa (Qu 5) (Qe 3 true (Qm 4))),
(Qa (Qu 6) (Qg 54 [(Qm 5)])),
(Qa (Qu 7) (Qf 0 (Qm 1))),
(Qa (Qu 8) (Qf 4 (Qm 7))),
(Qa (Qu 9) (Qe 1 false (Qm 8))),
(Qa (Qu 10) (Qj Qs (Qm 9))),
(Qa (Qu 11) (Qd Qs Go.BinOp.eql (Qm 10) (Qn (Qo (Qp (Qq Qt 0)))))),
(Qa (Qu 12) (Qf 0 (Qm 1))),
(Qa (Qu 13) (Qf 5 (Qm 12))),
(Qa (Qu 14) (Qe 1 false (Qm 13))),
(Qa (Qu 15) (Qj Qs (Qm 14))),
(Qa (Qu 16) (Qd Qs Go.BinOp.eql (Qm 15) (Qn (Qo (Qp (Qq Qt 0)))))),
(Qa (Qu 17) (MOp.bslice 1 [(Qr false)] 3 [(0, (Qm 6)), (1, (Qm 11)), (2, (Qm 16))])),
(Qa (Qu 18) (Qg 53 [(Qm 17)])),
(Qa (Qu 2) (Qc (Qm 18)))]
def f46_c1 : MC := .reg true f46_r1
def f46_c2 : MC := MC.ret
def f46_c3 : MC := .seq f46_c1 f46_c2
def f46_c4 : MC := .seq f46_c0 f46_c3
noncomputable def f46_code : Code := (Go.Proofs.Tryd.f46.body).getD .skip
theorem f46_body : Go.Proofs.Tryd.f46.body = Qu f46_code := by kernel_rfl
theorem f46_tr : trC Go.Proofs.Tryd.prog [1] f46_code = Qu f46_c4 := by kernel_rfl
theorem f46_rs : rsOf Go.Proofs.Tryd.prog Go.Proofs.Tryd.f46.results.toList = Qu [(RV.t 2)] := by kernel_rfl
theorem f46_nt : Go.Proofs.Tryd.f46.ntmps = 19 := by kernel_rfl
theorem f46_ok : callable Go.Proofs.Tryd.prog 46 = true := by kernel_rfl
theorem f46_in {gp : Heap} {args : List V} {res : V} (h : G ⟨Go.Proofs.Tryd.prog, gp, 0, [(RV.t 2)], fun r c => r = res ∧ c = [], false⟩ [.code f46_c4, .fin] ⟨args ++ List.replicate (19 - args.length) .un, []⟩) : Does Go.Proofs.Tryd.prog gp 46 args res :=
  does_intro f46_ok Go.Proofs.Tryd.func46 f46_body f46_tr f46_rs (by rw [f46_nt]; exact h)
theorem f46_tri {gp : Heap} {args : List V} {pre : List Ch} {R : V → List Ch → Prop} (h : G ⟨Go.Proofs.Tryd.prog, gp, pre.length, [(RV.t 2)], R, false⟩ [.code f46_c4, .fin] ⟨args ++ List.replicate (19 - args.length) .un, pre⟩) : Tri Go.Proofs.Tryd.prog gp 46 args pre R :=
  tri_intro Go.Proofs.Tryd.func46 f46_body f46_tr f46_rs (by rw [f46_nt]; exact h)

/-! (sigillary/arena.view).isSeq -/
def f47_r0 : List MO := [
(Qa (Qu 1) (MOp.ibox (Qm 0))),
(Qa (Qu 2) (Qc (Qn (Qo (Qp (Qr false))))))]
def f47_c0 : MC := .reg false f47_r0
def f47_r1 : List MO := [
(Qa (Qu 3) (Qf 0 (Qm 1))),
(Qa (Qu 4) (Qf 1 (Qm 3))),
(Qa (Qu 5) (Qe 3 true (Qm 4))),
(Qa (Qu 6) (MOp.build [(Qq Qt 0), (Qq Qt 0), (D.str (ByteArray.mk #[]))] [])),
(Qa (Qu 7) (MOp.eqs false [Qs, Qs, Leaf.s] (Qm 5) (Qm 6))),
(Qa (Qu 8) (Qf 0 (Qm 1))),
(Qa (Qu 9) (Qf 4 (Qm 8))),
(Qa (Qu 10) (Qe 1 false (Qm 9))),
(Qa (Qu 11) (Qj Qs (Qm 10))),
(Qa (Qu 12) (Qd Qs Go.BinOp.eql (Qm 11) (Qn (Qo (Qp (Qq Qt 0)))))),
(Qa (Qu 13) (Qe 7 true (Qm 1))),
(Qa (Qu 14) (Qg 55 [(Qm 13)])),
(Qa (Qu 15) (MOp.bslice 1 [(Qr false)] 3 [(0, (Qm 7)), (1, (Qm 12)), (2, (Qm 14))])),
(Qa (Qu 16) (Qg 53 [(Qm 15)])),
(Qa (Qu 2) (Qc (Qm 16)))]
def f47_c1 : MC := .reg true f47_r1
def f47_c2 : MC := MC.ret
def f47_c3 : MC := .seq f47_c1 f47_c2
def f47_c4 : MC := .seq f47_c0 f47_c3
noncomputable def f47_code : Code := (Go.Proofs.Tryd.f47.body).getD .skip
theorem f47_body : Go.Proofs.Tryd.f47.body = Qu f47_code := by kernel_rfl
theorem f47_tr : trC Go.Proofs.Tryd.prog [1] f47_code = Qu f47_c4 := by kernel_rfl
theorem f47_rs : rsOf Go.Proofs.Tryd.prog Go.Proofs.Tryd.f47.results.toList = Qu [(RV.t 2)] := by kernel_rfl
theorem f47_nt : Go.Proofs.Tryd.f47.ntmps = 17 := by kernel_rfl
theorem f47_ok : callable Go.Proofs.Tryd.prog 47 = true := by kernel_rfl
theorem f47_in {gp : Heap} {args : List V} {res : V} (h : G ⟨Go.Proofs.Tryd.prog, gp, 0, [(RV.t 2)], fun r c => r = res ∧ c = [], false⟩ [.code f47_c4, .fin] ⟨args ++ List.replicate (17 - args.length) .un, []⟩) : Does Go.Proofs.Tryd.prog gp 47 args res :=
  does_intro f47_ok Go.Proofs.Tryd.func47 f47_body f47_tr f47_rs (by rw [f47_nt]; exact h)
theorem f47_tri {gp : Heap} {args : List V} {pre : List Ch} {R : V → List Ch → Prop} (h : G ⟨Go.Proofs.Tryd.prog, gp, pre.length, [(RV.t 2)], R, false⟩ [.code f47_c4, .fin] ⟨args ++ List.replicate (17 - args.length) .un, pre⟩) : Tri Go.Proofs.Tryd.prog gp 47 args pre R :=
  tri_intro Go.Proofs.Tryd.func47 f47_body f47_tr f47_rs (by rw [f47_nt]; exact h)

/-! (sigillary/arena.view).isMap -/
def f48_r0 : List MO := [
(Qa (Qu 1) (MOp.ibox (Qm 0))),
(Qa (Qu 2) (Qc (Qn (Qo (Qp (Qr false))))))]
def f48_c0 : MC := .reg false f48_r0
def f48_r1 : List MO := [
(Qa (Qu 3) (Qf 0 (Qm 1))),
(Qa (Qu 4) (Qf 1 (Qm 3))),
(Qa (Qu 5) (Qe 3 true (Qm 4))),
(Qa (Qu 6) (MOp.build [(Qq Qt 0), (Qq Qt 0), (D.str (ByteArray.mk #[]))] [])),
(Qa (Qu 7) (MOp.eqs false [Qs, Qs, Leaf.s] (Qm 5) (Qm 6))),
(Qa (Qu 8) (Qe 7 true (Qm 1))),
(Qa (Qu 9) (Qg 36 [(Qm 8)])),
(Qa (Qu 10) (Qe 7 true (Qm 1))),
(Qa (Qu 11) (Qg 56 [(Qm 10)])),
(Qa (Qu 12) (Qe 7 true (Qm 1))),
(Qa (Qu 13) (Qg 55 [(Qm 12)])),
(Qa (Qu 14) (MOp.bslice 1 [(Qr false)] 4 [(0, (Qm 7)), (1, (Qm 9)), (2, (Qm 11)), (3, (Qm 13))])),
(Qa (Qu 15) (Qg 53 [(Qm 14)])),
(Qa (Qu 2) (Qc (Qm 15)))]
def f48_c1 : MC := .reg true f48_r1
def f48_c2 : MC := MC.ret
def f48_c3 : MC := .seq f48_c1 f48_c2
def f48_c4 : MC := .seq f48_c0 f48_c3
noncomputable def f48_code : Code := (Go.Proofs.Tryd.f48.body).getD .skip
theorem f48_body : Go.Proofs.Tryd.f48.body = Qu f48_code := by kernel_rfl
theorem f48_tr : trC Go.Proofs.Tryd.prog [1] f48_code = Qu f48_c4 := by kernel_rfl
theorem f48_rs : rsOf Go.Proofs.Tryd.prog Go.Proofs.Tryd.f48.results.toList = Qu [(RV.t 2)] := by kernel_rfl
theorem f48_nt : Go.Proofs.Tryd.f48.ntmps = 16 := by kernel_rfl
theorem f48_ok : callable Go.Proofs.Tryd.prog 48 = true := by kernel_rfl
theorem f48_in {gp : Heap} {args : List V} {res : V} (h : G ⟨Go.Proofs.Tryd.prog, gp, 0, [(RV.t 2)], fun r c => r = res ∧ c = [], false⟩ [.code f48_c4, .fin] ⟨args ++ List.replicate (16 - args.length) .un, []⟩) : Does Go.Proofs.Tryd.prog gp 48 args res :=
  does_intro f48_ok Go.Proofs.Tryd.func48 f48_body f48_tr f48_rs (by rw [f48_nt]; exact h)
theorem f48_tri {gp : Heap} {args : List V} {pre : List Ch} {R : V → List Ch → Prop} (h : G ⟨Go.Proofs.Tryd.prog, gp, pre.length, [(RV.t 2)], R, false⟩ [.code f48_c4, .fin] ⟨args ++ List.replicate (16 - args.length) .un, pre⟩) : Tri Go.Proofs.Tryd.prog gp 48 args pre R :=
  tri_intro Go.Proofs.Tryd.func48 f48_body f48_tr f48_rs (by rw [f48_nt]; exact h)

/-! slices.stableCmpFunc[sigillary/arena.pair] -/
def f49_r0 : List MO := [
(Qa (Qu 6) (Qc (Qn (Qo (Qp (Qq Qt 20))))))]
def f49_c0 : MC := .reg false f49_r0
def f49_r1 : List MO := [
(Qa (Qu 10) (Qc (Qm 6))),
(Qa (Qu 7) (Qc (Qn (Qo (Qp (Qq Qt 0)))))),
(Qa (Qu 8) (Qc (Qm 10)))]
def f49_c1 : MC := .reg false f49_r1
def f49_r2 : List MO := [
(Qa (Qu 11) (Qc (Qm 8))),
(Qa (Qu 12) (Qc (Qm 1))),
(Qa (Qu 13) (Qd Qs Go.BinOp.leq (Qm 11) (Qm 12)))]
def f49_c2 : MC := .reg false f49_r2
def f49_c3 : MC := MC.skip
def f49_c4 : MC := (MC.exit 0)
def f49_c5 : MC := .cond (Qm 13) f49_c3 f49_c4
def f49_c6 : MC := .seq f49_c2 f49_c5
def f49_r7 : List MO := [
(Qa (Qu 14) (Qc (Qm 0))),
(Qa (Qu 15) (Qc (Qm 7))),
(Qa (Qu 16) (Qc (Qm 8))),
(Qa (Qu 17) (Qc (Qm 2))),
(Qa (Qu 18) (Qg 57 [(Qm 14), (Qm 15), (Qm 16), (Qm 17)]))]
def f49_c7 : MC := .reg false f49_r7
def f49_r8 : List MO := [
(Qa (Qu 19) (Qc (Qm 8))),
(Qa (Qu 7) (Qc (Qm 19)))]
def f49_c8 : MC := .reg false f49_r8
def f49_r9 : List MO := [
(Qa (Qu 20) (Qc (Qm 8))),
(Qa (Qu 21) (Qc (Qm 6))),
(Qa (Qu 22) (Qd Qs Go.BinOp.add (Qm 20) (Qm 21))),
(Qa (Qu 8) (Qc (Qm 22)))]
def f49_c9 : MC := .reg false f49_r9
def f49_c10 : MC := .seq f49_c8 f49_c9
def f49_c11 : MC := .seq f49_c7 f49_c10
def f49_c12 : MC := .blk 1 f49_c11
def f49_c13 : MC := .seq f49_c6 f49_c12
def f49_c14 : MC := .loop f49_c13
def f49_c15 : MC := .blk 0 f49_c14
def f49_r16 : List MO := [
(Qa (Qu 23) (Qc (Qm 0))),
(Qa (Qu 24) (Qc (Qm 7))),
(Qa (Qu 25) (Qc (Qm 1))),
(Qa (Qu 26) (Qc (Qm 2))),
(Qa (Qu 27) (Qg 57 [(Qm 23), (Qm 24), (Qm 25), (Qm 26)]))]
def f49_c16 : MC := .reg false f49_r16
def f49_r17 : List MO := [
(Qa (Qu 28) (Qc (Qm 6))),
(Qa (Qu 29) (Qc (Qm 1))),
(Qa (Qu 30) (Qd Qs Go.BinOp.lss (Qm 28) (Qm 29)))]
def f49_c17 : MC := .reg false f49_r17
def f49_c18 : MC := MC.skip
def f49_c19 : MC := (MC.exit 2)
def f49_c20 : MC := .cond (Qm 30) f49_c18 f49_c19
def f49_c21 : MC := .seq f49_c17 f49_c20
def f49_r22 : List MO := [
(Qa (Qu 31) (Qc (Qm 6))),
(Qa (Qu 32) (Qd Qs Go.BinOp.mul (Qn (Qo (Qp (Qq Qt 2)))) (Qm 31))),
(Qa (Qu 7) (Qc (Qn (Qo (Qp (Qq Qt 0)))))),
(Qa (Qu 8) (Qc (Qm 32)))]
def f49_c22 : MC := .reg false f49_r22
def f49_r23 : List MO := [
(Qa (Qu 33) (Qc (Qm 8))),
(Qa (Qu 34) (Qc (Qm 1))),
(Qa (Qu 35) (Qd Qs Go.BinOp.leq (Qm 33) (Qm 34)))]
def f49_c23 : MC := .reg false f49_r23
def f49_c24 : MC := MC.skip
def f49_c25 : MC := (MC.exit 4)
def f49_c26 : MC := .cond (Qm 35) f49_c24 f49_c25
def f49_c27 : MC := .seq f49_c23 f49_c26
def f49_r28 : List MO := [
(Qa (Qu 36) (Qc (Qm 0))),
(Qa (Qu 37) (Qc (Qm 7))),
(Qa (Qu 38) (Qc (Qm 7))),
(Qa (Qu 39) (Qc (Qm 6))),
(Qa (Qu 40) (Qd Qs Go.BinOp.add (Qm 38) (Qm 39))),
(Qa (Qu 41) (Qc (Qm 8))),
(Qa (Qu 42) (Qc (Qm 2))),
(Qa (Qu 43) (Qg 58 [(Qm 36), (Qm 37), (Qm 40), (Qm 41), (Qm 42)]))]
def f49_c28 : MC := .reg false f49_r28
def f49_r29 : List MO := [
(Qa (Qu 44) (Qc (Qm 8))),
(Qa (Qu 7) (Qc (Qm 44)))]
def f49_c29 : MC := .reg false f49_r29
def f49_r30 : List MO := [
(Qa (Qu 45) (Qc (Qm 8))),
(Qa (Qu 46) (Qc (Qm 6))),
(Qa (Qu 47) (Qd Qs Go.BinOp.mul (Qn (Qo (Qp (Qq Qt 2)))) (Qm 46))),
(Qa (Qu 48) (Qd Qs Go.BinOp.add (Qm 45) (Qm 47))),
(Qa (Qu 8) (Qc (Qm 48)))]
def f49_c30 : MC := .reg false f49_r30
def f49_c31 : MC := .seq f49_c29 f49_c30
def f49_c32 : MC := .seq f49_c28 f49_c31
def f49_c33 : MC := .blk 5 f49_c32
def f49_c34 : MC := .seq f49_c27 f49_c33
def f49_c35 : MC := .loop f49_c34
def f49_c36 : MC := .blk 4 f49_c35
def f49_r37 : List MO := [
(Qa (Qu 49) (Qc (Qm 7))),
(Qa (Qu 50) (Qc (Qm 6))),
(Qa (Qu 51) (Qd Qs Go.BinOp.add (Qm 49) (Qm 50))),
(Qa (Qu 9) (Qc (Qm 51)))]
def f49_c37 : MC := .reg false f49_r37
def f49_r38 : List MO := [
(Qa (Qu 52) (Qc (Qm 9))),
(Qa (Qu 53) (Qc (Qm 1))),
(Qa (Qu 54) (Qd Qs Go.BinOp.lss (Qm 52) (Qm 53)))]
def f49_c38 : MC := .reg false f49_r38
def f49_r39 : List MO := [
(Qa (Qu 55) (Qc (Qm 0))),
(Qa (Qu 56) (Qc (Qm 7))),
(Qa (Qu 57) (Qc (Qm 9))),
(Qa (Qu 58) (Qc (Qm 1))),
(Qa (Qu 59) (Qc (Qm 2))),
(Qa (Qu 60) (Qg 58 [(Qm 55), (Qm 56), (Qm 57), (Qm 58), (Qm 59)]))]
def f49_c39 : MC := .reg false f49_r39
def f49_c40 : MC := MC.skip
def f49_c41 : MC := .cond (Qm 54) f49_c39 f49_c40
def f49_c42 : MC := .seq f49_c38 f49_c41
def f49_c43 : MC := .seq f49_c37 f49_c42
def f49_r44 : List MO := [
(Qa (Qu 61) (Qc (Qm 6))),
(Qa (Qu 62) (Qd Qs Go.BinOp.mul (Qm 61) (Qn (Qo (Qp (Qq Qt 2)))))),
(Qa (Qu 6) (Qc (Qm 62)))]
def f49_c44 : MC := .reg false f49_r44
def f49_c45 : MC := .seq f49_c43 f49_c44
def f49_c46 : MC := .seq f49_c36 f49_c45
def f49_c47 : MC := .seq f49_c22 f49_c46
def f49_c48 : MC := .blk 3 f49_c47
def f49_c49 : MC := .seq f49_c21 f49_c48
def f49_c50 : MC := .loop f49_c49
def f49_c51 : MC := .blk 2 f49_c50
def f49_c52 : MC := .seq f49_c16 f49_c51
def f49_c53 : MC := .seq f49_c15 f49_c52
def f49_c54 : MC := .seq f49_c1 f49_c53
def f49_c55 : MC := .seq f49_c0 f49_c54
noncomputable def f49_code : Code := (Go.Proofs.Tryd.f49.body).getD .skip
theorem f49_body : Go.Proofs.Tryd.f49.body = Qu f49_code := by kernel_rfl
theorem f49_tr : trC Go.Proofs.Tryd.prog [] f49_code = Qu f49_c55 := by kernel_rfl
theorem f49_rs : rsOf Go.Proofs.Tryd.prog Go.Proofs.Tryd.f49.results.toList = Qu [] := by kernel_rfl
theorem f49_nt : Go.Proofs.Tryd.f49.ntmps = 63 := by kernel_rfl
theorem f49_ok : callable Go.Proofs.Tryd.prog 49 = true := by kernel_rfl
theorem f49_in {gp : Heap} {args : List V} {res : V} (h : G ⟨Go.Proofs.Tryd.prog, gp, 0, [], fun r c => r = res ∧ c = [], false⟩ [.code f49_c55, .fin] ⟨args ++ List.replicate (63 - args.length) .un, []⟩) : Does Go.Proofs.Tryd.prog gp 49 args res :=
  does_intro f49_ok Go.Proofs.Tryd.func49 f49_body f49_tr f49_rs (by rw [f49_nt]; exact h)
theorem f49_tri {gp : Heap} {args : List V} {pre : List Ch} {R : V → List Ch → Prop} (h : G ⟨Go.Proofs.Tryd.prog, gp, pre.length, [], R, false⟩ [.code f49_c55, .fin] ⟨args ++ List.replicate (63 - args.length) .un, pre⟩) : Tri Go.Proofs.Tryd.prog gp 49 args pre R :=
  tri_intro Go.Proofs.Tryd.func49 f49_body f49_tr f49_rs (by rw [f49_nt]; exact h)

/-! sigillary/arena.areAll -/
def f53_r0 : List MO := [
(Qa (Qu 2) (Qc (Qn (Qo (Qp (Qr false))))))]
def f53_c0 : MC := .reg false f53_r0
def f53_r1 : List MO := [
(Qa (Qu 3) (Qc (Qm 0))),
(Qa (Qu 4) (Qg 59 [(Qm 3), (Qn (Qo (Qp (Qr false))))])),
(Qa (Qu 5) (MOp.not (Qm 4))),
(Qa (Qu 2) (Qc (Qm 5)))]
def f53_c1 : MC := .reg false f53_r1
def f53_c2 : MC := MC.ret
def f53_c3 : MC := .seq f53_c1 f53_c2
def f53_c4 : MC := .seq f53_c0 f53_c3
noncomputable def f53_code : Code := (Go.Proofs.Tryd.f53.body).getD .skip
theorem f53_body : Go.Proofs.Tryd.f53.body = Qu f53_code := by kernel_rfl
theorem f53_tr : trC Go.Proofs.Tryd.prog [] f53_code = Qu f53_c4 := by kernel_rfl
theorem f53_rs : rsOf Go.Proofs.Tryd.prog Go.Proofs.Tryd.f53.results.toList = Qu [(RV.t 2)] := by kernel_rfl
theorem f53_nt : Go.Proofs.Tryd.f53.ntmps = 6 := by kernel_rfl
theorem f53_ok : callable Go.Proofs.Tryd.prog 53 = true := by kernel_rfl
theorem f53_in {gp : Heap} {args : List V} {res : V} (h : G ⟨Go.Proofs.Tryd.prog, gp, 0, [(RV.t 2)], fun r c => r = res ∧ c = [], false⟩ [.code f53_c4, .fin] ⟨args ++ List.replicate (6 - args.length) .un, []⟩) : Does Go.Proofs.Tryd.prog gp 53 args res :=
  does_intro f53_ok Go.Proofs.Tryd.func53 f53_body f53_tr f53_rs (by rw [f53_nt]; exact h)
theorem f53_tri {gp : Heap} {args : List V} {pre : List Ch} {R : V → List Ch → Prop} (h : G ⟨Go.Proofs.Tryd.prog, gp, pre.length, [(RV.t 2)], R, false⟩ [.code f53_c4, .fin] ⟨args ++ List.replicate (6 - args.length) .un, pre⟩) : Tri Go.Proofs.Tryd.prog gp 53 args pre R :=
  tri_intro Go.Proofs.Tryd.func53 f53_body f53_tr f53_rs (by rw [f53_nt]; exact h)

/-! sigillary/plain.Right -/
def f54_r0 : List MO := [
(Qa (Qu 1) (MOp.ibox (Qm 0))),
(Qa (Qu 2) (Qc (Qn (Qo (Qp (Qr false))))))]
def f54_c0 : MC := .reg false f54_r0
def f54_r1 : List MO := [
(Qa (Qu 3) (Qf 0 (Qm 1))),
(Qa (Qu 4) (Qe 1 false (Qm 3)))]
def f54_c1 : MC := .reg false f54_r1
def f54_r2 : List MO := [
(Qa (Qu 6) (Qd Qs Go.BinOp.eql (Qm 4) (Qn (Qo (Qp (Qq Qt 0)))))),
(Qa (Qu 5) (Qc (Qm 6)))]
def f54_c2 : MC := .reg false f54_r2
def f54_r3 : List MO := [
(Qa (Qu 7) (Qe 3 true (Qm 1))),
(Qa (Qu 8) (MOp.build [(Qq Qt 0), (Qq Qt 0), (D.str (ByteArray.mk #[]))] [])),
(Qa (Qu 9) (MOp.eqs false [Qs, Qs, Leaf.s] (Qm 7) (Qm 8))),
(Qa (Qu 2) (Qc (Qm 9)))]
def f54_c3 : MC := .reg false f54_r3
def f54_c4 : MC := MC.ret
def f54_c5 : MC := .seq f54_c3 f54_c4
def f54_r6 : List MO := [
(Qa (Qu 11) (Qd Qs Go.BinOp.eql (Qm 4) (Qn (Qo (Qp (Qq Qt 1)))))),
(Qa (Qu 10) (Qc (Qm 11)))]
def f54_c6 : MC := .reg false f54_r6
def f54_r7 : List MO := [
(Qa (Qu 12) (Qf 2 (Qm 1))),
(Qa (Qu 13) (Qe 1 false (Qm 12))),
(Qa (Qu 14) (Qd Leaf.s Go.BinOp.eql (Qm 13) (Qn (Qo (Qp (D.str (ByteArray.mk #[]))))))),
(Qa (Qu 15) (Qc (Qm 14))),
(Qb 15 true (Qu 16)),
(Qa (Qu 16) (Qf 1 (Qm 1))),
(Qb 15 true (Qu 17)),
(Qa (Qu 17) (Qe 1 false (Qm 16))),
(Qb 15 true (Qu 18)),
(Qa (Qu 18) (Qd Qs Go.BinOp.eql (Qm 17) (Qn (Qo (Qp (Qq Qt 0)))))),
(Qb 15 true (Qu 19)),
(Qa (Qu 19) (Qc (Qm 18))),
(Qb 19 false (Qu 20)),
(Qa (Qu 20) (Qf 1 (Qm 1))),
(Qb 19 false (Qu 21)),
(Qa (Qu 21) (Qe 1 false (Qm 20))),
(Qb 19 false (Qu 22)),
(Qa (Qu 22) (Qd Qs Go.BinOp.eql (Qm 21) (Qn (Qo (Qp (Qq Qt 1)))))),
(Qb 15 true (Qu 23)),
(Qa (Qu 23) (Ql (Qm 19) (Qn (Qo (Qp (Qr true)))) (Qm 22))),
(Qa (Qu 24) (Ql (Qm 15) (Qm 23) (Qn (Qo (Qp (Qr false)))))),
(Qa (Qu 2) (Qc (Qm 24)))]
def f54_c7 : MC := .reg false f54_r7
def f54_c8 : MC := MC.ret
def f54_c9 : MC := .seq f54_c7 f54_c8
def f54_r10 : List MO := [
(Qa (Qu 26) (Qd Qs Go.BinOp.eql (Qm 4) (Qn (Qo (Qp (Qq Qt 2)))))),
(Qa (Qu 25) (Qc (Qm 26)))]
def f54_c10 : MC := .reg false f54_r10
def f54_r11 : List MO := [
(Qa (Qu 27) (Qf 2 (Qm 1))),
(Qa (Qu 28) (Qe 1 false (Qm 27))),
(Qa (Qu 29) (Qd Leaf.s Go.BinOp.eql (Qm 28) (Qn (Qo (Qp (D.str (ByteArray.mk #[]))))))),
(Qa (Qu 30) (Qc (Qm 29))),
(Qb 30 true (Qu 31)),
(Qa (Qu 31) (Qf 1 (Qm 1))),
(Qb 30 true (Qu 32)),
(Qa (Qu 32) (Qe 1 false (Qm 31))),
(Qb 30 true (Qu 33)),
(Qa (Qu 33) (Qd Qs Go.BinOp.geq (Qm 32) (Qn (Qo (Qp (Qq Qt (-999999999999999))))))),
(Qa (Qu 34) (Ql (Qm 30) (Qm 33) (Qn (Qo (Qp (Qr false)))))),
(Qa (Qu 35) (Qc (Qm 34))),
(Qb 35 true (Qu 36)),
(Qa (Qu 36) (Qf 1 (Qm 1))),
(Qb 35 true (Qu 37)),
(Qa (Qu 37) (Qe 1 false (Qm 36))),
(Qb 35 true (Qu 38)),
(Qa (Qu 38) (Qd Qs Go.BinOp.leq (Qm 37) (Qn (Qo (Qp (Qq Qt 999999999999999)))))),
(Qa (Qu 39) (Ql (Qm 35) (Qm 38) (Qn (Qo (Qp (Qr false)))))),
(Qa (Qu 2) (Qc (Qm 39)))]
def f54_c11 : MC := .reg false f54_r11
def f54_c12 : MC := MC.ret
def f54_c13 : MC := .seq f54_c11 f54_c12
def f54_r14 : List MO := [
(Qa (Qu 41) (Qd Qs Go.BinOp.eql (Qm 4) (Qn (Qo (Qp (Qq Qt 3)))))),
(Qa (Qu 40) (Qc (Qm 41)))]
def f54_c14 : MC := .reg false f54_r14
def f54_r15 : List MO := [
(Qa (Qu 42) (Qf 1 (Qm 1))),
(Qa (Qu 43) (Qe 1 false (Qm 42))),
(Qa (Qu 44) (Qd Qs Go.BinOp.eql (Qm 43) (Qn (Qo (Qp (Qq Qt 0)))))),
(Qa (Qu 45) (Qc (Qm 44))),
(Qb 45 true (Qu 46)),
(Qa (Qu 46) (Qf 2 (Qm 1))),
(Qb 45 true (Qu 47)),
(Qa (Qu 47) (Qe 1 false (Qm 46))),
(Qb 45 true (Qu 48)),
(Qa (Qu 48) (Qg 60 [(Qm 47)])),
(Qa (Qu 49) (Ql (Qm 45) (Qm 48) (Qn (Qo (Qp (Qr false)))))),
(Qa (Qu 2) (Qc (Qm 49)))]
def f54_c15 : MC := .reg false f54_r15
def f54_c16 : MC := MC.ret
def f54_c17 : MC := .seq f54_c15 f54_c16
def f54_c18 : MC := MC.skip
def f54_c19 : MC := .cond (Qm 40) f54_c17 f54_c18
def f54_c20 : MC := .seq f54_c14 f54_c19
def f54_c21 : MC := .cond (Qm 25) f54_c13 f54_c20
def f54_c22 : MC := .seq f54_c10 f54_c21
def f54_c23 : MC := .cond (Qm 10) f54_c9 f54_c22
def f54_c24 : MC := .seq f54_c6 f54_c23
def f54_c25 : MC := .cond (Qm 5) f54_c5 f54_c24
def f54_c26 : MC := .seq f54_c2 f54_c25
def f54_c27 : MC := .blk 0 f54_c26
def f54_c28 : MC := .seq f54_c1 f54_c27
def f54_r29 : List MO := [
(Qa (Qu 2) (Qc (Qn (Qo (Qp (Qr false))))))]
def f54_c29 : MC := .reg false f54_r29
def f54_c30 : MC := MC.ret
def f54_c31 : MC := .seq f54_c29 f54_c30
def f54_c32 : MC := .seq f54_c28 f54_c31
def f54_c33 : MC := .seq f54_c0 f54_c32
noncomputable def f54_code : Code := (Go.Proofs.Tryd.f54.body).getD .skip
theorem f54_body : Go.Proofs.Tryd.f54.body = Qu f54_code := by kernel_rfl
theorem f54_tr : trC Go.Proofs.Tryd.prog [1] f54_code = Qu f54_c33 := by kernel_rfl
theorem f54_rs : rsOf Go.Proofs.Tryd.prog Go.Proofs.Tryd.f54.results.toList = Qu [(RV.t 2)] := by kernel_rfl
theorem f54_nt : Go.Proofs.Tryd.f54.ntmps = 50 := by kernel_rfl
theorem f54_ok : callable Go.Proofs.Tryd.prog 54 = true := by kernel_rfl
theorem f54_in {gp : Heap} {args : List V} {res : V} (h : G ⟨Go.Proofs.Tryd.prog, gp, 0, [(RV.t 2)], fun r c => r = res ∧ c = [], false⟩ [.code f54_c33, .fin] ⟨args ++ List.replicate (50 - args.length) .un, []⟩) : Does Go.Proofs.Tryd.prog gp 54 args res :=
  does_intro f54_ok Go.Proofs.Tryd.func54 f54_body f54_tr f54_rs (by rw [f54_nt]; exact h)
theorem f54_tri {gp : Heap} {args : List V} {pre : List Ch} {R : V → List Ch → Prop} (h : G ⟨Go.Proofs.Tryd.prog, gp, pre.length, [(RV.t 2)], R, false⟩ [.code f54_c33, .fin] ⟨args ++ List.replicate (50 - args.length) .un, pre⟩) : Tri Go.Proofs.Tryd.prog gp 54 args pre R :=
  tri_intro Go.Proofs.Tryd.func54 f54_body f54_tr f54_rs (by rw [f54_nt]; exact h)

/-! (sigillary/arena.view).areKids -/
def f55_r0 : List MO := [
(Qa (Qu 1) (MOp.ibox (Qm 0))),
(Qa (Qu 2) (Qc (Qn (Qo (Qp (Qr false))))))]
def f55_c0 : MC := .reg false f55_r0
def f55_r1 : List MO := [
(Qa (Qu 4) (MOp.mkF (Go.Fn.func 61) [(Qm 1)])),
(Qa (Qu 3) (Qc (Qm 4)))]
def f55_c1 : MC := .reg false f55_r1
def f55_r2 : List MO := [
(Qa (Qu 5) (Qf 0 (Qm 1))),
(Qa (Qu 6) (Qf 5 (Qm 5))),
(Qa (Qu 7) (Qe 1 false (Qm 6))),
(Qa (Qu 8) (Qc (Qm 3))),
(Qa (Qu 9) (Qg 62 [(Qm 7), (Qm 8)])),
(Qa (Qu 10) (MOp.not (Qm 9))),
(Qa (Qu 2) (Qc (Qm 10)))]
def f55_c2 : MC := .reg false f55_r2
def f55_c3 : MC := MC.ret
def f55_c4 : MC := .seq f55_c2 f55_c3
def f55_c5 : MC := .seq f55_c1 f55_c4
def f55_c6 : MC := .seq f55_c0 f55_c5
noncomputable def f55_code : Code := (Go.Proofs.Tryd.f55.body).getD .skip
theorem f55_body : Go.Proofs.Tryd.f55.body = Qu f55_code := by kernel_rfl
theorem f55_tr : trC Go.Proofs.Tryd.prog [1] f55_code = Qu f55_c6 := by kernel_rfl
theorem f55_rs : rsOf Go.Proofs.Tryd.prog Go.Proofs.Tryd.f55.results.toList = Qu [(RV.t 2)] := by kernel_rfl
theorem f55_nt : Go.Proofs.Tryd.f55.ntmps = 11 := by kernel_rfl
theorem f55_ok : callable Go.Proofs.Tryd.prog 55 = true := by kernel_rfl
theorem f55_in {gp : Heap} {args : List V} {res : V} (h : G ⟨Go.Proofs.Tryd.prog, gp, 0, [(RV.t 2)], fun r c => r = res ∧ c = [], false⟩ [.code f55_c6, .fin] ⟨args ++ List.replicate (11 - args.length) .un, []⟩) : Does Go.Proofs.Tryd.prog gp 55 args res :=
  does_intro f55_ok Go.Proofs.Tryd.func55 f55_body f55_tr f55_rs (by rw [f55_nt]; exact h)
theorem f55_tri {gp : Heap} {args : List V} {pre : List Ch} {R : V → List Ch → Prop} (h : G ⟨Go.Proofs.Tryd.prog, gp, pre.length, [(RV.t 2)], R, false⟩ [.code f55_c6, .fin] ⟨args ++ List.replicate (11 - args.length) .un, pre⟩) : Tri Go.Proofs.Tryd.prog gp 55 args pre R :=
  tri_intro Go.Proofs.Tryd.func55 f55_body f55_tr f55_rs (by rw [f55_nt]; exact h)

/-! (sigillary/arena.view).areKeys -/
def f56_r0 : List MO := [
(Qa (Qu 1) (MOp.ibox (Qm 0))),
(Qa (Qu 2) (Qc (Qn (Qo (Qp (Qr false))))))]
def f56_c0 : MC := .reg false f56_r0
def f56_r1 : List MO := [
(Qa (Qu 3) (Qc (Qn (Qo (Qp (D.fn (Go.Fn.func 63) []))))))]
def f56_c1 : MC := .reg false f56_r1
def f56_r2 : List MO := [
(Qa (Qu 4) (Qf 0 (Qm 1))),
(Qa (Qu 5) (Qf 4 (Qm 4))),
(Qa (Qu 6) (Qe 1 false (Qm 5))),
(Qa (Qu 7) (Qc (Qm 3))),
(Qa (Qu 8) (Qg 64 [(Qm 6), (Qm 7)])),
(Qa (Qu 9) (MOp.not (Qm 8))),
(Qa (Qu 10) (Qc (Qm 9))),
(Qb 10 true (Qu 11)),
(Qa (Qu 11) (Qf 0 (Qm 1))),
(Qb 10 true (Qu 12)),
(Qa (Qu 12) (Qf 4 (Qm 11))),
(Qb 10 true (Qu 13)),
(Qa (Qu 13) (Qe 1 false (Qm 12))),
(Qb 10 true (Qu 14)),
(Qa (Qu 14) (Qg 65 [(Qm 13)])),
(Qb 10 true (Qu 15)),
(Qa (Qu 15) (MOp.not (Qm 14))),
(Qa (Qu 16) (Ql (Qm 10) (Qm 15) (Qn (Qo (Qp (Qr false)))))),
(Qa (Qu 2) (Qc (Qm 16)))]
def f56_c2 : MC := .reg false f56_r2
def f56_c3 : MC := MC.ret
def f56_c4 : MC := .seq f56_c2 f56_c3
def f56_c5 : MC := .seq f56_c1 f56_c4
def f56_c6 : MC := .seq f56_c0 f56_c5
noncomputable def f56_code : Code := (Go.Proofs.Tryd.f56.body).getD .skip
theorem f56_body : Go.Proofs.Tryd.f56.body = Qu f56_code := by kernel_rfl
theorem f56_tr : trC Go.Proofs.Tryd.prog [1] f56_code = Qu f56_c6 := by kernel_rfl
theorem f56_rs : rsOf Go.Proofs.Tryd.prog Go.Proofs.Tryd.f56.results.toList = Qu [(RV.t 2)] := by kernel_rfl
theorem f56_nt : Go.Proofs.Tryd.f56.ntmps = 17 := by kernel_rfl
theorem f56_ok : callable Go.Proofs.Tryd.prog 56 = true := by kernel_rfl
theorem f56_in {gp : Heap} {args : List V} {res : V} (h : G ⟨Go.Proofs.Tryd.prog, gp, 0, [(RV.t 2)], fun r c => r = res ∧ c = [], false⟩ [.code f56_c6, .fin] ⟨args ++ List.replicate (17 - args.length) .un, []⟩) : Does Go.Proofs.Tryd.prog gp 56 args res :=
  does_intro f56_ok Go.Proofs.Tryd.func56 f56_body f56_tr f56_rs (by rw [f56_nt]; exact h)
theorem f56_tri {gp : Heap} {args : List V} {pre : List Ch} {R : V → List Ch → Prop} (h : G ⟨Go.Proofs.Tryd.prog, gp, pre.length, [(RV.t 2)], R, false⟩ [.code f56_c6, .fin] ⟨args ++ List.replicate (17 - args.length) .un, pre⟩) : Tri Go.Proofs.Tryd.prog gp 56 args pre R :=
  tri_intro Go.Proofs.Tryd.func56 f56_body f56_tr f56_rs (by rw [f56_nt]; exact h)

/-! slices.insertionSortCmpFunc[sigillary/arena.pair] -/
def f57_r0 : List MO := [
(Qa (Qu 10) (Qc (Qm 1))),
(Qa (Qu 11) (Qd Qs Go.BinOp.add (Qm 10) (Qn (Qo (Qp (Qq Qt 1)))))),
(Qa (Qu 8) (Qc (Qm 11)))]
def f57_c0 : MC := .reg false f57_r0
def f57_r1 : List MO := [
(Qa (Qu 12) (Qc (Qm 8))),
(Qa (Qu 13) (Qc (Qm 2))),
(Qa (Qu 14) (Qd Qs Go.BinOp.lss (Qm 12) (Qm 13)))]
def f57_c1 : MC := .reg false f57_r1
def f57_c2 : MC := MC.skip
def f57_c3 : MC := (MC.exit 0)
def f57_c4 : MC := .cond (Qm 14) f57_c2 f57_c3
def f57_c5 : MC := .seq f57_c1 f57_c4
def f57_r6 : List MO := [
(Qa (Qu 17) (Qc (Qm 8))),
(Qa (Qu 9) (Qc (Qm 17)))]
def f57_c6 : MC := .reg false f57_r6
def f57_r7 : List MO := [
(Qa (Qu 18) (Qc (Qm 9))),
(Qa (Qu 19) (Qc (Qm 1))),
(Qa (Qu 20) (Qd Qs Go.BinOp.gtr (Qm 18) (Qm 19))),
(Qa (Qu 21) (Qc (Qm 20))),
(Qb 21 true (Qu 22)),
(Qa (Qu 22) (Qc (Qm 3))),
(Qb 21 true (Qu 23)),
(Qa (Qu 23) (Qc (Qm 0))),
(Qb 21 true (Qu 24)),
(Qa (Qu 24) (Qc (Qm 9))),
(Qb 21 true (Qu 25)),
(Qa (Qu 25) (Qi 4 (Qm 23) (Qm 24))),
(Qb 21 true (Qu 26)),
(Qa (Qu 26) (Qe 4 true (Qm 25))),
(Qb 21 true (Qu 27)),
(Qa (Qu 27) (Qc (Qm 0))),
(Qb 21 true (Qu 28)),
(Qa (Qu 28) (Qc (Qm 9))),
(Qb 21 true (Qu 29)),
(Qa (Qu 29) (Qd Qs Go.BinOp.sub (Qm 28) (Qn (Qo (Qp (Qq Qt 1)))))),
(Qb 21 true (Qu 30)),
(Qa (Qu 30) (Qi 4 (Qm 27) (Qm 29))),
(Qb 21 true (Qu 31)),
(Qa (Qu 31) (Qe 4 true (Qm 30))),
(Qb 21 true (Qu 32)),
(Qa (Qu 32) (MOp.callv (Qm 22) [(Qm 26), (Qm 31)])),
(Qb 21 true (Qu 33)),
(Qa (Qu 33) (Qd Qs Go.BinOp.lss (Qm 32) (Qn (Qo (Qp (Qq Qt 0)))))),
(Qa (Qu 34) (Ql (Qm 21) (Qm 33) (Qn (Qo (Qp (Qr false))))))]
def f57_c7 : MC := .reg true f57_r7
def f57_c8 : MC := MC.skip
def f57_c9 : MC := (MC.exit 2)
def f57_c10 : MC := .cond (Qm 34) f57_c8 f57_c9
def f57_c11 : MC := .seq f57_c7 f57_c10
def f57_r12 : List MO := [
(Qa (Qu 37) (Qc (Qm 0))),
(Qa (Qu 38) (Qc (Qm 9))),
(Qa (Qu 39) (Qc (Qm 0))),
(Qa (Qu 40) (Qc (Qm 9))),
(Qa (Qu 41) (Qd Qs Go.BinOp.sub (Qm 40) (Qn (Qo (Qp (Qq Qt 1)))))),
(Qa (Qu 42) (Qc (Qm 0))),
(Qa (Qu 43) (Qc (Qm 9))),
(Qa (Qu 44) (Qd Qs Go.BinOp.sub (Qm 43) (Qn (Qo (Qp (Qq Qt 1)))))),
(Qa (Qu 45) (Qi 4 (Qm 42) (Qm 44))),
(Qa (Qu 46) (Qe 4 true (Qm 45))),
(Qa (Qu 47) (Qc (Qm 0))),
(Qa (Qu 48) (Qc (Qm 9))),
(Qa (Qu 49) (Qi 4 (Qm 47) (Qm 48))),
(Qa (Qu 50) (Qe 4 true (Qm 49))),
(Qa (Qu 51) (Qi 4 (Qm 37) (Qm 38))),
(Qa none (Qk 4 (Qm 51) (Qm 46))),
(Qa (Qu 52) (Qi 4 (Qm 39) (Qm 41))),
(Qa none (Qk 4 (Qm 52) (Qm 50)))]
def f57_c12 : MC := .reg true f57_r12
def f57_c13 : MC := .blk 3 f57_c12
def f57_r14 : List MO := [
(Qa (Qu 35) (Qc (Qm 9))),
(Qa (Qu 36) (Qd Qs Go.BinOp.sub (Qm 35) (Qn (Qo (Qp (Qq Qt 1)))))),
(Qa (Qu 9) (Qc (Qm 36)))]
def f57_c14 : MC := .reg false f57_r14
def f57_c15 : MC := .seq f57_c13 f57_c14
def f57_c16 : MC := .seq f57_c11 f57_c15
def f57_c17 : MC := .loop f57_c16
def f57_c18 : MC := .blk 2 f57_c17
def f57_c19 : MC := .seq f57_c6 f57_c18
def f57_c20 : MC := .blk 1 f57_c19
def f57_r21 : List MO := [
(Qa (Qu 15) (Qc (Qm 8))),
(Qa (Qu 16) (Qd Qs Go.BinOp.add (Qm 15) (Qn (Qo (Qp (Qq Qt 1)))))),
(Qa (Qu 8) (Qc (Qm 16)))]
def f57_c21 : MC := .reg false f57_r21
def f57_c22 : MC := .seq f57_c20 f57_c21
def f57_c23 : MC := .seq f57_c5 f57_c22
def f57_c24 : MC := .loop f57_c23
def f57_c25 : MC := .blk 0 f57_c24
def f57_c26 : MC := .seq f57_c0 f57_c25
noncomputable def f57_code : Code := (Go.Proofs.Tryd.f57.body).getD .skip
theorem f57_body : Go.Proofs.Tryd.f57.body = Qu f57_code := by kernel_rfl
theorem f57_tr : trC Go.Proofs.Tryd.prog [] f57_code = Qu f57_c26 := by kernel_rfl
theorem f57_rs : rsOf Go.Proofs.Tryd.prog Go.Proofs.Tryd.f57.results.toList = Qu [] := by kernel_rfl
theorem f57_nt : Go.Proofs.Tryd.f57.ntmps = 53 := by kernel_rfl
theorem f57_ok : callable Go.Proofs.Tryd.prog 57 = true := by kernel_rfl
theorem f57_in {gp : Heap} {args : List V} {res : V} (h : G ⟨Go.Proofs.Tryd.prog, gp, 0, [], fun r c => r = res ∧ c = [], false⟩ [.code f57_c26, .fin] ⟨args ++ List.replicate (53 - args.length) .un, []⟩) : Does Go.Proofs.Tryd.prog gp 57 args res :=
  does_intro f57_ok Go.Proofs.Tryd.func57 f57_body f57_tr f57_rs (by rw [f57_nt]; exact h)
theorem f57_tri {gp : Heap} {args : List V} {pre : List Ch} {R : V → List Ch → Prop} (h : G ⟨Go.Proofs.Tryd.prog, gp, pre.length, [], R, false⟩ [.code f57_c26, .fin] ⟨args ++ List.replicate (53 - args.length) .un, pre⟩) : Tri Go.Proofs.Tryd.prog gp 57 args pre R :=
  tri_intro Go.Proofs.Tryd.func57 f57_body f57_tr f57_rs (by rw [f57_nt]; exact h)

/-! slices.symMergeCmpFunc[sigillary/arena.pair] -/
def f58_r0 : List MO := [
(Qa (Qu 25) (Qc (Qm 2))),
(Qa (Qu 26) (Qc (Qm 1))),
(Qa (Qu 27) (Qd Qs Go.BinOp.sub (Qm 25) (Qm 26))),
(Qa (Qu 28) (Qd Qs Go.BinOp.eql (Qm 27) (Qn (Qo (Qp (Qq Qt 1))))))]
def f58_c0 : MC := .reg false f58_r0
def f58_r1 : List MO := [
(Qa (Qu 29) (Qc (Qm 2))),
(Qa (Qu 10) (Qc (Qm 29)))]
def f58_c1 : MC := .reg false f58_r1
def f58_r2 : List MO := [
(Qa (Qu 30) (Qc (Qm 3))),
(Qa (Qu 11) (Qc (Qm 30)))]
def f58_c2 : MC := .reg false f58_r2
def f58_r3 : List MO := [
(Qa (Qu 31) (Qc (Qm 10))),
(Qa (Qu 32) (Qc (Qm 11))),
(Qa (Qu 33) (Qd Qs Go.BinOp.lss (Qm 31) (Qm 32)))]
def f58_c3 : MC := .reg false f58_r3
def f58_c4 : MC := MC.skip
def f58_c5 : MC := (MC.exit 0)
def f58_c6 : MC := .cond (Qm 33) f58_c4 f58_c5
def f58_c7 : MC := .seq f58_c3 f58_c6
def f58_r8 : List MO := [
(Qa (Qu 34) (Qc (Qm 10))),
(Qa (Qu 35) (Qc (Qm 11))),
(Qa (Qu 36) (Qd Qs Go.BinOp.add (Qm 34) (Qm 35))),
(Qa (Qu 37) (MOp.conv Go.IntKind.u64 (Qm 36))),
(Qa (Qu 38) (Qd Qs Go.BinOp.shr (Qm 37) (Qn (Qo (Qp (Qq Go.IntKind.u64 1)))))),
(Qa (Qu 39) (MOp.conv Qt (Qm 38))),
(Qa (Qu 12) (Qc (Qm 39)))]
def f58_c8 : MC := .reg false f58_r8
def f58_r9 : List MO := [
(Qa (Qu 40) (Qc (Qm 4))),
(Qa (Qu 41) (Qc (Qm 0))),
(Qa (Qu 42) (Qc (Qm 12))),
(Qa (Qu 43) (Qi 4 (Qm 41) (Qm 42))),
(Qa (Qu 44) (Qe 4 true (Qm 43))),
(Qa (Qu 45) (Qc (Qm 0))),
(Qa (Qu 46) (Qc (Qm 1))),
(Qa (Qu 47) (Qi 4 (Qm 45) (Qm 46))),
(Qa (Qu 48) (Qe 4 true (Qm 47))),
(Qa (Qu 49) (MOp.callv (Qm 40) [(Qm 44), (Qm 48)])),
(Qa (Qu 50) (Qd Qs Go.BinOp.lss (Qm 49) (Qn (Qo (Qp (Qq Qt 0))))))]
def f58_c9 : MC := .reg true f58_r9
def f58_r10 : List MO := [
(Qa (Qu 51) (Qc (Qm 12))),
(Qa (Qu 52) (Qd Qs Go.BinOp.add (Qm 51) (Qn (Qo (Qp (Qq Qt 1)))))),
(Qa (Qu 10) (Qc (Qm 52)))]
def f58_c10 : MC := .reg false f58_r10
def f58_r11 : List MO := [
(Qa (Qu 53) (Qc (Qm 12))),
(Qa (Qu 11) (Qc (Qm 53)))]
def f58_c11 : MC := .reg false f58_r11
def f58_c12 : MC := .cond (Qm 50) f58_c10 f58_c11
def f58_c13 : MC := .seq f58_c9 f58_c12
def f58_c14 : MC := .seq f58_c8 f58_c13
def f58_c15 : MC := .blk 1 f58_c14
def f58_c16 : MC := .seq f58_c7 f58_c15
def f58_c17 : MC := .loop f58_c16
def f58_c18 : MC := .blk 0 f58_c17
def f58_r19 : List MO := [
(Qa (Qu 54) (Qc (Qm 1))),
(Qa (Qu 13) (Qc (Qm 54)))]
def f58_c19 : MC := .reg false f58_r19
def f58_r20 : List MO := [
(Qa (Qu 55) (Qc (Qm 13))),
(Qa (Qu 56) (Qc (Qm 10))),
(Qa (Qu 57) (Qd Qs Go.BinOp.sub (Qm 56) (Qn (Qo (Qp (Qq Qt 1)))))),
(Qa (Qu 58) (Qd Qs Go.BinOp.lss (Qm 55) (Qm 57)))]
def f58_c20 : MC := .reg false f58_r20
def f58_c21 : MC := MC.skip
def f58_c22 : MC := (MC.exit 2)
def f58_c23 : MC := .cond (Qm 58) f58_c21 f58_c22
def f58_c24 : MC := .seq f58_c20 f58_c23
def f58_r25 : List MO := [
(Qa (Qu 61) (Qc (Qm 0))),
(Qa (Qu 62) (Qc (Qm 13))),
(Qa (Qu 63) (Qc (Qm 0))),
(Qa (Qu 64) (Qc (Qm 13))),
(Qa (Qu 65) (Qd Qs Go.BinOp.add (Qm 64) (Qn (Qo (Qp (Qq Qt 1)))))),
(Qa (Qu 66) (Qc (Qm 0))),
(Qa (Qu 67) (Qc (Qm 13))),
(Qa (Qu 68) (Qd Qs Go.BinOp.add (Qm 67) (Qn (Qo (Qp (Qq Qt 1)))))),
(Qa (Qu 69) (Qi 4 (Qm 66) (Qm 68))),
(Qa (Qu 70) (Qe 4 true (Qm 69))),
(Qa (Qu 71) (Qc (Qm 0))),
(Qa (Qu 72) (Qc (Qm 13))),
(Qa (Qu 73) (Qi 4 (Qm 71) (Qm 72))),
(Qa (Qu 74) (Qe 4 true (Qm 73))),
(Qa (Qu 75) (Qi 4 (Qm 61) (Qm 62))),
(Qa none (Qk 4 (Qm 75) (Qm 70))),
(Qa (Qu 76) (Qi 4 (Qm 63) (Qm 65))),
(Qa none (Qk 4 (Qm 76) (Qm 74)))]
def f58_c25 : MC := .reg true f58_r25
def f58_c26 : MC := .blk 3 f58_c25
def f58_r27 : List MO := [
(Qa (Qu 59) (Qc (Qm 13))),
(Qa (Qu 60) (Qd Qs Go.BinOp.add (Qm 59) (Qn (Qo (Qp (Qq Qt 1)))))),
(Qa (Qu 13) (Qc (Qm 60)))]
def f58_c27 : MC := .reg false f58_r27
def f58_c28 : MC := .seq f58_c26 f58_c27
def f58_c29 : MC := .seq f58_c24 f58_c28
def f58_c30 : MC := .loop f58_c29
def f58_c31 : MC := .blk 2 f58_c30
def f58_c32 : MC := .seq f58_c19 f58_c31
def f58_c33 : MC := MC.ret
def f58_c34 : MC := .seq f58_c32 f58_c33
def f58_c35 : MC := .seq f58_c18 f58_c34
def f58_c36 : MC := .seq f58_c2 f58_c35
def f58_c37 : MC := .seq f58_c1 f58_c36
def f58_c38 : MC := MC.skip
def f58_c39 : MC := .cond (Qm 28) f58_c37 f58_c38
def f58_c40 : MC := .seq f58_c0 f58_c39
def f58_r41 : List MO := [
(Qa (Qu 77) (Qc (Qm 3))),
(Qa (Qu 78) (Qc (Qm 2))),
(Qa (Qu 79) (Qd Qs Go.BinOp.sub (Qm 77) (Qm 78))),
(Qa (Qu 80) (Qd Qs Go.BinOp.eql (Qm 79) (Qn (Qo (Qp (Qq Qt 1))))))]
def f58_c41 : MC := .reg false f58_r41
def f58_r42 : List MO := [
(Qa (Qu 81) (Qc (Qm 1))),
(Qa (Qu 14) (Qc (Qm 81)))]
def f58_c42 : MC := .reg false f58_r42
def f58_r43 : List MO := [
(Qa (Qu 82) (Qc (Qm 2))),
(Qa (Qu 15) (Qc (Qm 82)))]
def f58_c43 : MC := .reg false f58_r43
def f58_r44 : List MO := [
(Qa (Qu 83) (Qc (Qm 14))),
(Qa (Qu 84) (Qc (Qm 15))),
(Qa (Qu 85) (Qd Qs Go.BinOp.lss (Qm 83) (Qm 84)))]
def f58_c44 : MC := .reg false f58_r44
def f58_c45 : MC := MC.skip
def f58_c46 : MC := (MC.exit 4)
def f58_c47 : MC := .cond (Qm 85) f58_c45 f58_c46
def f58_c48 : MC := .seq f58_c44 f58_c47
def f58_r49 : List MO := [
(Qa (Qu 86) (Qc (Qm 14))),
(Qa (Qu 87) (Qc (Qm 15))),
(Qa (Qu 88) (Qd Qs Go.BinOp.add (Qm 86) (Qm 87))),
(Qa (Qu 89) (MOp.conv Go.IntKind.u64 (Qm 88))),
(Qa (Qu 90) (Qd Qs Go.BinOp.shr (Qm 89) (Qn (Qo (Qp (Qq Go.IntKind.u64 1)))))),
(Qa (Qu 91) (MOp.conv Qt (Qm 90))),
(Qa (Qu 16) (Qc (Qm 91)))]
def f58_c49 : MC := .reg false f58_r49
def f58_r50 : List MO := [
(Qa (Qu 92) (Qc (Qm 4))),
(Qa (Qu 93) (Qc (Qm 0))),
(Qa (Qu 94) (Qc (Qm 2))),
(Qa (Qu 95) (Qi 4 (Qm 93) (Qm 94))),
(Qa (Qu 96) (Qe 4 true (Qm 95))),
(Qa (Qu 97) (Qc (Qm 0))),
(Qa (Qu 98) (Qc (Qm 16))),
(Qa (Qu 99) (Qi 4 (Qm 97) (Qm 98))),
(Qa (Qu 100) (Qe 4 true (Qm 99))),
(Qa (Qu 101) (MOp.callv (Qm 92) [(Qm 96), (Qm 100)])),
(Qa (Qu 102) (Qd Qs Go.BinOp.lss (Qm 101) (Qn (Qo (Qp (Qq Qt 0)))))),
(Qa (Qu 103) (MOp.not (Qm 102)))]
def f58_c50 : MC := .reg true f58_r50
def f58_r51 : List MO := [
(Qa (Qu 104) (Qc (Qm 16))),
(Qa (Qu 105) (Qd Qs Go.BinOp.add (Qm 104) (Qn (Qo (Qp (Qq Qt 1)))))),
(Qa (Qu 14) (Qc (Qm 105)))]
def f58_c51 : MC := .reg false f58_r51
def f58_r52 : List MO := [
(Qa (Qu 106) (Qc (Qm 16))),
(Qa (Qu 15) (Qc (Qm 106)))]
def f58_c52 : MC := .reg false f58_r52
def f58_c53 : MC := .cond (Qm 103) f58_c51 f58_c52
def f58_c54 : MC := .seq f58_c50 f58_c53
def f58_c55 : MC := .seq f58_c49 f58_c54
def f58_c56 : MC := .blk 5 f58_c55
def f58_c57 : MC := .seq f58_c48 f58_c56
def f58_c58 : MC := .loop f58_c57
def f58_c59 : MC := .blk 4 f58_c58
def f58_r60 : List MO := [
(Qa (Qu 107) (Qc (Qm 2))),
(Qa (Qu 17) (Qc (Qm 107)))]
def f58_c60 : MC := .reg false f58_r60
def f58_r61 : List MO := [
(Qa (Qu 108) (Qc (Qm 17))),
(Qa (Qu 109) (Qc (Qm 14))),
(Qa (Qu 110) (Qd Qs Go.BinOp.gtr (Qm 108) (Qm 109)))]
def f58_c61 : MC := .reg false f58_r61
def f58_c62 : MC := MC.skip
def f58_c63 : MC := (MC.exit 6)
def f58_c64 : MC := .cond (Qm 110) f58_c62 f58_c63
def f58_c65 : MC := .seq f58_c61 f58_c64
def f58_r66 : List MO := [
(Qa (Qu 113) (Qc (Qm 0))),
(Qa (Qu 114) (Qc (Qm 17))),
(Qa (Qu 115) (Qc (Qm 0))),
(Qa (Qu 116) (Qc (Qm 17))),
(Qa (Qu 117) (Qd Qs Go.BinOp.sub (Qm 116) (Qn (Qo (Qp (Qq Qt 1)))))),
(Qa (Qu 118) (Qc (Qm 0))),
(Qa (Qu 119) (Qc (Qm 17))),
(Qa (Qu 120) (Qd Qs Go.BinOp.sub (Qm 119) (Qn (Qo (Qp (Qq Qt 1)))))),
(Qa (Qu 121) (Qi 4 (Qm 118) (Qm 120))),
(Qa (Qu 122) (Qe 4 true (Qm 121))),
(Qa (Qu 123) (Qc (Qm 0))),
(Qa (Qu 124) (Qc (Qm 17))),
(Qa (Qu 125) (Qi 4 (Qm 123) (Qm 124))),
(Qa (Qu 126) (Qe 4 true (Qm 125))),
(Qa (Qu 127) (Qi 4 (Qm 113) (Qm 114))),
(Qa none (Qk 4 (Qm 127) (Qm 122))),
(Qa (Qu 128) (Qi 4 (Qm 115) (Qm 117))),
(Qa none (Qk 4 (Qm 128) (Qm 126)))]
def f58_c66 : MC := .reg true f58_r66
def f58_c67 : MC := .blk 7 f58_c66
def f58_r68 : List MO := [
(Qa (Qu 111) (Qc (Qm 17))),
(Qa (Qu 112) (Qd Qs Go.BinOp.sub (Qm 111) (Qn (Qo (Qp (Qq Qt 1)))))),
(Qa (Qu 17) (Qc (Qm 112)))]
def f58_c68 : MC := .reg false f58_r68
def f58_c69 : MC := .seq f58_c67 f58_c68
def f58_c70 : MC := .seq f58_c65 f58_c69
def f58_c71 : MC := .loop f58_c70
def f58_c72 : MC := .blk 6 f58_c71
def f58_c73 : MC := .seq f58_c60 f58_c72
def f58_c74 : MC := MC.ret
def f58_c75 : MC := .seq f58_c73 f58_c74
def f58_c76 : MC := .seq f58_c59 f58_c75
def f58_c77 : MC := .seq f58_c43 f58_c76
def f58_c78 : MC := .seq f58_c42 f58_c77
def f58_c79 : MC := MC.skip
def f58_c80 : MC := .cond (Qm 80) f58_c78 f58_c79
def f58_c81 : MC := .seq f58_c41 f58_c80
def f58_r82 : List MO := [
(Qa (Qu 129) (Qc (Qm 1))),
(Qa (Qu 130) (Qc (Qm 3))),
(Qa (Qu 131) (Qd Qs Go.BinOp.add (Qm 129) (Qm 130))),
(Qa (Qu 132) (MOp.conv Go.IntKind.u64 (Qm 131))),
(Qa (Qu 133) (Qd Qs Go.BinOp.shr (Qm 132) (Qn (Qo (Qp (Qq Go.IntKind.u64 1)))))),
(Qa (Qu 134) (MOp.conv Qt (Qm 133))),
(Qa (Qu 18) (Qc (Qm 134)))]
def f58_c82 : MC := .reg false f58_r82
def f58_r83 : List MO := [
(Qa (Qu 135) (Qc (Qm 18))),
(Qa (Qu 136) (Qc (Qm 2))),
(Qa (Qu 137) (Qd Qs Go.BinOp.add (Qm 135) (Qm 136))),
(Qa (Qu 19) (Qc (Qm 137)))]
def f58_c83 : MC := .reg false f58_r83
def f58_r84 : List MO := [
(Qa (Qu 20) (Qc (Qn (Qo (Qp (Qq Qt 0)))))),
(Qa (Qu 21) (Qc (Qn (Qo (Qp (Qq Qt 0))))))]
def f58_c84 : MC := .reg false f58_r84
def f58_r85 : List MO := [
(Qa (Qu 138) (Qc (Qm 2))),
(Qa (Qu 139) (Qc (Qm 18))),
(Qa (Qu 140) (Qd Qs Go.BinOp.gtr (Qm 138) (Qm 139)))]
def f58_c85 : MC := .reg false f58_r85
def f58_r86 : List MO := [
(Qa (Qu 141) (Qc (Qm 19))),
(Qa (Qu 142) (Qc (Qm 3))),
(Qa (Qu 143) (Qd Qs Go.BinOp.sub (Qm 141) (Qm 142))),
(Qa (Qu 20) (Qc (Qm 143)))]
def f58_c86 : MC := .reg false f58_r86
def f58_r87 : List MO := [
(Qa (Qu 144) (Qc (Qm 18))),
(Qa (Qu 21) (Qc (Qm 144)))]
def f58_c87 : MC := .reg false f58_r87
def f58_c88 : MC := .seq f58_c86 f58_c87
def f58_r89 : List MO := [
(Qa (Qu 145) (Qc (Qm 1))),
(Qa (Qu 20) (Qc (Qm 145)))]
def f58_c89 : MC := .reg false f58_r89
def f58_r90 : List MO := [
(Qa (Qu 146) (Qc (Qm 2))),
(Qa (Qu 21) (Qc (Qm 146)))]
def f58_c90 : MC := .reg false f58_r90
def f58_c91 : MC := .seq f58_c89 f58_c90
def f58_c92 : MC := .cond (Qm 140) f58_c88 f58_c91
def f58_c93 : MC := .seq f58_c85 f58_c92
def f58_r94 : List MO := [
(Qa (Qu 147) (Qc (Qm 19))),
(Qa (Qu 148) (Qd Qs Go.BinOp.sub (Qm 147) (Qn (Qo (Qp (Qq Qt 1)))))),
(Qa (Qu 22) (Qc (Qm 148)))]
def f58_c94 : MC := .reg false f58_r94
def f58_r95 : List MO := [
(Qa (Qu 149) (Qc (Qm 20))),
(Qa (Qu 150) (Qc (Qm 21))),
(Qa (Qu 151) (Qd Qs Go.BinOp.lss (Qm 149) (Qm 150)))]
def f58_c95 : MC := .reg false f58_r95
def f58_c96 : MC := MC.skip
def f58_c97 : MC := (MC.exit 8)
def f58_c98 : MC := .cond (Qm 151) f58_c96 f58_c97
def f58_c99 : MC := .seq f58_c95 f58_c98
def f58_r100 : List MO := [
(Qa (Qu 152) (Qc (Qm 20))),
(Qa (Qu 153) (Qc (Qm 21))),
(Qa (Qu 154) (Qd Qs Go.BinOp.add (Qm 152) (Qm 153))),
(Qa (Qu 155) (MOp.conv Go.IntKind.u64 (Qm 154))),
(Qa (Qu 156) (Qd Qs Go.BinOp.shr (Qm 155) (Qn (Qo (Qp (Qq Go.IntKind.u64 1)))))),
(Qa (Qu 157) (MOp.conv Qt (Qm 156))),
(Qa (Qu 23) (Qc (Qm 157)))]
def f58_c100 : MC := .reg false f58_r100
def f58_r101 : List MO := [
(Qa (Qu 158) (Qc (Qm 4))),
(Qa (Qu 159) (Qc (Qm 0))),
(Qa (Qu 160) (Qc (Qm 22))),
(Qa (Qu 161) (Qc (Qm 23))),
(Qa (Qu 162) (Qd Qs Go.BinOp.sub (Qm 160) (Qm 161))),
(Qa (Qu 163) (Qi 4 (Qm 159) (Qm 162))),
(Qa (Qu 164) (Qe 4 true (Qm 163))),
(Qa (Qu 165) (Qc (Qm 0))),
(Qa (Qu 166) (Qc (Qm 23))),
(Qa (Qu 167) (Qi 4 (Qm 165) (Qm 166))),
(Qa (Qu 168) (Qe 4 true (Qm 167))),
(Qa (Qu 169) (MOp.callv (Qm 158) [(Qm 164), (Qm 168)])),
(Qa (Qu 170) (Qd Qs Go.BinOp.lss (Qm 169) (Qn (Qo (Qp (Qq Qt 0)))))),
(Qa (Qu 171) (MOp.not (Qm 170)))]
def f58_c101 : MC := .reg true f58_r101
def f58_r102 : List MO := [
(Qa (Qu 172) (Qc (Qm 23))),
(Qa (Qu 173) (Qd Qs Go.BinOp.add (Qm 172) (Qn (Qo (Qp (Qq Qt 1)))))),
(Qa (Qu 20) (Qc (Qm 173)))]
def f58_c102 : MC := .reg false f58_r102
def f58_r103 : List MO := [
(Qa (Qu 174) (Qc (Qm 23))),
(Qa (Qu 21) (Qc (Qm 174)))]
def f58_c103 : MC := .reg false f58_r103
def f58_c104 : MC := .cond (Qm 171) f58_c102 f58_c103
def f58_c105 : MC := .seq f58_c101 f58_c104
def f58_c106 : MC := .seq f58_c100 f58_c105
def f58_c107 : MC := .blk 9 f58_c106
def f58_c108 : MC := .seq f58_c99 f58_c107
def f58_c109 : MC := .loop f58_c108
def f58_c110 : MC := .blk 8 f58_c109
def f58_r111 : List MO := [
(Qa (Qu 175) (Qc (Qm 19))),
(Qa (Qu 176) (Qc (Qm 20))),
(Qa (Qu 177) (Qd Qs Go.BinOp.sub (Qm 175) (Qm 176))),
(Qa (Qu 24) (Qc (Qm 177)))]
def f58_c111 : MC := .reg false f58_r111
def f58_r112 : List MO := [
(Qa (Qu 178) (Qc (Qm 20))),
(Qa (Qu 179) (Qc (Qm 2))),
(Qa (Qu 180) (Qd Qs Go.BinOp.lss (Qm 178) (Qm 179))),
(Qa (Qu 181) (Qc (Qm 180))),
(Qb 181 true (Qu 182)),
(Qa (Qu 182) (Qc (Qm 2))),
(Qb 181 true (Qu 183)),
(Qa (Qu 183) (Qc (Qm 24))),
(Qb 181 true (Qu 184)),
(Qa (Qu 184) (Qd Qs Go.BinOp.lss (Qm 182) (Qm 183))),
(Qa (Qu 185) (Ql (Qm 181) (Qm 184) (Qn (Qo (Qp (Qr false))))))]
def f58_c112 : MC := .reg false f58_r112
def f58_r113 : List MO := [
(Qa (Qu 186) (Qc (Qm 0))),
(Qa (Qu 187) (Qc (Qm 20))),
(Qa (Qu 188) (Qc (Qm 2))),
(Qa (Qu 189) (Qc (Qm 24))),
(Qa (Qu 190) (Qc (Qm 4))),
(Qa (Qu 191) (Qg 66 [(Qm 186), (Qm 187), (Qm 188), (Qm 189), (Qm 190)]))]
def f58_c113 : MC := .reg false f58_r113
def f58_c114 : MC := MC.skip
def f58_c115 : MC := .cond (Qm 185) f58_c113 f58_c114
def f58_c116 : MC := .seq f58_c112 f58_c115
def f58_r117 : List MO := [
(Qa (Qu 192) (Qc (Qm 1))),
(Qa (Qu 193) (Qc (Qm 20))),
(Qa (Qu 194) (Qd Qs Go.BinOp.lss (Qm 192) (Qm 193))),
(Qa (Qu 195) (Qc (Qm 194))),
(Qb 195 true (Qu 196)),
(Qa (Qu 196) (Qc (Qm 20))),
(Qb 195 true (Qu 197)),
(Qa (Qu 197) (Qc (Qm 18))),
(Qb 195 true (Qu 198)),
(Qa (Qu 198) (Qd Qs Go.BinOp.lss (Qm 196) (Qm 197))),
(Qa (Qu 199) (Ql (Qm 195) (Qm 198) (Qn (Qo (Qp (Qr false))))))]
def f58_c117 : MC := .reg false f58_r117
def f58_r118 : List MO := [
(Qa (Qu 200) (Qc (Qm 0))),
(Qa (Qu 201) (Qc (Qm 1))),
(Qa (Qu 202) (Qc (Qm 20))),
(Qa (Qu 203) (Qc (Qm 18))),
(Qa (Qu 204) (Qc (Qm 4))),
(Qa (Qu 205) (Qg 58 [(Qm 200), (Qm 201), (Qm 202), (Qm 203), (Qm 204)]))]
def f58_c118 : MC := .reg false f58_r118
def f58_c119 : MC := MC.skip
def f58_c120 : MC := .cond (Qm 199) f58_c118 f58_c119
def f58_c121 : MC := .seq f58_c117 f58_c120
def f58_r122 : List MO := [
(Qa (Qu 206) (Qc (Qm 18))),
(Qa (Qu 207) (Qc (Qm 24))),
(Qa (Qu 208) (Qd Qs Go.BinOp.lss (Qm 206) (Qm 207))),
(Qa (Qu 209) (Qc (Qm 208))),
(Qb 209 true (Qu 210)),
(Qa (Qu 210) (Qc (Qm 24))),
(Qb 209 true (Qu 211)),
(Qa (Qu 211) (Qc (Qm 3))),
(Qb 209 true (Qu 212)),
(Qa (Qu 212) (Qd Qs Go.BinOp.lss (Qm 210) (Qm 211))),
(Qa (Qu 213) (Ql (Qm 209) (Qm 212) (Qn (Qo (Qp (Qr false))))))]
def f58_c122 : MC := .reg false f58_r122
def f58_r123 : List MO := [
(Qa (Qu 214) (Qc (Qm 0))),
(Qa (Qu 215) (Qc (Qm 18))),
(Qa (Qu 216) (Qc (Qm 24))),
(Qa (Qu 217) (Qc (Qm 3))),
(Qa (Qu 218) (Qc (Qm 4))),
(Qa (Qu 219) (Qg 58 [(Qm 214), (Qm 215), (Qm 216), (Qm 217), (Qm 218)]))]
def f58_c123 : MC := .reg false f58_r123
def f58_c124 : MC := MC.skip
def f58_c125 : MC := .cond (Qm 213) f58_c123 f58_c124
def f58_c126 : MC := .seq f58_c122 f58_c125
def f58_c127 : MC := .seq f58_c121 f58_c126
def f58_c128 : MC := .seq f58_c116 f58_c127
def f58_c129 : MC := .seq f58_c111 f58_c128
def f58_c130 : MC := .seq f58_c110 f58_c129
def f58_c131 : MC := .seq f58_c94 f58_c130
def f58_c132 : MC := .seq f58_c93 f58_c131
def f58_c133 : MC := .seq f58_c84 f58_c132
def f58_c134 : MC := .seq f58_c83 f58_c133
def f58_c135 : MC := .seq f58_c82 f58_c134
def f58_c136 : MC := .seq f58_c81 f58_c135
def f58_c137 : MC := .seq f58_c40 f58_c136
noncomputable def f58_code : Code := (Go.Proofs.Tryd.f58.body).getD .skip
theorem f58_body : Go.Proofs.Tryd.f58.body = Qu f58_code := by kernel_rfl
theorem f58_tr : trC Go.Proofs.Tryd.prog [] f58_code = Qu f58_c137 := by kernel_rfl
theorem f58_rs : rsOf Go.Proofs.Tryd.prog Go.Proofs.Tryd.f58.results.toList = Qu [] := by kernel_rfl
theorem f58_nt : Go.Proofs.Tryd.f58.ntmps = 220 := by kernel_rfl
theorem f58_ok : callable Go.Proofs.Tryd.prog 58 = true := by kernel_rfl
theorem f58_in {gp : Heap} {args : List V} {res : V} (h : G ⟨Go.Proofs.Tryd.prog, gp, 0, [], fun r c => r = res ∧ c = [], false⟩ [.code f58_c137, .fin] ⟨args ++ List.replicate (220 - args.length) .un, []⟩) : Does Go.Proofs.Tryd.prog gp 58 args res :=
  does_intro f58_ok Go.Proofs.Tryd.func58 f58_body f58_tr f58_rs (by rw [f58_nt]; exact h)
theorem f58_tri {gp : Heap} {args : List V} {pre : List Ch} {R : V → List Ch → Prop} (h : G ⟨Go.Proofs.Tryd.prog, gp, pre.length, [], R, false⟩ [.code f58_c137, .fin] ⟨args ++ List.replicate (220 - args.length) .un, pre⟩) : Tri Go.Proofs.Tryd.prog gp 58 args pre R :=
  tri_intro Go.Proofs.Tryd.func58 f58_body f58_tr f58_rs (by rw [f58_nt]; exact h)

/-! slices.Contains[[]bool,bool] -/
def f59_r0 : List MO := [
(Qa (Qu 4) (Qc (Qn (Qo (Qp (Qr false))))))]
def f59_c0 : MC := .reg false f59_r0
def f59_r1 : List MO := [
(Qa (Qu 5) (Qc (Qm 0))),
(Qa (Qu 6) (Qc (Qm 1))),
(Qa (Qu 7) (Qg 67 [(Qm 5), (Qm 6)])),
(Qa (Qu 8) (Qd Qs Go.BinOp.geq (Qm 7) (Qn (Qo (Qp (Qq Qt 0)))))),
(Qa (Qu 4) (Qc (Qm 8)))]
def f59_c1 : MC := .reg false f59_r1
def f59_c2 : MC := MC.ret
def f59_c3 : MC := .seq f59_c1 f59_c2
def f59_c4 : MC := .seq f59_c0 f59_c3
noncomputable def f59_code : Code := (Go.Proofs.Tryd.f59.body).getD .skip
theorem f59_body : Go.Proofs.Tryd.f59.body = Qu f59_code := by kernel_rfl
theorem f59_tr : trC Go.Proofs.Tryd.prog [] f59_code = Qu f59_c4 := by kernel_rfl
theorem f59_rs : rsOf Go.Proofs.Tryd.prog Go.Proofs.Tryd.f59.results.toList = Qu [(RV.t 4)] := by kernel_rfl
theorem f59_nt : Go.Proofs.Tryd.f59.ntmps = 9 := by kernel_rfl
theorem f59_ok : callable Go.Proofs.Tryd.prog 59 = true := by kernel_rfl
theorem f59_in {gp : Heap} {args : List V} {res : V} (h : G ⟨Go.Proofs.Tryd.prog, gp, 0, [(RV.t 4)], fun r c => r = res ∧ c = [], false⟩ [.code f59_c4, .fin] ⟨args ++ List.replicate (9 - args.length) .un, []⟩) : Does Go.Proofs.Tryd.prog gp 59 args res :=
  does_intro f59_ok Go.Proofs.Tryd.func59 f59_body f59_tr f59_rs (by rw [f59_nt]; exact h)
theorem f59_tri {gp : Heap} {args : List V} {pre : List Ch} {R : V → List Ch → Prop} (h : G ⟨Go.Proofs.Tryd.prog, gp, pre.length, [(RV.t 4)], R, false⟩ [.code f59_c4, .fin] ⟨args ++ List.replicate (9 - args.length) .un, pre⟩) : Tri Go.Proofs.Tryd.prog gp 59 args pre R :=
  tri_intro Go.Proofs.Tryd.func59 f59_body f59_tr f59_rs (by rw [f59_nt]; exact h)

/-! sigillary/quote.Right -/
def f60_r0 : List MO := [
(Qa (Qu 2) (Qc (Qn (Qo (Qp (Qr false))))))]
def f60_c0 : MC := .reg false f60_r0
def f60_r1 : List MO := [
(Qa (Qu 7) (Qc (Qm 0))),
(Qa (Qu 8) (MOp.rng (Qm 7)))]
def f60_c1 : MC := .reg false f60_r1
def f60_r2 : List MO := [
(Qa (Qu 9) (MOp.nxt (Qm 8))),
(Qa (Qu 10) (Qh (Qm 9) 0))]
def f60_c2 : MC := .reg false f60_r2
def f60_c3 : MC := MC.skip
def f60_c4 : MC := (MC.exit 0)
def f60_c5 : MC := .cond (Qm 10) f60_c3 f60_c4
def f60_r6 : List MO := [
(Qa (Qu 11) (Qh (Qm 9) 1)),
(Qa (Qu 12) (Qh (Qm 9) 2)),
(Qa (Qu 3) (Qc (Qm 11))),
(Qa (Qu 4) (Qc (Qm 12)))]
def f60_c6 : MC := .reg false f60_r6
def f60_r7 : List MO := [
(Qa (Qu 14) (Qc (Qm 0))),
(Qa (Qu 15) (Qc (Qm 3))),
(Qa (Qu 16) (MOp.slcS (Qm 14) (Qu (Qm 15)) none)),
(Qa (Qu 17) (Qg 68 [(Qm 16)])),
(Qa (Qu 13) (Qc (Qm 17))),
(Qa (Qu 18) (Qh (Qm 13) 0)),
(Qa (Qu 19) (Qh (Qm 13) 1)),
(Qa (Qu 5) (Qc (Qm 18))),
(Qa (Qu 6) (Qc (Qm 19)))]
def f60_c7 : MC := .reg false f60_r7
def f60_r8 : List MO := [
(Qa (Qu 20) (Qc (Qm 4))),
(Qa (Qu 21) (Qd Qs Go.BinOp.eql (Qm 20) (Qn (Qo (Qp (Qq Go.IntKind.i32 65533)))))),
(Qa (Qu 22) (Qc (Qm 21))),
(Qb 22 true (Qu 23)),
(Qa (Qu 23) (Qc (Qm 6))),
(Qb 22 true (Qu 24)),
(Qa (Qu 24) (Qd Qs Go.BinOp.eql (Qm 23) (Qn (Qo (Qp (Qq Qt 1)))))),
(Qa (Qu 25) (Ql (Qm 22) (Qm 24) (Qn (Qo (Qp (Qr false))))))]
def f60_c8 : MC := .reg false f60_r8
def f60_r9 : List MO := [
(Qa (Qu 2) (Qc (Qn (Qo (Qp (Qr false))))))]
def f60_c9 : MC := .reg false f60_r9
def f60_c10 : MC := MC.ret
def f60_c11 : MC := .seq f60_c9 f60_c10
def f60_c12 : MC := MC.skip
def f60_c13 : MC := .cond (Qm 25) f60_c11 f60_c12
def f60_c14 : MC := .seq f60_c8 f60_c13
def f60_c15 : MC := .seq f60_c7 f60_c14
def f60_c16 : MC := .seq f60_c6 f60_c15
def f60_c17 : MC := .blk 1 f60_c16
def f60_c18 : MC := .seq f60_c5 f60_c17
def f60_c19 : MC := .seq f60_c2 f60_c18
def f60_c20 : MC := .loop f60_c19
def f60_c21 : MC := .blk 0 f60_c20
def f60_c22 : MC := .seq f60_c1 f60_c21
def f60_r23 : List MO := [
(Qa (Qu 2) (Qc (Qn (Qo (Qp (Qr true))))))]
def f60_c23 : MC := .reg false f60_r23
def f60_c24 : MC := MC.ret
def f60_c25 : MC := .seq f60_c23 f60_c24
def f60_c26 : MC := .seq f60_c22 f60_c25
def f60_c27 : MC := .seq f60_c0 f60_c26
noncomputable def f60_code : Code := (Go.Proofs.Tryd.f60.body).getD .skip
theorem f60_body : Go.Proofs.Tryd.f60.body = Qu f60_code := by kernel_rfl
theorem f60_tr : trC Go.Proofs.Tryd.prog [] f60_code = Qu f60_c27 := by kernel_rfl
theorem f60_rs : rsOf Go.Proofs.Tryd.prog Go.Proofs.Tryd.f60.results.toList = Qu [(RV.t 2)] := by kernel_rfl
theorem f60_nt : Go.Proofs.Tryd.f60.ntmps = 26 := by kernel_rfl
theorem f60_ok : callable Go.Proofs.Tryd.prog 60 = true := by kernel_rfl
theorem f60_in {gp : Heap} {args : List V} {res : V} (h : G ⟨Go.Proofs.Tryd.prog, gp, 0, [(RV.t 2)], fun r c => r = res ∧ c = [], false⟩ [.code f60_c27, .fin] ⟨args ++ List.replicate (26 - args.length) .un, []⟩) : Does Go.Proofs.Tryd.prog gp 60 args res :=
  does_intro f60_ok Go.Proofs.Tryd.func60 f60_body f60_tr f60_rs (by rw [f60_nt]; exact h)
theorem f60_tri {gp : Heap} {args : List V} {pre : List Ch} {R : V → List Ch → Prop} (h : G ⟨Go.Proofs.Tryd.prog, gp, pre.length, [(RV.t 2)], R, false⟩ [.code f60_c27, .fin] ⟨args ++ List.replicate (26 - args.length) .un, pre⟩) : Tri Go.Proofs.Tryd.prog gp 60 args pre R :=
  tri_intro Go.Proofs.Tryd.func60 f60_body f60_tr f60_rs (by rw [f60_nt]; exact h)

/-! (sigillary/arena.view).areKids$1 -/
def f61_r0 : List MO := [
(Qa (Qu 3) (Qc (Qn (Qo (Qp (Qr false))))))]
def f61_c0 : MC := .reg false f61_r0
def f61_r1 : List MO := [
(Qa (Qu 4) (Qc (Qm 0))),
(Qa (Qu 5) (Qd Qs Go.BinOp.lss (Qm 4) (Qn (Qo (Qp (Qq Qt 0)))))),
(Qa (Qu 6) (Qc (Qm 5))),
(Qb 6 false (Qu 7)),
(Qa (Qu 7) (Qc (Qm 0))),
(Qb 6 false (Qu 8)),
(Qa (Qu 8) (Qf 6 (Qm 1))),
(Qb 6 false (Qu 9)),
(Qa (Qu 9) (Qe 1 false (Qm 8))),
(Qb 6 false (Qu 10)),
(Qa (Qu 10) (Qd Qs Go.BinOp.geq (Qm 7) (Qm 9))),
(Qa (Qu 11) (Ql (Qm 6) (Qn (Qo (Qp (Qr true)))) (Qm 10))),
(Qa (Qu 3) (Qc (Qm 11)))]
def f61_c1 : MC := .reg false f61_r1
def f61_c2 : MC := MC.ret
def f61_c3 : MC := .seq f61_c1 f61_c2
def f61_c4 : MC := .seq f61_c0 f61_c3
noncomputable def f61_code : Code := (Go.Proofs.Tryd.f61.body).getD .skip
theorem f61_body : Go.Proofs.Tryd.f61.body = Qu f61_code := by kernel_rfl
theorem f61_tr : trC Go.Proofs.Tryd.prog [] f61_code = Qu f61_c4 := by kernel_rfl
theorem f61_rs : rsOf Go.Proofs.Tryd.prog Go.Proofs.Tryd.f61.results.toList = Qu [(RV.t 3)] := by kernel_rfl
theorem f61_nt : Go.Proofs.Tryd.f61.ntmps = 12 := by kernel_rfl
theorem f61_ok : callable Go.Proofs.Tryd.prog 61 = true := by kernel_rfl
theorem f61_in {gp : Heap} {args : List V} {res : V} (h : G ⟨Go.Proofs.Tryd.prog, gp, 0, [(RV.t 3)], fun r c => r = res ∧ c = [], false⟩ [.code f61_c4, .fin] ⟨args ++ List.replicate (12 - args.length) .un, []⟩) : Does Go.Proofs.Tryd.prog gp 61 args res :=
  does_intro f61_ok Go.Proofs.Tryd.func61 f61_body f61_tr f61_rs (by rw [f61_nt]; exact h)
theorem f61_tri {gp : Heap} {args : List V} {pre : List Ch} {R : V → List Ch → Prop} (h : G ⟨Go.Proofs.Tryd.prog, gp, pre.length, [(RV.t 3)], R, false⟩ [.code f61_c4, .fin] ⟨args ++ List.replicate (12 - args.length) .un, pre⟩) : Tri Go.Proofs.Tryd.prog gp 61 args pre R :=
  tri_intro Go.Proofs.Tryd.func61 f61_body f61_tr f61_rs (by rw [f61_nt]; exact h)

/-! slices.ContainsFunc[[]int,int] -/
def f62_r0 : List MO := [
(Qa (Qu 4) (Qc (Qn (Qo (Qp (Qr false))))))]
def f62_c0 : MC := .reg false f62_r0
def f62_r1 : List MO := [
(Qa (Qu 5) (Qc (Qm 0))),
(Qa (Qu 6) (Qc (Qm 1))),
(Qa (Qu 7) (Qg 69 [(Qm 5), (Qm 6)])),
(Qa (Qu 8) (Qd Qs Go.BinOp.geq (Qm 7) (Qn (Qo (Qp (Qq Qt 0)))))),
(Qa (Qu 4) (Qc (Qm 8)))]
def f62_c1 : MC := .reg false f62_r1
def f62_c2 : MC := MC.ret
def f62_c3 : MC := .seq f62_c1 f62_c2
def f62_c4 : MC := .seq f62_c0 f62_c3
noncomputable def f62_code : Code := (Go.Proofs.Tryd.f62.body).getD .skip
theorem f62_body : Go.Proofs.Tryd.f62.body = Qu f62_code := by kernel_rfl
theorem f62_tr : trC Go.Proofs.Tryd.prog [] f62_code = Qu f62_c4 := by kernel_rfl
theorem f62_rs : rsOf Go.Proofs.Tryd.prog Go.Proofs.Tryd.f62.results.toList = Qu [(RV.t 4)] := by kernel_rfl
theorem f62_nt : Go.Proofs.Tryd.f62.ntmps = 9 := by kernel_rfl
theorem f62_ok : callable Go.Proofs.Tryd.prog 62 = true := by kernel_rfl
theorem f62_in {gp : Heap} {args : List V} {res : V} (h : G ⟨Go.Proofs.Tryd.prog, gp, 0, [(RV.t 4)], fun r c => r = res ∧ c = [], false⟩ [.code f62_c4, .fin] ⟨args ++ List.replicate (9 - args.length) .un, []⟩) : Does Go.Proofs.Tryd.prog gp 62 args res :=
  does_intro f62_ok Go.Proofs.Tryd.func62 f62_body f62_tr f62_rs (by rw [f62_nt]; exact h)
theorem f62_tri {gp : Heap} {args : List V} {pre : List Ch} {R : V → List Ch → Prop} (h : G ⟨Go.Proofs.Tryd.prog, gp, pre.length, [(RV.t 4)], R, false⟩ [.code f62_c4, .fin] ⟨args ++ List.replicate (9 - args.length) .un, pre⟩) : Tri Go.Proofs.Tryd.prog gp 62 args pre R :=
  tri_intro Go.Proofs.Tryd.func62 f62_body f62_tr f62_rs (by rw [f62_nt]; exact h)

/-! (sigillary/arena.view).areKeys$1 -/
def f63_r0 : List MO := [
(Qa (Qu 1) (MOp.ibox (Qm 0))),
(Qa (Qu 2) (Qc (Qn (Qo (Qp (Qr false))))))]
def f63_c0 : MC := .reg false f63_r0
def f63_r1 : List MO := [
(Qa (Qu 3) (Qe 3 true (Qm 1))),
(Qa (Qu 4) (Qg 54 [(Qm 3)])),
(Qa (Qu 5) (MOp.not (Qm 4))),
(Qa (Qu 2) (Qc (Qm 5)))]
def f63_c1 : MC := .reg false f63_r1
def f63_c2 : MC := MC.ret
def f63_c3 : MC := .seq f63_c1 f63_c2
def f63_c4 : MC := .seq f63_c0 f63_c3
noncomputable def f63_code : Code := (Go.Proofs.Tryd.f63.body).getD .skip
theorem f63_body : Go.Proofs.Tryd.f63.body = Qu f63_code := by kernel_rfl
theorem f63_tr : trC Go.Proofs.Tryd.prog [1] f63_code = Qu f63_c4 := by kernel_rfl
theorem f63_rs : rsOf Go.Proofs.Tryd.prog Go.Proofs.Tryd.f63.results.toList = Qu [(RV.t 2)] := by kernel_rfl
theorem f63_nt : Go.Proofs.Tryd.f63.ntmps = 6 := by kernel_rfl
theorem f63_ok : callable Go.Proofs.Tryd.prog 63 = true := by kernel_rfl
theorem f63_in {gp : Heap} {args : List V} {res : V} (h : G ⟨Go.Proofs.Tryd.prog, gp, 0, [(RV.t 2)], fun r c => r = res ∧ c = [], false⟩ [.code f63_c4, .fin] ⟨args ++ List.replicate (6 - args.length) .un, []⟩) : Does Go.Proofs.Tryd.prog gp 63 args res :=
  does_intro f63_ok Go.Proofs.Tryd.func63 f63_body f63_tr f63_rs (by rw [f63_nt]; exact h)
theorem f63_tri {gp : Heap} {args : List V} {pre : List Ch} {R : V → List Ch → Prop} (h : G ⟨Go.Proofs.Tryd.prog, gp, pre.length, [(RV.t 2)], R, false⟩ [.code f63_c4, .fin] ⟨args ++ List.replicate (6 - args.length) .un, pre⟩) : Tri Go.Proofs.Tryd.prog gp 63 args pre R :=
  tri_intro Go.Proofs.Tryd.func63 f63_body f63_tr f63_rs (by rw [f63_nt]; exact h)

/-! slices.ContainsFunc[[]sigillary/api.Scalar,sigillary/api.Scalar] -/
def f64_r0 : List MO := [
(Qa (Qu 4) (Qc (Qn (Qo (Qp (Qr false))))))]
def f64_c0 : MC := .reg false f64_r0
def f64_r1 : List MO := [
(Qa (Qu 5) (Qc (Qm 0))),
(Qa (Qu 6) (Qc (Qm 1))),
(Qa (Qu 7) (Qg 70 [(Qm 5), (Qm 6)])),
(Qa (Qu 8) (Qd Qs Go.BinOp.geq (Qm 7) (Qn (Qo (Qp (Qq Qt 0)))))),
(Qa (Qu 4) (Qc (Qm 8)))]
def f64_c1 : MC := .reg false f64_r1
def f64_c2 : MC := MC.ret
def f64_c3 : MC := .seq f64_c1 f64_c2
def f64_c4 : MC := .seq f64_c0 f64_c3
noncomputable def f64_code : Code := (Go.Proofs.Tryd.f64.body).getD .skip
theorem f64_body : Go.Proofs.Tryd.f64.body = Qu f64_code := by kernel_rfl
theorem f64_tr : trC Go.Proofs.Tryd.prog [] f64_code = Qu f64_c4 := by kernel_rfl
theorem f64_rs : rsOf Go.Proofs.Tryd.prog Go.Proofs.Tryd.f64.results.toList = Qu [(RV.t 4)] := by kernel_rfl
theorem f64_nt : Go.Proofs.Tryd.f64.ntmps = 9 := by kernel_rfl
theorem f64_ok : callable Go.Proofs.Tryd.prog 64 = true := by kernel_rfl
theorem f64_in {gp : Heap} {args : List V} {res : V} (h : G ⟨Go.Proofs.Tryd.prog, gp, 0, [(RV.t 4)], fun r c => r = res ∧ c = [], false⟩ [.code f64_c4, .fin] ⟨args ++ List.replicate (9 - args.length) .un, []⟩) : Does Go.Proofs.Tryd.prog gp 64 args res :=
  does_intro f64_ok Go.Proofs.Tryd.func64 f64_body f64_tr f64_rs (by rw [f64_nt]; exact h)
theorem f64_tri {gp : Heap} {args : List V} {pre : List Ch} {R : V → List Ch → Prop} (h : G ⟨Go.Proofs.Tryd.prog, gp, pre.length, [(RV.t 4)], R, false⟩ [.code f64_c4, .fin] ⟨args ++ List.replicate (9 - args.length) .un, pre⟩) : Tri Go.Proofs.Tryd.prog gp 64 args pre R :=
  tri_intro Go.Proofs.Tryd.func64 f64_body f64_tr f64_rs (by rw [f64_nt]; exact h)

/-! sigillary/scal.Twice -/
def f65_r0 : List MO := [
(Qa (Qu 2) (Qc (Qn (Qo (Qp (Qr false))))))]
def f65_c0 : MC := .reg false f65_r0
def f65_r1 : List MO := [
(Qa (Qu 3) (MOp.alloc [(Qq Qt 0)])),
(Qa none (Qk 1 (Qm 3) (Qn (Qo (Qp (Qq Qt 0))))))]
def f65_c1 : MC := .reg false f65_r1
def f65_r2 : List MO := [
(Qa (Qu 4) (Qc (Qm 0))),
(Qa (Qu 5) (Qg 71 [(Qm 4)]))]
def f65_c2 : MC := .reg false f65_r2
def f65_c3 : MC := MC.skip
def f65_r4 : List MO := [
(Qa (Qu 7) (Qe 1 false (Qm 3))),
(Qa (Qu 8) (Qd Qs Go.BinOp.add (Qm 7) (Qn (Qo (Qp (Qq Qt 1)))))),
(Qa none (Qk 1 (Qm 3) (Qm 8)))]
def f65_c4 : MC := .reg false f65_r4
def f65_c5 : MC := .blk 1 f65_c4
def f65_c6 : MC := .rf (Qm 5) [6] f65_c3 f65_c5
def f65_c7 : MC := .blk 0 f65_c6
def f65_c8 : MC := .seq f65_c2 f65_c7
def f65_r9 : List MO := [
(Qa (Qu 9) (Qe 1 false (Qm 3))),
(Qa (Qu 10) (Qc (Qm 0))),
(Qa (Qu 11) (Qj Qs (Qm 10))),
(Qa (Qu 12) (Qd Qs Go.BinOp.lss (Qm 9) (Qm 11))),
(Qa (Qu 2) (Qc (Qm 12)))]
def f65_c9 : MC := .reg false f65_r9
def f65_c10 : MC := MC.ret
def f65_c11 : MC := .seq f65_c9 f65_c10
def f65_c12 : MC := .seq f65_c8 f65_c11
def f65_c13 : MC := .seq f65_c1 f65_c12
def f65_c14 : MC := .seq f65_c0 f65_c13
noncomputable def f65_code : Code := (Go.Proofs.Tryd.f65.body).getD .skip
theorem f65_body : Go.Proofs.Tryd.f65.body = Qu f65_code := by kernel_rfl
theorem f65_tr : trC Go.Proofs.Tryd.prog [] f65_code = Qu f65_c14 := by kernel_rfl
theorem f65_rs : rsOf Go.Proofs.Tryd.prog Go.Proofs.Tryd.f65.results.toList = Qu [(RV.t 2)] := by kernel_rfl
theorem f65_nt : Go.Proofs.Tryd.f65.ntmps = 13 := by kernel_rfl
theorem f65_ok : callable Go.Proofs.Tryd.prog 65 = true := by kernel_rfl
theorem f65_in {gp : Heap} {args : List V} {res : V} (h : G ⟨Go.Proofs.Tryd.prog, gp, 0, [(RV.t 2)], fun r c => r = res ∧ c = [], false⟩ [.code f65_c14, .fin] ⟨args ++ List.replicate (13 - args.length) .un, []⟩) : Does Go.Proofs.Tryd.prog gp 65 args res :=
  does_intro f65_ok Go.Proofs.Tryd.func65 f65_body f65_tr f65_rs (by rw [f65_nt]; exact h)
theorem f65_tri {gp : Heap} {args : List V} {pre : List Ch} {R : V → List Ch → Prop} (h : G ⟨Go.Proofs.Tryd.prog, gp, pre.length, [(RV.t 2)], R, false⟩ [.code f65_c14, .fin] ⟨args ++ List.replicate (13 - args.length) .un, pre⟩) : Tri Go.Proofs.Tryd.prog gp 65 args pre R :=
  tri_intro Go.Proofs.Tryd.func65 f65_body f65_tr f65_rs (by rw [f65_nt]; exact h)

/-! slices.rotateCmpFunc[sigillary/arena.pair] -/
def f66_r0 : List MO := [
(Qa (Qu 12) (Qc (Qm 2))),
(Qa (Qu 13) (Qc (Qm 1))),
(Qa (Qu 14) (Qd Qs Go.BinOp.sub (Qm 12) (Qm 13))),
(Qa (Qu 10) (Qc (Qm 14)))]
def f66_c0 : MC := .reg false f66_r0
def f66_r1 : List MO := [
(Qa (Qu 15) (Qc (Qm 3))),
(Qa (Qu 16) (Qc (Qm 2))),
(Qa (Qu 17) (Qd Qs Go.BinOp.sub (Qm 15) (Qm 16))),
(Qa (Qu 11) (Qc (Qm 17)))]
def f66_c1 : MC := .reg false f66_r1
def f66_r2 : List MO := [
(Qa (Qu 18) (Qc (Qm 10))),
(Qa (Qu 19) (Qc (Qm 11))),
(Qa (Qu 20) (Qd Qs Go.BinOp.neq (Qm 18) (Qm 19)))]
def f66_c2 : MC := .reg false f66_r2
def f66_c3 : MC := MC.skip
def f66_c4 : MC := (MC.exit 0)
def f66_c5 : MC := .cond (Qm 20) f66_c3 f66_c4
def f66_c6 : MC := .seq f66_c2 f66_c5
def f66_r7 : List MO := [
(Qa (Qu 21) (Qc (Qm 10))),
(Qa (Qu 22) (Qc (Qm 11))),
(Qa (Qu 23) (Qd Qs Go.BinOp.gtr (Qm 21) (Qm 22)))]
def f66_c7 : MC := .reg false f66_r7
def f66_r8 : List MO := [
(Qa (Qu 24) (Qc (Qm 0))),
(Qa (Qu 25) (Qc (Qm 2))),
(Qa (Qu 26) (Qc (Qm 10))),
(Qa (Qu 27) (Qd Qs Go.BinOp.sub (Qm 25) (Qm 26))),
(Qa (Qu 28) (Qc (Qm 2))),
(Qa (Qu 29) (Qc (Qm 11))),
(Qa (Qu 30) (Qc (Qm 4))),
(Qa (Qu 31) (Qg 72 [(Qm 24), (Qm 27), (Qm 28), (Qm 29), (Qm 30)]))]
def f66_c8 : MC := .reg false f66_r8
def f66_r9 : List MO := [
(Qa (Qu 32) (Qc (Qm 10))),
(Qa (Qu 33) (Qc (Qm 11))),
(Qa (Qu 34) (Qd Qs Go.BinOp.sub (Qm 32) (Qm 33))),
(Qa (Qu 10) (Qc (Qm 34)))]
def f66_c9 : MC := .reg false f66_r9
def f66_c10 : MC := .seq f66_c8 f66_c9
def f66_r11 : List MO := [
(Qa (Qu 35) (Qc (Qm 0))),
(Qa (Qu 36) (Qc (Qm 2))),
(Qa (Qu 37) (Qc (Qm 10))),
(Qa (Qu 38) (Qd Qs Go.BinOp.sub (Qm 36) (Qm 37))),
(Qa (Qu 39) (Qc (Qm 2))),
(Qa (Qu 40) (Qc (Qm 11))),
(Qa (Qu 41) (Qd Qs Go.BinOp.add (Qm 39) (Qm 40))),
(Qa (Qu 42) (Qc (Qm 10))),
(Qa (Qu 43) (Qd Qs Go.BinOp.sub (Qm 41) (Qm 42))),
(Qa (Qu 44) (Qc (Qm 10))),
(Qa (Qu 45) (Qc (Qm 4))),
(Qa (Qu 46) (Qg 72 [(Qm 35), (Qm 38), (Qm 43), (Qm 44), (Qm 45)]))]
def f66_c11 : MC := .reg false f66_r11
def f66_r12 : List MO := [
(Qa (Qu 47) (Qc (Qm 11))),
(Qa (Qu 48) (Qc (Qm 10))),
(Qa (Qu 49) (Qd Qs Go.BinOp.sub (Qm 47) (Qm 48))),
(Qa (Qu 11) (Qc (Qm 49)))]
def f66_c12 : MC := .reg false f66_r12
def f66_c13 : MC := .seq f66_c11 f66_c12
def f66_c14 : MC := .cond (Qm 23) f66_c10 f66_c13
def f66_c15 : MC := .seq f66_c7 f66_c14
def f66_c16 : MC := .blk 1 f66_c15
def f66_c17 : MC := .seq f66_c6 f66_c16
def f66_c18 : MC := .loop f66_c17
def f66_c19 : MC := .blk 0 f66_c18
def f66_r20 : List MO := [
(Qa (Qu 50) (Qc (Qm 0))),
(Qa (Qu 51) (Qc (Qm 2))),
(Qa (Qu 52) (Qc (Qm 10))),
(Qa (Qu 53) (Qd Qs Go.BinOp.sub (Qm 51) (Qm 52))),
(Qa (Qu 54) (Qc (Qm 2))),
(Qa (Qu 55) (Qc (Qm 10))),
(Qa (Qu 56) (Qc (Qm 4))),
(Qa (Qu 57) (Qg 72 [(Qm 50), (Qm 53), (Qm 54), (Qm 55), (Qm 56)]))]
def f66_c20 : MC := .reg false f66_r20
def f66_c21 : MC := .seq f66_c19 f66_c20
def f66_c22 : MC := .seq f66_c1 f66_c21
def f66_c23 : MC := .seq f66_c0 f66_c22
noncomputable def f66_code : Code := (Go.Proofs.Tryd.f66.body).getD .skip
theorem f66_body : Go.Proofs.Tryd.f66.body = Qu f66_code := by kernel_rfl
theorem f66_tr : trC Go.Proofs.Tryd.prog [] f66_code = Qu f66_c23 := by kernel_rfl
theorem f66_rs : rsOf Go.Proofs.Tryd.prog Go.Proofs.Tryd.f66.results.toList = Qu [] := by kernel_rfl
theorem f66_nt : Go.Proofs.Tryd.f66.ntmps = 58 := by kernel_rfl
theorem f66_ok : callable Go.Proofs.Tryd.prog 66 = true := by kernel_rfl
theorem f66_in {gp : Heap} {args : List V} {res : V} (h : G ⟨Go.Proofs.Tryd.prog, gp, 0, [], fun r c => r = res ∧ c = [], false⟩ [.code f66_c23, .fin] ⟨args ++ List.replicate (58 - args.length) .un, []⟩) : Does Go.Proofs.Tryd.prog gp 66 args res :=
  does_intro f66_ok Go.Proofs.Tryd.func66 f66_body f66_tr f66_rs (by rw [f66_nt]; exact h)
theorem f66_tri {gp : Heap} {args : List V} {pre : List Ch} {R : V → List Ch → Prop} (h : G ⟨Go.Proofs.Tryd.prog, gp, pre.length, [], R, false⟩ [.code f66_c23, .fin] ⟨args ++ List.replicate (58 - args.length) .un, pre⟩) : Tri Go.Proofs.Tryd.prog gp 66 args pre R :=
  tri_intro Go.Proofs.Tryd.func66 f66_body f66_tr f66_rs (by rw [f66_nt]; exact h)

/-! slices.Index[[]bool,bool] -/
def f67_r0 : List MO := [
(Qa (Qu 4) (Qc (Qn (Qo (Qp (Qq Qt 0))))))]
def f67_c0 : MC := .reg false f67_r0
def f67_r1 : List MO := [
(Qa (Qu 6) (Qc (Qm 0))),
(Qa (Qu 7) (Qj Qs (Qm 6))),
(Qa (Qu 8) (Qc (Qn (Qo (Qp (Qq Qt 0))))))]
def f67_c1 : MC := .reg false f67_r1
def f67_r2 : List MO := [
(Qa (Qu 9) (Qd Qs Go.BinOp.lss (Qm 8) (Qm 7)))]
def f67_c2 : MC := .reg false f67_r2
def f67_c3 : MC := MC.skip
def f67_c4 : MC := (MC.exit 0)
def f67_c5 : MC := .cond (Qm 9) f67_c3 f67_c4
def f67_r6 : List MO := [
(Qa (Qu 10) (Qc (Qm 8))),
(Qa (Qu 5) (Qc (Qm 10)))]
def f67_c6 : MC := .reg false f67_r6
def f67_r7 : List MO := [
(Qa (Qu 11) (Qc (Qm 1))),
(Qa (Qu 12) (Qc (Qm 0))),
(Qa (Qu 13) (Qc (Qm 5))),
(Qa (Qu 14) (Qi 1 (Qm 12) (Qm 13))),
(Qa (Qu 15) (Qe 1 false (Qm 14))),
(Qa (Qu 16) (Qd Leaf.b Go.BinOp.eql (Qm 11) (Qm 15)))]
def f67_c7 : MC := .reg false f67_r7
def f67_r8 : List MO := [
(Qa (Qu 17) (Qc (Qm 5))),
(Qa (Qu 4) (Qc (Qm 17)))]
def f67_c8 : MC := .reg false f67_r8
def f67_c9 : MC := MC.ret
def f67_c10 : MC := .seq f67_c8 f67_c9
def f67_c11 : MC := MC.skip
def f67_c12 : MC := .cond (Qm 16) f67_c10 f67_c11
def f67_c13 : MC := .seq f67_c7 f67_c12
def f67_c14 : MC := .seq f67_c6 f67_c13
def f67_c15 : MC := .blk 1 f67_c14
def f67_r16 : List MO := [
(Qa (Qu 18) (Qd Qs Go.BinOp.add (Qm 8) (Qn (Qo (Qp (Qq Qt 1)))))),
(Qa (Qu 8) (Qc (Qm 18)))]
def f67_c16 : MC := .reg false f67_r16
def f67_c17 : MC := .seq f67_c15 f67_c16
def f67_c18 : MC := .seq f67_c5 f67_c17
def f67_c19 : MC := .seq f67_c2 f67_c18
def f67_c20 : MC := .loop f67_c19
def f67_c21 : MC := .blk 0 f67_c20
def f67_c22 : MC := .seq f67_c1 f67_c21
def f67_r23 : List MO := [
(Qa (Qu 4) (Qc (Qn (Qo (Qp (Qq Qt (-1)))))))]
def f67_c23 : MC := .reg false f67_r23
def f67_c24 : MC := MC.ret
def f67_c25 : MC := .seq f67_c23 f67_c24
def f67_c26 : MC := .seq f67_c22 f67_c25
def f67_c27 : MC := .seq f67_c0 f67_c26
noncomputable def f67_code : Code := (Go.Proofs.Tryd.f67.body).getD .skip
theorem f67_body : Go.Proofs.Tryd.f67.body = Qu f67_code := by kernel_rfl
theorem f67_tr : trC Go.Proofs.Tryd.prog [] f67_code = Qu f67_c27 := by kernel_rfl
theorem f67_rs : rsOf Go.Proofs.Tryd.prog Go.Proofs.Tryd.f67.results.toList = Qu [(RV.t 4)] := by kernel_rfl
theorem f67_nt : Go.Proofs.Tryd.f67.ntmps = 19 := by kernel_rfl
theorem f67_ok : callable Go.Proofs.Tryd.prog 67 = true := by kernel_rfl
theorem f67_in {gp : Heap} {args : List V} {res : V} (h : G ⟨Go.Proofs.Tryd.prog, gp, 0, [(RV.t 4)], fun r c => r = res ∧ c = [], false⟩ [.code f67_c27, .fin] ⟨args ++ List.replicate (19 - args.length) .un, []⟩) : Does Go.Proofs.Tryd.prog gp 67 args res :=
  does_intro f67_ok Go.Proofs.Tryd.func67 f67_body f67_tr f67_rs (by rw [f67_nt]; exact h)
theorem f67_tri {gp : Heap} {args : List V} {pre : List Ch} {R : V → List Ch → Prop} (h : G ⟨Go.Proofs.Tryd.prog, gp, pre.length, [(RV.t 4)], R, false⟩ [.code f67_c27, .fin] ⟨args ++ List.replicate (19 - args.length) .un, pre⟩) : Tri Go.Proofs.Tryd.prog gp 67 args pre R :=
  tri_intro Go.Proofs.Tryd.func67 f67_body f67_tr f67_rs (by rw [f67_nt]; exact h)

/-! unicode/utf8.DecodeRuneInString -/
def f68_r0 : List MO := [
(Qa (Qu 2) (Qc (Qn (Qo (Qp (Qq Go.IntKind.i32 0)))))),
(Qa (Qu 3) (Qc (Qn (Qo (Qp (Qq Qt 0))))))]
def f68_c0 : MC := .reg false f68_r0
def f68_r1 : List MO := [
(Qa (Qu 4) (Qc (Qm 0))),
(Qa (Qu 5) (Qd Leaf.s Go.BinOp.neq (Qm 4) (Qn (Qo (Qp (D.str (ByteArray.mk #[]))))))),
(Qa (Qu 6) (Qc (Qm 5))),
(Qb 6 true (Qu 7)),
(Qa (Qu 7) (Qc (Qm 0))),
(Qb 6 true (Qu 8)),
(Qa (Qu 8) (MOp.idxS (Qm 7) (Qn (Qo (Qp (Qq Qt 0)))))),
(Qb 6 true (Qu 9)),
(Qa (Qu 9) (Qd Qs Go.BinOp.lss (Qm 8) (Qn (Qo (Qp (Qq Go.IntKind.u8 128)))))),
(Qa (Qu 10) (Ql (Qm 6) (Qm 9) (Qn (Qo (Qp (Qr false))))))]
def f68_c1 : MC := .reg false f68_r1
def f68_r2 : List MO := [
(Qa (Qu 11) (Qc (Qm 0))),
(Qa (Qu 12) (MOp.idxS (Qm 11) (Qn (Qo (Qp (Qq Qt 0)))))),
(Qa (Qu 13) (MOp.conv Go.IntKind.i32 (Qm 12))),
(Qa (Qu 2) (Qc (Qm 13))),
(Qa (Qu 3) (Qc (Qn (Qo (Qp (Qq Qt 1))))))]
def f68_c2 : MC := .reg false f68_r2
def f68_c3 : MC := MC.ret
def f68_c4 : MC := .seq f68_c2 f68_c3
def f68_r5 : List MO := [
(Qa (Qu 15) (Qc (Qm 0))),
(Qa (Qu 16) (Qg 73 [(Qm 15)])),
(Qa (Qu 14) (Qc (Qm 16))),
(Qa (Qu 17) (Qh (Qm 14) 0)),
(Qa (Qu 18) (Qh (Qm 14) 1)),
(Qa (Qu 2) (Qc (Qm 17))),
(Qa (Qu 3) (Qc (Qm 18)))]
def f68_c5 : MC := .reg false f68_r5
def f68_c6 : MC := .cond (Qm 10) f68_c4 f68_c5
def f68_c7 : MC := .seq f68_c1 f68_c6
def f68_c8 : MC := MC.ret
def f68_c9 : MC := .seq f68_c7 f68_c8
def f68_c10 : MC := .seq f68_c0 f68_c9
noncomputable def f68_code : Code := (Go.Proofs.Tryd.f68.body).getD .skip
theorem f68_body : Go.Proofs.Tryd.f68.body = Qu f68_code := by kernel_rfl
theorem f68_tr : trC Go.Proofs.Tryd.prog [] f68_code = Qu f68_c10 := by kernel_rfl
theorem f68_rs : rsOf Go.Proofs.Tryd.prog Go.Proofs.Tryd.f68.results.toList = Qu [(RV.t 2), (RV.t 3)] := by kernel_rfl
theorem f68_nt : Go.Proofs.Tryd.f68.ntmps = 19 := by kernel_rfl
theorem f68_ok : callable Go.Proofs.Tryd.prog 68 = true := by kernel_rfl
theorem f68_in {gp : Heap} {args : List V} {res : V} (h : G ⟨Go.Proofs.Tryd.prog, gp, 0, [(RV.t 2), (RV.t 3)], fun r c => r = res ∧ c = [], false⟩ [.code f68_c10, .fin] ⟨args ++ List.replicate (19 - args.length) .un, []⟩) : Does Go.Proofs.Tryd.prog gp 68 args res :=
  does_intro f68_ok Go.Proofs.Tryd.func68 f68_body f68_tr f68_rs (by rw [f68_nt]; exact h)
theorem f68_tri {gp : Heap} {args : List V} {pre : List Ch} {R : V → List Ch → Prop} (h : G ⟨Go.Proofs.Tryd.prog, gp, pre.length, [(RV.t 2), (RV.t 3)], R, false⟩ [.code f68_c10, .fin] ⟨args ++ List.replicate (19 - args.length) .un, pre⟩) : Tri Go.Proofs.Tryd.prog gp 68 args pre R :=
  tri_intro Go.Proofs.Tryd.func68 f68_body f68_tr f68_rs (by rw [f68_nt]; exact h)

/-! slices.IndexFunc[[]int,int] -/
def f69_r0 : List MO := [
(Qa (Qu 4) (Qc (Qn (Qo (Qp (Qq Qt 0))))))]
def f69_c0 : MC := .reg false f69_r0
def f69_r1 : List MO := [
(Qa (Qu 6) (Qc (Qm 0))),
(Qa (Qu 7) (Qj Qs (Qm 6))),
(Qa (Qu 8) (Qc (Qn (Qo (Qp (Qq Qt 0))))))]
def f69_c1 : MC := .reg false f69_r1
def f69_r2 : List MO := [
(Qa (Qu 9) (Qd Qs Go.BinOp.lss (Qm 8) (Qm 7)))]
def f69_c2 : MC := .reg false f69_r2
def f69_c3 : MC := MC.skip
def f69_c4 : MC := (MC.exit 0)
def f69_c5 : MC := .cond (Qm 9) f69_c3 f69_c4
def f69_r6 : List MO := [
(Qa (Qu 10) (Qc (Qm 8))),
(Qa (Qu 5) (Qc (Qm 10)))]
def f69_c6 : MC := .reg false f69_r6
def f69_r7 : List MO := [
(Qa (Qu 11) (Qc (Qm 1))),
(Qa (Qu 12) (Qc (Qm 0))),
(Qa (Qu 13) (Qc (Qm 5))),
(Qa (Qu 14) (Qi 1 (Qm 12) (Qm 13))),
(Qa (Qu 15) (Qe 1 false (Qm 14))),
(Qa (Qu 16) (MOp.callv (Qm 11) [(Qm 15)]))]
def f69_c7 : MC := .reg false f69_r7
def f69_r8 : List MO := [
(Qa (Qu 17) (Qc (Qm 5))),
(Qa (Qu 4) (Qc (Qm 17)))]
def f69_c8 : MC := .reg false f69_r8
def f69_c9 : MC := MC.ret
def f69_c10 : MC := .seq f69_c8 f69_c9
def f69_c11 : MC := MC.skip
def f69_c12 : MC := .cond (Qm 16) f69_c10 f69_c11
def f69_c13 : MC := .seq f69_c7 f69_c12
def f69_c14 : MC := .seq f69_c6 f69_c13
def f69_c15 : MC := .blk 1 f69_c14
def f69_r16 : List MO := [
(Qa (Qu 18) (Qd Qs Go.BinOp.add (Qm 8) (Qn (Qo (Qp (Qq Qt 1)))))),
(Qa (Qu 8) (Qc (Qm 18)))]
def f69_c16 : MC := .reg false f69_r16
def f69_c17 : MC := .seq f69_c15 f69_c16
def f69_c18 : MC := .seq f69_c5 f69_c17
def f69_c19 : MC := .seq f69_c2 f69_c18
def f69_c20 : MC := .loop f69_c19
def f69_c21 : MC := .blk 0 f69_c20
def f69_c22 : MC := .seq f69_c1 f69_c21
def f69_r23 : List MO := [
(Qa (Qu 4) (Qc (Qn (Qo (Qp (Qq Qt (-1)))))))]
def f69_c23 : MC := .reg false f69_r23
def f69_c24 : MC := MC.ret
def f69_c25 : MC := .seq f69_c23 f69_c24
def f69_c26 : MC := .seq f69_c22 f69_c25
def f69_c27 : MC := .seq f69_c0 f69_c26
noncomputable def f69_code : Code := (Go.Proofs.Tryd.f69.body).getD .skip
theorem f69_body : Go.Proofs.Tryd.f69.body = Qu f69_code := by kernel_rfl
theorem f69_tr : trC Go.Proofs.Tryd.prog [] f69_code = Qu f69_c27 := by kernel_rfl
theorem f69_rs : rsOf Go.Proofs.Tryd.prog Go.Proofs.Tryd.f69.results.toList = Qu [(RV.t 4)] := by kernel_rfl
theorem f69_nt : Go.Proofs.Tryd.f69.ntmps = 19 := by kernel_rfl
theorem f69_ok : callable Go.Proofs.Tryd.prog 69 = true := by kernel_rfl
theorem f69_in {gp : Heap} {args : List V} {res : V} (h : G ⟨Go.Proofs.Tryd.prog, gp, 0, [(RV.t 4)], fun r c => r = res ∧ c = [], false⟩ [.code f69_c27, .fin] ⟨args ++ List.replicate (19 - args.length) .un, []⟩) : Does Go.Proofs.Tryd.prog gp 69 args res :=
  does_intro f69_ok Go.Proofs.Tryd.func69 f69_body f69_tr f69_rs (by rw [f69_nt]; exact h)
theorem f69_tri {gp : Heap} {args : List V} {pre : List Ch} {R : V → List Ch → Prop} (h : G ⟨Go.Proofs.Tryd.prog, gp, pre.length, [(RV.t 4)], R, false⟩ [.code f69_c27, .fin] ⟨args ++ List.replicate (19 - args.length) .un, pre⟩) : Tri Go.Proofs.Tryd.prog gp 69 args pre R :=
  tri_intro Go.Proofs.Tryd.func69 f69_body f69_tr f69_rs (by rw [f69_nt]; exact h)

/-! slices.IndexFunc[[]sigillary/api.Scalar,sigillary/api.Scalar] -/
def f70_r0 : List MO := [
(Qa (Qu 4) (Qc (Qn (Qo (Qp (Qq Qt 0))))))]
def f70_c0 : MC := .reg false f70_r0
def f70_r1 : List MO := [
(Qa (Qu 6) (Qc (Qm 0))),
(Qa (Qu 7) (Qj Qs (Qm 6))),
(Qa (Qu 8) (Qc (Qn (Qo (Qp (Qq Qt 0))))))]
def f70_c1 : MC := .reg false f70_r1
def f70_r2 : List MO := [
(Qa (Qu 9) (Qd Qs Go.BinOp.lss (Qm 8) (Qm 7)))]
def f70_c2 : MC := .reg false f70_r2
def f70_c3 : MC := MC.skip
def f70_c4 : MC := (MC.exit 0)
def f70_c5 : MC := .cond (Qm 9) f70_c3 f70_c4
def f70_r6 : List MO := [
(Qa (Qu 10) (Qc (Qm 8))),
(Qa (Qu 5) (Qc (Qm 10)))]
def f70_c6 : MC := .reg false f70_r6
def f70_r7 : List MO := [
(Qa (Qu 11) (Qc (Qm 1))),
(Qa (Qu 12) (Qc (Qm 0))),
(Qa (Qu 13) (Qc (Qm 5))),
(Qa (Qu 14) (Qi 3 (Qm 12) (Qm 13))),
(Qa (Qu 15) (Qe 3 true (Qm 14))),
(Qa (Qu 16) (MOp.callv (Qm 11) [(Qm 15)]))]
def f70_c7 : MC := .reg false f70_r7
def f70_r8 : List MO := [
(Qa (Qu 17) (Qc (Qm 5))),
(Qa (Qu 4) (Qc (Qm 17)))]
def f70_c8 : MC := .reg false f70_r8
def f70_c9 : MC := MC.ret
def f70_c10 : MC := .seq f70_c8 f70_c9
def f70_c11 : MC := MC.skip
def f70_c12 : MC := .cond (Qm 16) f70_c10 f70_c11
def f70_c13 : MC := .seq f70_c7 f70_c12
def f70_c14 : MC := .seq f70_c6 f70_c13
def f70_c15 : MC := .blk 1 f70_c14
def f70_r16 : List MO := [
(Qa (Qu 18) (Qd Qs Go.BinOp.add (Qm 8) (Qn (Qo (Qp (Qq Qt 1)))))),
(Qa (Qu 8) (Qc (Qm 18)))]
def f70_c16 : MC := .reg false f70_r16
def f70_c17 : MC := .seq f70_c15 f70_c16
def f70_c18 : MC := .seq f70_c5 f70_c17
def f70_c19 : MC := .seq f70_c2 f70_c18
def f70_c20 : MC := .loop f70_c19
def f70_c21 : MC := .blk 0 f70_c20
def f70_c22 : MC := .seq f70_c1 f70_c21
def f70_r23 : List MO := [
(Qa (Qu 4) (Qc (Qn (Qo (Qp (Qq Qt (-1)))))))]
def f70_c23 : MC := .reg false f70_r23
def f70_c24 : MC := MC.ret
def f70_c25 : MC := .seq f70_c23 f70_c24
def f70_c26 : MC := .seq f70_c22 f70_c25
def f70_c27 : MC := .seq f70_c0 f70_c26
noncomputable def f70_code : Code := (Go.Proofs.Tryd.f70.body).getD .skip
theorem f70_body : Go.Proofs.Tryd.f70.body = Qu f70_code := by kernel_rfl
theorem f70_tr : trC Go.Proofs.Tryd.prog [] f70_code = Qu f70_c27 := by kernel_rfl
theorem f70_rs : rsOf Go.Proofs.Tryd.prog Go.Proofs.Tryd.f70.results.toList = Qu [(RV.t 4)] := by kernel_rfl
theorem f70_nt : Go.Proofs.Tryd.f70.ntmps = 19 := by kernel_rfl
theorem f70_ok : callable Go.Proofs.Tryd.prog 70 = true := by kernel_rfl
theorem f70_in {gp : Heap} {args : List V} {res : V} (h : G ⟨Go.Proofs.Tryd.prog, gp, 0, [(RV.t 4)], fun r c => r = res ∧ c = [], false⟩ [.code f70_c27, .fin] ⟨args ++ List.replicate (19 - args.length) .un, []⟩) : Does Go.Proofs.Tryd.prog gp 70 args res :=
  does_intro f70_ok Go.Proofs.Tryd.func70 f70_body f70_tr f70_rs (by rw [f70_nt]; exact h)
theorem f70_tri {gp : Heap} {args : List V} {pre : List Ch} {R : V → List Ch → Prop} (h : G ⟨Go.Proofs.Tryd.prog, gp, pre.length, [(RV.t 4)], R, false⟩ [.code f70_c27, .fin] ⟨args ++ List.replicate (19 - args.length) .un, pre⟩) : Tri Go.Proofs.Tryd.prog gp 70 args pre R :=
  tri_intro Go.Proofs.Tryd.func70 f70_body f70_tr f70_rs (by rw [f70_nt]; exact h)

/-! sigillary/scal.fresh -/
def f71_r0 : List MO := [
(Qa (Qu 1) (MOp.ibox (Qm 0))),
(Qa (Qu 2) (Qc (Qn (Qo (Qp D.nilF)))))]
def f71_c0 : MC := .reg false f71_r0
def f71_r1 : List MO := [
(Qa (Qu 3) (MOp.mkF (Go.Fn.func 74) [(Qm 1)])),
(Qa (Qu 2) (Qc (Qm 3)))]
def f71_c1 : MC := .reg false f71_r1
def f71_c2 : MC := MC.ret
def f71_c3 : MC := .seq f71_c1 f71_c2
def f71_c4 : MC := .seq f71_c0 f71_c3
noncomputable def f71_code : Code := (Go.Proofs.Tryd.f71.body).getD .skip
theorem f71_body : Go.Proofs.Tryd.f71.body = Qu f71_code := by kernel_rfl
theorem f71_tr : trC Go.Proofs.Tryd.prog [1] f71_code = Qu f71_c4 := by kernel_rfl
theorem f71_rs : rsOf Go.Proofs.Tryd.prog Go.Proofs.Tryd.f71.results.toList = Qu [(RV.t 2)] := by kernel_rfl
theorem f71_nt : Go.Proofs.Tryd.f71.ntmps = 4 := by kernel_rfl
theorem f71_ok : callable Go.Proofs.Tryd.prog 71 = true := by kernel_rfl
theorem f71_in {gp : Heap} {args : List V} {res : V} (h : G ⟨Go.Proofs.Tryd.prog, gp, 0, [(RV.t 2)], fun r c => r = res ∧ c = [], false⟩ [.code f71_c4, .fin] ⟨args ++ List.replicate (4 - args.length) .un, []⟩) : Does Go.Proofs.Tryd.prog gp 71 args res :=
  does_intro f71_ok Go.Proofs.Tryd.func71 f71_body f71_tr f71_rs (by rw [f71_nt]; exact h)
theorem f71_tri {gp : Heap} {args : List V} {pre : List Ch} {R : V → List Ch → Prop} (h : G ⟨Go.Proofs.Tryd.prog, gp, pre.length, [(RV.t 2)], R, false⟩ [.code f71_c4, .fin] ⟨args ++ List.replicate (4 - args.length) .un, pre⟩) : Tri Go.Proofs.Tryd.prog gp 71 args pre R :=
  tri_intro Go.Proofs.Tryd.func71 f71_body f71_tr f71_rs (by rw [f71_nt]; exact h)

/-! slices.swapRangeCmpFunc[sigillary/arena.pair] -/
def f72_r0 : List MO := [
(Qa (Qu 10) (Qc (Qn (Qo (Qp (Qq Qt 0))))))]
def f72_c0 : MC := .reg false f72_r0
def f72_r1 : List MO := [
(Qa (Qu 11) (Qc (Qm 10))),
(Qa (Qu 12) (Qc (Qm 3))),
(Qa (Qu 13) (Qd Qs Go.BinOp.lss (Qm 11) (Qm 12)))]
def f72_c1 : MC := .reg false f72_r1
def f72_c2 : MC := MC.skip
def f72_c3 : MC := (MC.exit 0)
def f72_c4 : MC := .cond (Qm 13) f72_c2 f72_c3
def f72_c5 : MC := .seq f72_c1 f72_c4
def f72_r6 : List MO := [
(Qa (Qu 16) (Qc (Qm 0))),
(Qa (Qu 17) (Qc (Qm 1))),
(Qa (Qu 18) (Qc (Qm 10))),
(Qa (Qu 19) (Qd Qs Go.BinOp.add (Qm 17) (Qm 18))),
(Qa (Qu 20) (Qc (Qm 0))),
(Qa (Qu 21) (Qc (Qm 2))),
(Qa (Qu 22) (Qc (Qm 10))),
(Qa (Qu 23) (Qd Qs Go.BinOp.add (Qm 21) (Qm 22))),
(Qa (Qu 24) (Qc (Qm 0))),
(Qa (Qu 25) (Qc (Qm 2))),
(Qa (Qu 26) (Qc (Qm 10))),
(Qa (Qu 27) (Qd Qs Go.BinOp.add (Qm 25) (Qm 26))),
(Qa (Qu 28) (Qi 4 (Qm 24) (Qm 27))),
(Qa (Qu 29) (Qe 4 true (Qm 28))),
(Qa (Qu 30) (Qc (Qm 0))),
(Qa (Qu 31) (Qc (Qm 1))),
(Qa (Qu 32) (Qc (Qm 10))),
(Qa (Qu 33) (Qd Qs Go.BinOp.add (Qm 31) (Qm 32))),
(Qa (Qu 34) (Qi 4 (Qm 30) (Qm 33))),
(Qa (Qu 35) (Qe 4 true (Qm 34))),
(Qa (Qu 36) (Qi 4 (Qm 16) (Qm 19))),
(Qa none (Qk 4 (Qm 36) (Qm 29))),
(Qa (Qu 37) (Qi 4 (Qm 20) (Qm 23))),
(Qa none (Qk 4 (Qm 37) (Qm 35)))]
def f72_c6 : MC := .reg true f72_r6
def f72_c7 : MC := .blk 1 f72_c6
def f72_r8 : List MO := [
(Qa (Qu 14) (Qc (Qm 10))),
(Qa (Qu 15) (Qd Qs Go.BinOp.add (Qm 14) (Qn (Qo (Qp (Qq Qt 1)))))),
(Qa (Qu 10) (Qc (Qm 15)))]
def f72_c8 : MC := .reg false f72_r8
def f72_c9 : MC := .seq f72_c7 f72_c8
def f72_c10 : MC := .seq f72_c5 f72_c9
def f72_c11 : MC := .loop f72_c10
def f72_c12 : MC := .blk 0 f72_c11
def f72_c13 : MC := .seq f72_c0 f72_c12
noncomputable def f72_code : Code := (Go.Proofs.Tryd.f72.body).getD .skip
theorem f72_body : Go.Proofs.Tryd.f72.body = Qu f72_code := by kernel_rfl
theorem f72_tr : trC Go.Proofs.Tryd.prog [] f72_code = Qu f72_c13 := by kernel_rfl
theorem f72_rs : rsOf Go.Proofs.Tryd.prog Go.Proofs.Tryd.f72.results.toList = Qu [] := by kernel_rfl
theorem f72_nt : Go.Proofs.Tryd.f72.ntmps = 38 := by kernel_rfl
theorem f72_ok : callable Go.Proofs.Tryd.prog 72 = true := by kernel_rfl
theorem f72_in {gp : Heap} {args : List V} {res : V} (h : G ⟨Go.Proofs.Tryd.prog, gp, 0, [], fun r c => r = res ∧ c = [], false⟩ [.code f72_c13, .fin] ⟨args ++ List.replicate (38 - args.length) .un, []⟩) : Does Go.Proofs.Tryd.prog gp 72 args res :=
  does_intro f72_ok Go.Proofs.Tryd.func72 f72_body f72_tr f72_rs (by rw [f72_nt]; exact h)
theorem f72_tri {gp : Heap} {args : List V} {pre : List Ch} {R : V → List Ch → Prop} (h : G ⟨Go.Proofs.Tryd.prog, gp, pre.length, [], R, false⟩ [.code f72_c13, .fin] ⟨args ++ List.replicate (38 - args.length) .un, pre⟩) : Tri Go.Proofs.Tryd.prog gp 72 args pre R :=
  tri_intro Go.Proofs.Tryd.func72 f72_body f72_tr f72_rs (by rw [f72_nt]; exact h)

/-! unicode/utf8.decodeRuneInStringSlow -/
def f73_r0 : List MO := [
(Qa (Qu 2) (Qc (Qn (Qo (Qp (Qq Go.IntKind.i32 0)))))),
(Qa (Qu 3) (Qc (Qn (Qo (Qp (Qq Qt 0))))))]
def f73_c0 : MC := .reg false f73_r0
def f73_r1 : List MO := [
(Qa (Qu 13) (Qc (Qm 0))),
(Qa (Qu 14) (Qj Leaf.s (Qm 13))),
(Qa (Qu 4) (Qc (Qm 14)))]
def f73_c1 : MC := .reg false f73_r1
def f73_r2 : List MO := [
(Qa (Qu 15) (Qc (Qm 4))),
(Qa (Qu 16) (Qd Qs Go.BinOp.lss (Qm 15) (Qn (Qo (Qp (Qq Qt 1))))))]
def f73_c2 : MC := .reg false f73_r2
def f73_r3 : List MO := [
(Qa (Qu 2) (Qc (Qn (Qo (Qp (Qq Go.IntKind.i32 65533)))))),
(Qa (Qu 3) (Qc (Qn (Qo (Qp (Qq Qt 0))))))]
def f73_c3 : MC := .reg false f73_r3
def f73_c4 : MC := MC.ret
def f73_c5 : MC := .seq f73_c3 f73_c4
def f73_c6 : MC := MC.skip
def f73_c7 : MC := .cond (Qm 16) f73_c5 f73_c6
def f73_c8 : MC := .seq f73_c2 f73_c7
def f73_r9 : List MO := [
(Qa (Qu 17) (Qc (Qm 0))),
(Qa (Qu 18) (MOp.idxS (Qm 17) (Qn (Qo (Qp (Qq Qt 0)))))),
(Qa (Qu 5) (Qc (Qm 18)))]
def f73_c9 : MC := .reg false f73_r9
def f73_r10 : List MO := [
(Qa (Qu 19) (Qc (Qm 5))),
(Qa (Qu 20) (MOp.iadA 256 1 (Qn (Qo (Qp (D.raw (Go.Value.pointer (Qu (Go.Addr.mk 1 0 none))))))) (Qm 19))),
(Qa (Qu 21) (Qe 1 false (Qm 20))),
(Qa (Qu 6) (Qc (Qm 21)))]
def f73_c10 : MC := .reg false f73_r10
def f73_r11 : List MO := [
(Qa (Qu 22) (Qc (Qm 6))),
(Qa (Qu 23) (Qd Qs Go.BinOp.geq (Qm 22) (Qn (Qo (Qp (Qq Go.IntKind.u8 240))))))]
def f73_c11 : MC := .reg false f73_r11
def f73_r12 : List MO := [
(Qa (Qu 24) (Qc (Qm 6))),
(Qa (Qu 25) (MOp.conv Go.IntKind.i32 (Qm 24))),
(Qa (Qu 26) (Qd Qs Go.BinOp.shl (Qm 25) (Qn (Qo (Qp (Qq Go.IntKind.u64 31)))))),
(Qa (Qu 27) (Qd Qs Go.BinOp.shr (Qm 26) (Qn (Qo (Qp (Qq Go.IntKind.u64 31)))))),
(Qa (Qu 7) (Qc (Qm 27)))]
def f73_c12 : MC := .reg false f73_r12
def f73_r13 : List MO := [
(Qa (Qu 28) (Qc (Qm 0))),
(Qa (Qu 29) (MOp.idxS (Qm 28) (Qn (Qo (Qp (Qq Qt 0)))))),
(Qa (Qu 30) (MOp.conv Go.IntKind.i32 (Qm 29))),
(Qa (Qu 31) (Qc (Qm 7))),
(Qa (Qu 32) (Qd Qs Go.BinOp.andNot (Qm 30) (Qm 31))),
(Qa (Qu 33) (Qc (Qm 7))),
(Qa (Qu 34) (Qd Qs Go.BinOp.and (Qn (Qo (Qp (Qq Go.IntKind.i32 65533)))) (Qm 33))),
(Qa (Qu 35) (Qd Qs Go.BinOp.or (Qm 32) (Qm 34))),
(Qa (Qu 2) (Qc (Qm 35))),
(Qa (Qu 3) (Qc (Qn (Qo (Qp (Qq Qt 1))))))]
def f73_c13 : MC := .reg false f73_r13
def f73_c14 : MC := MC.ret
def f73_c15 : MC := .seq f73_c13 f73_c14
def f73_c16 : MC := .seq f73_c12 f73_c15
def f73_c17 : MC := MC.skip
def f73_c18 : MC := .cond (Qm 23) f73_c16 f73_c17
def f73_c19 : MC := .seq f73_c11 f73_c18
def f73_r20 : List MO := [
(Qa (Qu 36) (Qc (Qm 6))),
(Qa (Qu 37) (Qd Qs Go.BinOp.and (Qm 36) (Qn (Qo (Qp (Qq Go.IntKind.u8 7)))))),
(Qa (Qu 38) (MOp.conv Qt (Qm 37))),
(Qa (Qu 8) (Qc (Qm 38)))]
def f73_c20 : MC := .reg false f73_r20
def f73_r21 : List MO := [
(Qa (Qu 39) (Qc (Qm 6))),
(Qa (Qu 40) (Qd Qs Go.BinOp.shr (Qm 39) (Qn (Qo (Qp (Qq Go.IntKind.u64 4)))))),
(Qa (Qu 41) (MOp.iadA 16 2 (Qn (Qo (Qp (D.raw (Go.Value.pointer (Qu (Go.Addr.mk 2 0 none))))))) (Qm 40))),
(Qa (Qu 42) (Qe 2 true (Qm 41))),
(Qa (Qu 9) (MOp.alloc [(Qq Go.IntKind.u8 0), (Qq Go.IntKind.u8 0)])),
(Qa none (Qk 2 (Qm 9) (Qm 42)))]
def f73_c21 : MC := .reg false f73_r21
def f73_r22 : List MO := [
(Qa (Qu 43) (Qc (Qm 4))),
(Qa (Qu 44) (Qc (Qm 8))),
(Qa (Qu 45) (Qd Qs Go.BinOp.lss (Qm 43) (Qm 44)))]
def f73_c22 : MC := .reg false f73_r22
def f73_r23 : List MO := [
(Qa (Qu 2) (Qc (Qn (Qo (Qp (Qq Go.IntKind.i32 65533)))))),
(Qa (Qu 3) (Qc (Qn (Qo (Qp (Qq Qt 1))))))]
def f73_c23 : MC := .reg false f73_r23
def f73_c24 : MC := MC.ret
def f73_c25 : MC := .seq f73_c23 f73_c24
def f73_c26 : MC := MC.skip
def f73_c27 : MC := .cond (Qm 45) f73_c25 f73_c26
def f73_c28 : MC := .seq f73_c22 f73_c27
def f73_r29 : List MO := [
(Qa (Qu 46) (Qc (Qm 0))),
(Qa (Qu 47) (MOp.idxS (Qm 46) (Qn (Qo (Qp (Qq Qt 1)))))),
(Qa (Qu 10) (Qc (Qm 47)))]
def f73_c29 : MC := .reg false f73_r29
def f73_r30 : List MO := [
(Qa (Qu 48) (Qc (Qm 10))),
(Qa (Qu 49) (Qf 0 (Qm 9))),
(Qa (Qu 50) (Qe 1 false (Qm 49))),
(Qa (Qu 51) (Qd Qs Go.BinOp.lss (Qm 48) (Qm 50))),
(Qa (Qu 52) (Qc (Qm 51))),
(Qb 52 false (Qu 53)),
(Qa (Qu 53) (Qf 1 (Qm 9))),
(Qb 52 false (Qu 54)),
(Qa (Qu 54) (Qe 1 false (Qm 53))),
(Qb 52 false (Qu 55)),
(Qa (Qu 55) (Qc (Qm 10))),
(Qb 52 false (Qu 56)),
(Qa (Qu 56) (Qd Qs Go.BinOp.lss (Qm 54) (Qm 55))),
(Qa (Qu 57) (Ql (Qm 52) (Qn (Qo (Qp (Qr true)))) (Qm 56)))]
def f73_c30 : MC := .reg false f73_r30
def f73_r31 : List MO := [
(Qa (Qu 2) (Qc (Qn (Qo (Qp (Qq Go.IntKind.i32 65533)))))),
(Qa (Qu 3) (Qc (Qn (Qo (Qp (Qq Qt 1))))))]
def f73_c31 : MC := .reg false f73_r31
def f73_c32 : MC := MC.ret
def f73_c33 : MC := .seq f73_c31 f73_c32
def f73_c34 : MC := MC.skip
def f73_c35 : MC := .cond (Qm 57) f73_c33 f73_c34
def f73_c36 : MC := .seq f73_c30 f73_c35
def f73_r37 : List MO := [
(Qa (Qu 58) (Qc (Qm 8))),
(Qa (Qu 59) (Qd Qs Go.BinOp.leq (Qm 58) (Qn (Qo (Qp (Qq Qt 2))))))]
def f73_c37 : MC := .reg false f73_r37
def f73_r38 : List MO := [
(Qa (Qu 60) (Qc (Qm 5))),
(Qa (Qu 61) (Qd Qs Go.BinOp.and (Qm 60) (Qn (Qo (Qp (Qq Go.IntKind.u8 31)))))),
(Qa (Qu 62) (MOp.conv Go.IntKind.i32 (Qm 61))),
(Qa (Qu 63) (Qd Qs Go.BinOp.shl (Qm 62) (Qn (Qo (Qp (Qq Go.IntKind.u64 6)))))),
(Qa (Qu 64) (Qc (Qm 10))),
(Qa (Qu 65) (Qd Qs Go.BinOp.and (Qm 64) (Qn (Qo (Qp (Qq Go.IntKind.u8 63)))))),
(Qa (Qu 66) (MOp.conv Go.IntKind.i32 (Qm 65))),
(Qa (Qu 67) (Qd Qs Go.BinOp.or (Qm 63) (Qm 66))),
(Qa (Qu 2) (Qc (Qm 67))),
(Qa (Qu 3) (Qc (Qn (Qo (Qp (Qq Qt 2))))))]
def f73_c38 : MC := .reg false f73_r38
def f73_c39 : MC := MC.ret
def f73_c40 : MC := .seq f73_c38 f73_c39
def f73_c41 : MC := MC.skip
def f73_c42 : MC := .cond (Qm 59) f73_c40 f73_c41
def f73_c43 : MC := .seq f73_c37 f73_c42
def f73_r44 : List MO := [
(Qa (Qu 68) (Qc (Qm 0))),
(Qa (Qu 69) (MOp.idxS (Qm 68) (Qn (Qo (Qp (Qq Qt 2)))))),
(Qa (Qu 11) (Qc (Qm 69)))]
def f73_c44 : MC := .reg false f73_r44
def f73_r45 : List MO := [
(Qa (Qu 70) (Qc (Qm 11))),
(Qa (Qu 71) (Qd Qs Go.BinOp.lss (Qm 70) (Qn (Qo (Qp (Qq Go.IntKind.u8 128)))))),
(Qa (Qu 72) (Qc (Qm 71))),
(Qb 72 false (Qu 73)),
(Qa (Qu 73) (Qc (Qm 11))),
(Qb 72 false (Qu 74)),
(Qa (Qu 74) (Qd Qs Go.BinOp.lss (Qn (Qo (Qp (Qq Go.IntKind.u8 191)))) (Qm 73))),
(Qa (Qu 75) (Ql (Qm 72) (Qn (Qo (Qp (Qr true)))) (Qm 74)))]
def f73_c45 : MC := .reg false f73_r45
def f73_r46 : List MO := [
(Qa (Qu 2) (Qc (Qn (Qo (Qp (Qq Go.IntKind.i32 65533)))))),
(Qa (Qu 3) (Qc (Qn (Qo (Qp (Qq Qt 1))))))]
def f73_c46 : MC := .reg false f73_r46
def f73_c47 : MC := MC.ret
def f73_c48 : MC := .seq f73_c46 f73_c47
def f73_c49 : MC := MC.skip
def f73_c50 : MC := .cond (Qm 75) f73_c48 f73_c49
def f73_c51 : MC := .seq f73_c45 f73_c50
def f73_r52 : List MO := [
(Qa (Qu 76) (Qc (Qm 8))),
(Qa (Qu 77) (Qd Qs Go.BinOp.leq (Qm 76) (Qn (Qo (Qp (Qq Qt 3))))))]
def f73_c52 : MC := .reg false f73_r52
def f73_r53 : List MO := [
(Qa (Qu 78) (Qc (Qm 5))),
(Qa (Qu 79) (Qd Qs Go.BinOp.and (Qm 78) (Qn (Qo (Qp (Qq Go.IntKind.u8 15)))))),
(Qa (Qu 80) (MOp.conv Go.IntKind.i32 (Qm 79))),
(Qa (Qu 81) (Qd Qs Go.BinOp.shl (Qm 80) (Qn (Qo (Qp (Qq Go.IntKind.u64 12)))))),
(Qa (Qu 82) (Qc (Qm 10))),
(Qa (Qu 83) (Qd Qs Go.BinOp.and (Qm 82) (Qn (Qo (Qp (Qq Go.IntKind.u8 63)))))),
(Qa (Qu 84) (MOp.conv Go.IntKind.i32 (Qm 83))),
(Qa (Qu 85) (Qd Qs Go.BinOp.shl (Qm 84) (Qn (Qo (Qp (Qq Go.IntKind.u64 6)))))),
(Qa (Qu 86) (Qd Qs Go.BinOp.or (Qm 81) (Qm 85))),
(Qa (Qu 87) (Qc (Qm 11))),
(Qa (Qu 88) (Qd Qs Go.BinOp.and (Qm 87) (Qn (Qo (Qp (Qq Go.IntKind.u8 63)))))),
(Qa (Qu 89) (MOp.conv Go.IntKind.i32 (Qm 88))),
(Qa (Qu 90) (Qd Qs Go.BinOp.or (Qm 86) (Qm 89))),
(Qa (Qu 2) (Qc (Qm 90))),
(Qa (Qu 3) (Qc (Qn (Qo (Qp (Qq Qt 3))))))]
def f73_c53 : MC := .reg false f73_r53
def f73_c54 : MC := MC.ret
def f73_c55 : MC := .seq f73_c53 f73_c54
def f73_c56 : MC := MC.skip
def f73_c57 : MC := .cond (Qm 77) f73_c55 f73_c56
def f73_c58 : MC := .seq f73_c52 f73_c57
def f73_r59 : List MO := [
(Qa (Qu 91) (Qc (Qm 0))),
(Qa (Qu 92) (MOp.idxS (Qm 91) (Qn (Qo (Qp (Qq Qt 3)))))),
(Qa (Qu 12) (Qc (Qm 92)))]
def f73_c59 : MC := .reg false f73_r59
def f73_r60 : List MO := [
(Qa (Qu 93) (Qc (Qm 12))),
(Qa (Qu 94) (Qd Qs Go.BinOp.lss (Qm 93) (Qn (Qo (Qp (Qq Go.IntKind.u8 128)))))),
(Qa (Qu 95) (Qc (Qm 94))),
(Qb 95 false (Qu 96)),
(Qa (Qu 96) (Qc (Qm 12))),
(Qb 95 false (Qu 97)),
(Qa (Qu 97) (Qd Qs Go.BinOp.lss (Qn (Qo (Qp (Qq Go.IntKind.u8 191)))) (Qm 96))),
(Qa (Qu 98) (Ql (Qm 95) (Qn (Qo (Qp (Qr true)))) (Qm 97)))]
def f73_c60 : MC := .reg false f73_r60
def f73_r61 : List MO := [
(Qa (Qu 2) (Qc (Qn (Qo (Qp (Qq Go.IntKind.i32 65533)))))),
(Qa (Qu 3) (Qc (Qn (Qo (Qp (Qq Qt 1))))))]
def f73_c61 : MC := .reg false f73_r61
def f73_c62 : MC := MC.ret
def f73_c63 : MC := .seq f73_c61 f73_c62
def f73_c64 : MC := MC.skip
def f73_c65 : MC := .cond (Qm 98) f73_c63 f73_c64
def f73_c66 : MC := .seq f73_c60 f73_c65
def f73_r67 : List MO := [
(Qa (Qu 99) (Qc (Qm 5))),
(Qa (Qu 100) (Qd Qs Go.BinOp.and (Qm 99) (Qn (Qo (Qp (Qq Go.IntKind.u8 7)))))),
(Qa (Qu 101) (MOp.conv Go.IntKind.i32 (Qm 100))),
(Qa (Qu 102) (Qd Qs Go.BinOp.shl (Qm 101) (Qn (Qo (Qp (Qq Go.IntKind.u64 18)))))),
(Qa (Qu 103) (Qc (Qm 10))),
(Qa (Qu 104) (Qd Qs Go.BinOp.and (Qm 103) (Qn (Qo (Qp (Qq Go.IntKind.u8 63)))))),
(Qa (Qu 105) (MOp.conv Go.IntKind.i32 (Qm 104))),
(Qa (Qu 106) (Qd Qs Go.BinOp.shl (Qm 105) (Qn (Qo (Qp (Qq Go.IntKind.u64 12)))))),
(Qa (Qu 107) (Qd Qs Go.BinOp.or (Qm 102) (Qm 106))),
(Qa (Qu 108) (Qc (Qm 11))),
(Qa (Qu 109) (Qd Qs Go.BinOp.and (Qm 108) (Qn (Qo (Qp (Qq Go.IntKind.u8 63)))))),
(Qa (Qu 110) (MOp.conv Go.IntKind.i32 (Qm 109))),
(Qa (Qu 111) (Qd Qs Go.BinOp.shl (Qm 110) (Qn (Qo (Qp (Qq Go.IntKind.u64 6)))))),
(Qa (Qu 112) (Qd Qs Go.BinOp.or (Qm 107) (Qm 111))),
(Qa (Qu 113) (Qc (Qm 12))),
(Qa (Qu 114) (Qd Qs Go.BinOp.and (Qm 113) (Qn (Qo (Qp (Qq Go.IntKind.u8 63)))))),
(Qa (Qu 115) (MOp.conv Go.IntKind.i32 (Qm 114))),
(Qa (Qu 116) (Qd Qs Go.BinOp.or (Qm 112) (Qm 115))),
(Qa (Qu 2) (Qc (Qm 116))),
(Qa (Qu 3) (Qc (Qn (Qo (Qp (Qq Qt 4))))))]
def f73_c67 : MC := .reg false f73_r67
def f73_c68 : MC := MC.ret
def f73_c69 : MC := .seq f73_c67 f73_c68
def f73_c70 : MC := .seq f73_c66 f73_c69
def f73_c71 : MC := .seq f73_c59 f73_c70
def f73_c72 : MC := .seq f73_c58 f73_c71
def f73_c73 : MC := .seq f73_c51 f73_c72
def f73_c74 : MC := .seq f73_c44 f73_c73
def f73_c75 : MC := .seq f73_c43 f73_c74
def f73_c76 : MC := .seq f73_c36 f73_c75
def f73_c77 : MC := .seq f73_c29 f73_c76
def f73_c78 : MC := .seq f73_c28 f73_c77
def f73_c79 : MC := .seq f73_c21 f73_c78
def f73_c80 : MC := .seq f73_c20 f73_c79
def f73_c81 : MC := .seq f73_c19 f73_c80
def f73_c82 : MC := .seq f73_c10 f73_c81
def f73_c83 : MC := .seq f73_c9 f73_c82
def f73_c84 : MC := .seq f73_c8 f73_c83
def f73_c85 : MC := .seq f73_c1 f73_c84
def f73_c86 : MC := .seq f73_c0 f73_c85
noncomputable def f73_code : Code := (Go.Proofs.Tryd.f73.body).getD .skip
theorem f73_body : Go.Proofs.Tryd.f73.body = Qu f73_code := by kernel_rfl
theorem f73_tr : trC Go.Proofs.Tryd.prog [] f73_code = Qu f73_c86 := by kernel_rfl
theorem f73_rs : rsOf Go.Proofs.Tryd.prog Go.Proofs.Tryd.f73.results.toList = Qu [(RV.t 2), (RV.t 3)] := by kernel_rfl
theorem f73_nt : Go.Proofs.Tryd.f73.ntmps = 117 := by kernel_rfl
theorem f73_ok : callable Go.Proofs.Tryd.prog 73 = true := by kernel_rfl
theorem f73_in {gp : Heap} {args : List V} {res : V} (h : G ⟨Go.Proofs.Tryd.prog, gp, 0, [(RV.t 2), (RV.t 3)], fun r c => r = res ∧ c = [], false⟩ [.code f73_c86, .fin] ⟨args ++ List.replicate (117 - args.length) .un, []⟩) : Does Go.Proofs.Tryd.prog gp 73 args res :=
  does_intro f73_ok Go.Proofs.Tryd.func73 f73_body f73_tr f73_rs (by rw [f73_nt]; exact h)
theorem f73_tri {gp : Heap} {args : List V} {pre : List Ch} {R : V → List Ch → Prop} (h : G ⟨Go.Proofs.Tryd.prog, gp, pre.length, [(RV.t 2), (RV.t 3)], R, false⟩ [.code f73_c86, .fin] ⟨args ++ List.replicate (117 - args.length) .un, pre⟩) : Tri Go.Proofs.Tryd.prog gp 73 args pre R :=
  tri_intro Go.Proofs.Tryd.func73 f73_body f73_tr f73_rs (by rw [f73_nt]; exact h)

/-! sigillary/scal.fresh$1 -/
def f74_r0 : List MO := [
(Qa (Qu 6) MOp.mkM),
(Qa (Qu 3) (Qc (Qm 6)))]
def f74_c0 : MC := .reg false f74_r0
def f74_c1 : MC := MC.skip
def f74_r2 : List MO := [
(Qa (Qu 7) (Qe 1 false (Qm 1))),
(Qa (Qu 8) (Qj Qs (Qm 7))),
(Qa (Qu 9) (Qc (Qn (Qo (Qp (Qq Qt 0))))))]
def f74_c2 : MC := .reg false f74_r2
def f74_r3 : List MO := [
(Qa (Qu 10) (Qd Qs Go.BinOp.lss (Qm 9) (Qm 8)))]
def f74_c3 : MC := .reg false f74_r3
def f74_c4 : MC := MC.skip
def f74_c5 : MC := (MC.exit 0)
def f74_c6 : MC := .cond (Qm 10) f74_c4 f74_c5
def f74_r7 : List MO := [
(Qa (Qu 11) (Qi 3 (Qm 7) (Qm 9))),
(Qa (Qu 12) (Qe 3 true (Qm 11))),
(Qa (Qu 5) (MOp.alloc [(Qq Qt 0), (Qq Qt 0), (D.str (ByteArray.mk #[]))])),
(Qa none (Qk 3 (Qm 5) (Qm 12)))]
def f74_c7 : MC := .reg false f74_r7
def f74_r8 : List MO := [
(Qa (Qu 13) (Qc (Qm 3))),
(Qa (Qu 14) (Qe 3 true (Qm 5))),
(Qa (Qu 15) (MOp.lkp false (Qo (Qp (Qr false))) true [Qs, Qs, Leaf.s] (Qm 13) (Qm 14))),
(Qa (Qu 16) (Qc (Qm 15))),
(Qb 16 false (Qu 17)),
(Qa (Qu 17) (Qc (Qm 0))),
(Qb 16 false (Qu 18)),
(Qa (Qu 18) (Qe 3 true (Qm 5))),
(Qb 16 false (Qu 19)),
(Qa (Qu 19) (MOp.callv (Qm 17) [(Qm 18)])),
(Qb 16 false (Qu 20)),
(Qa (Qu 20) (MOp.not (Qm 19))),
(Qa (Qu 21) (Ql (Qm 16) (Qn (Qo (Qp (Qr true)))) (Qm 20)))]
def f74_c8 : MC := .reg false f74_r8
def f74_c9 : MC := (MC.exit 0)
def f74_c10 : MC := MC.skip
def f74_c11 : MC := .cond (Qm 21) f74_c9 f74_c10
def f74_c12 : MC := .seq f74_c8 f74_c11
def f74_r13 : List MO := [
(Qa (Qu 22) (Qc (Qm 3))),
(Qa (Qu 23) (Qe 3 true (Qm 5))),
(Qa none (MOp.mupd true [Qs, Qs, Leaf.s] (Qm 22) (Qm 23) (Qn (Qo (Qp (Qr true))))))]
def f74_c13 : MC := .reg false f74_r13
def f74_c14 : MC := .seq f74_c12 f74_c13
def f74_c15 : MC := .seq f74_c7 f74_c14
def f74_c16 : MC := .blk 1 f74_c15
def f74_r17 : List MO := [
(Qa (Qu 24) (Qd Qs Go.BinOp.add (Qm 9) (Qn (Qo (Qp (Qq Qt 1)))))),
(Qa (Qu 9) (Qc (Qm 24)))]
def f74_c17 : MC := .reg false f74_r17
def f74_c18 : MC := .seq f74_c16 f74_c17
def f74_c19 : MC := .seq f74_c6 f74_c18
def f74_c20 : MC := .seq f74_c3 f74_c19
def f74_c21 : MC := .loop f74_c20
def f74_c22 : MC := .blk 0 f74_c21
def f74_c23 : MC := .seq f74_c2 f74_c22
def f74_c24 : MC := .seq f74_c1 f74_c23
def f74_c25 : MC := .seq f74_c0 f74_c24
def f74_c26 : MC := .scope f74_c25
noncomputable def f74_code : Code := (Go.Proofs.Tryd.f74.body).getD .skip
theorem f74_body : Go.Proofs.Tryd.f74.body = Qu f74_code := by kernel_rfl
theorem f74_tr : trC Go.Proofs.Tryd.prog [] f74_code = Qu f74_c26 := by kernel_rfl
theorem f74_rs : rsOf Go.Proofs.Tryd.prog Go.Proofs.Tryd.f74.results.toList = Qu [] := by kernel_rfl
theorem f74_nt : Go.Proofs.Tryd.f74.ntmps = 25 := by kernel_rfl
theorem f74_ok : callable Go.Proofs.Tryd.prog 74 = true := by kernel_rfl
theorem f74_in {gp : Heap} {args : List V} {res : V} (h : G ⟨Go.Proofs.Tryd.prog, gp, 0, [], fun r c => r = res ∧ c = [], false⟩ [.code f74_c26, .fin] ⟨args ++ List.replicate (25 - args.length) .un, []⟩) : Does Go.Proofs.Tryd.prog gp 74 args res :=
  does_intro f74_ok Go.Proofs.Tryd.func74 f74_body f74_tr f74_rs (by rw [f74_nt]; exact h)
theorem f74_tri {gp : Heap} {args : List V} {pre : List Ch} {R : V → List Ch → Prop} (h : G ⟨Go.Proofs.Tryd.prog, gp, pre.length, [], R, false⟩ [.code f74_c26, .fin] ⟨args ++ List.replicate (25 - args.length) .un, pre⟩) : Tri Go.Proofs.Tryd.prog gp 74 args pre R :=
  tri_intro Go.Proofs.Tryd.func74 f74_body f74_tr f74_rs (by rw [f74_nt]; exact h)

end Go.Fw.L07
