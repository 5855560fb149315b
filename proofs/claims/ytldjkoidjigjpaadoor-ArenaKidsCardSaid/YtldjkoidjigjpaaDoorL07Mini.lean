/- Small codes. -/
import Derived.Test.YtldjkoidjigjpaaDoorFd
import Derived.Test.YtldjkoidjigjpaaDoorProg
set_option linter.all false
namespace Go.Fw.L07
open Go Go.Fw
open Go.Fw.MO renaming op → Qa, chk → Qb, opx → Qc
open Go.Fw.MOp renaming mv → Qd, bin → Qe, load → Qf, fad → Qg, call → Qh, ext → Qi, iad → Qj, len → Qk, store → Ql, pick → Qm
open Go.Fw.Opd renaming t → Qn, c → Qo
open Go.Fw.V renaming one → Qp
open Go.Fw.A renaming d → Qq
open Go.Fw.D renaming int → Qr, bool → Qs
open Go.Fw.Leaf renaming i → Qt
open Go.IntKind renaming i64 → Qu
open Option renaming some → Qv
def f3_r0 : List MO := [
(Qa (Qv 2) (MOp.box (Qn 0))),
(Qa (Qv 4) (Qd (Qo (Qp (Qq (Qs false))))))]
def f3_c0 : MC := .reg false f3_r0
def f3_r1 : List MO := [
(Qa (Qv 16) (Qh 5 [])),
(Qa (Qv 5) (Qd (Qn 16)))]
def f3_c1 : MC := .reg false f3_r1
def f3_r2 : List MO := [
(Qa (Qv 17) (Qf 2 true (Qn 2))),
(Qa (Qv 18) (Qh 6 [(Qn 17)])),
(Qa none (Ql 2 (Qn 2) (Qn 18)))]
def f3_c2 : MC := .reg false f3_r2
def f3_r3 : List MO := [
(Qa (Qv 20) (Qf 2 true (Qn 2))),
(Qa (Qv 21) (Qh 7 [(Qn 20)])),
(Qa (Qv 19) (Qd (Qn 21))),
(Qa (Qv 22) (Qi (Qn 19) 0)),
(Qa (Qv 23) (Qi (Qn 19) 1)),
(Qa (Qv 6) (Qd (Qn 22))),
(Qa (Qv 7) (Qd (Qn 23)))]
def f3_c3 : MC := .reg false f3_r3
def f3_r4 : List MO := [
(Qa (Qv 25) (Qf 2 true (Qn 2))),
(Qa (Qv 26) (Qd (Qn 1))),
(Qa (Qv 27) (Qh 8 [(Qn 25), (Qn 26)])),
(Qa (Qv 24) (Qd (Qn 27))),
(Qa (Qv 28) (Qi (Qn 24) 0)),
(Qa (Qv 29) (Qi (Qn 24) 1)),
(Qa (Qv 8) (Qd (Qn 28))),
(Qa (Qv 9) (Qd (Qn 29)))]
def f3_c4 : MC := .reg false f3_r4
def f3_r5 : List MO := [
(Qa (Qv 31) (Qf 2 true (Qn 2))),
(Qa (Qv 32) (Qd (Qn 1))),
(Qa (Qv 33) (Qh 9 [(Qn 31), (Qn 32)])),
(Qa (Qv 30) (Qd (Qn 33))),
(Qa (Qv 34) (Qi (Qn 30) 0)),
(Qa (Qv 35) (Qi (Qn 30) 1)),
(Qa (Qv 10) (Qd (Qn 34))),
(Qa (Qv 11) (Qd (Qn 35)))]
def f3_c5 : MC := .reg false f3_r5
def f3_r6 : List MO := [
(Qa (Qv 36) (Qd (Qn 7))),
(Qa (Qv 37) (Qe Qt Go.BinOp.neq (Qn 36) (Qo (Qp (Qq (Qr Qu 0)))))),
(Qa (Qv 38) (Qd (Qn 37))),
(Qb 38 false (Qv 39)),
(Qa (Qv 39) (Qd (Qn 1))),
(Qb 38 false (Qv 40)),
(Qa (Qv 40) (Qe Qt Go.BinOp.lss (Qn 39) (Qo (Qp (Qq (Qr Qu 0)))))),
(Qa (Qv 41) (Qm (Qn 38) (Qo (Qp (Qq (Qs true)))) (Qn 40))),
(Qa (Qv 42) (Qd (Qn 41))),
(Qb 42 false (Qv 43)),
(Qa (Qv 43) (Qd (Qn 1))),
(Qb 42 false (Qv 44)),
(Qa (Qv 44) (Qg 1 (Qn 2))),
(Qb 42 false (Qv 45)),
(Qa (Qv 45) (Qf 1 false (Qn 44))),
(Qb 42 false (Qv 46)),
(Qa (Qv 46) (Qk Qt (Qn 45))),
(Qb 42 false (Qv 47)),
(Qa (Qv 47) (Qe Qt Go.BinOp.geq (Qn 43) (Qn 46))),
(Qa (Qv 48) (Qm (Qn 42) (Qo (Qp (Qq (Qs true)))) (Qn 47)))]
def f3_c6 : MC := .reg false f3_r6
def f3_r7 : List MO := [
(Qa (Qv 49) (Qd (Qn 5))),
(Qa (Qv 50) (Qd (Qn 49))),
(Qb 50 true (Qv 51)),
(Qa (Qv 51) (Qd (Qn 9))),
(Qb 50 true (Qv 52)),
(Qa (Qv 52) (Qd (Qn 11))),
(Qb 50 true (Qv 53)),
(Qa (Qv 53) (Qe Qt Go.BinOp.eql (Qn 51) (Qn 52))),
(Qa (Qv 54) (Qm (Qn 50) (Qn 53) (Qo (Qp (Qq (Qs false)))))),
(Qa (Qv 55) (Qd (Qn 54))),
(Qb 55 true (Qv 56)),
(Qa (Qv 56) (Qd (Qn 9))),
(Qb 55 true (Qv 57)),
(Qa (Qv 57) (Qe Qt Go.BinOp.eql (Qn 56) (Qo (Qp (Qq (Qr Qu 0)))))),
(Qb 55 true (Qv 58)),
(Qa (Qv 58) (Qd (Qn 1))),
(Qb 55 true (Qv 59)),
(Qa (Qv 59) (Qe Qt Go.BinOp.geq (Qn 58) (Qo (Qp (Qq (Qr Qu 0)))))),
(Qb 55 true (Qv 60)),
(Qa (Qv 60) (Qd (Qn 59))),
(Qb 60 true (Qv 61)),
(Qa (Qv 61) (Qd (Qn 1))),
(Qb 60 true (Qv 62)),
(Qa (Qv 62) (Qg 1 (Qn 2))),
(Qb 60 true (Qv 63)),
(Qa (Qv 63) (Qf 1 false (Qn 62))),
(Qb 60 true (Qv 64)),
(Qa (Qv 64) (Qk Qt (Qn 63))),
(Qb 60 true (Qv 65)),
(Qa (Qv 65) (Qe Qt Go.BinOp.lss (Qn 61) (Qn 64))),
(Qb 55 true (Qv 66)),
(Qa (Qv 66) (Qm (Qn 60) (Qn 65) (Qo (Qp (Qq (Qs false)))))),
(Qb 55 true (Qv 67)),
(Qa (Qv 67) (Qe Leaf.b Go.BinOp.eql (Qn 57) (Qn 66))),
(Qa (Qv 68) (Qm (Qn 55) (Qn 67) (Qo (Qp (Qq (Qs false)))))),
(Qa (Qv 4) (Qd (Qn 68)))]
def f3_c7 : MC := .reg false f3_r7
def f3_c8 : MC := MC.ret
def f3_c9 : MC := .seq f3_c7 f3_c8
def f3_c10 : MC := MC.skip
def f3_c11 : MC := .cond (Qn 48) f3_c9 f3_c10
def f3_c12 : MC := .seq f3_c6 f3_c11
def f3_r13 : List MO := [
(Qa (Qv 12) (Qd (Qo (Qp (Qq (Qr Qu 0))))))]
def f3_c13 : MC := .reg false f3_r13
def f3_r14 : List MO := [
(Qa (Qv 69) (Qd (Qn 12))),
(Qa (Qv 70) (Qd (Qn 8))),
(Qa (Qv 71) (Qk Qt (Qn 70))),
(Qa (Qv 72) (Qe Qt Go.BinOp.lss (Qn 69) (Qn 71)))]
def f3_c14 : MC := .reg false f3_r14
def f3_c15 : MC := MC.skip
def f3_c16 : MC := (MC.exit 0)
def f3_c17 : MC := .cond (Qn 72) f3_c15 f3_c16
def f3_c18 : MC := .seq f3_c14 f3_c17
def f3_r19 : List MO := [
(Qa (Qv 75) (Qd (Qn 8))),
(Qa (Qv 76) (Qd (Qn 12))),
(Qa (Qv 77) (Qj 1 (Qn 75) (Qn 76))),
(Qa (Qv 78) (Qf 1 false (Qn 77))),
(Qa (Qv 79) (Qe Qt Go.BinOp.lss (Qn 78) (Qo (Qp (Qq (Qr Qu 0)))))),
(Qa (Qv 80) (Qd (Qn 79))),
(Qb 80 false (Qv 81)),
(Qa (Qv 81) (Qd (Qn 8))),
(Qb 80 false (Qv 82)),
(Qa (Qv 82) (Qd (Qn 12))),
(Qb 80 false (Qv 83)),
(Qa (Qv 83) (Qj 1 (Qn 81) (Qn 82))),
(Qb 80 false (Qv 84)),
(Qa (Qv 84) (Qf 1 false (Qn 83))),
(Qb 80 false (Qv 85)),
(Qa (Qv 85) (Qg 1 (Qn 2))),
(Qb 80 false (Qv 86)),
(Qa (Qv 86) (Qf 1 false (Qn 85))),
(Qb 80 false (Qv 87)),
(Qa (Qv 87) (Qk Qt (Qn 86))),
(Qb 80 false (Qv 88)),
(Qa (Qv 88) (Qe Qt Go.BinOp.geq (Qn 84) (Qn 87))),
(Qa (Qv 89) (Qm (Qn 80) (Qo (Qp (Qq (Qs true)))) (Qn 88)))]
def f3_c19 : MC := .reg true f3_r19
def f3_r20 : List MO := [
(Qa (Qv 4) (Qd (Qo (Qp (Qq (Qs false))))))]
def f3_c20 : MC := .reg false f3_r20
def f3_c21 : MC := MC.ret
def f3_c22 : MC := .seq f3_c20 f3_c21
def f3_c23 : MC := MC.skip
def f3_c24 : MC := .cond (Qn 89) f3_c22 f3_c23
def f3_c25 : MC := .seq f3_c19 f3_c24
def f3_c26 : MC := .blk 1 f3_c25
def f3_r27 : List MO := [
(Qa (Qv 73) (Qd (Qn 12))),
(Qa (Qv 74) (Qe Qt Go.BinOp.add (Qn 73) (Qo (Qp (Qq (Qr Qu 1)))))),
(Qa (Qv 12) (Qd (Qn 74)))]
def f3_c27 : MC := .reg false f3_r27
def f3_c28 : MC := .seq f3_c26 f3_c27
def f3_c29 : MC := .seq f3_c18 f3_c28
def f3_c30 : MC := .loop f3_c29
def f3_c31 : MC := .blk 0 f3_c30
def f3_c32 : MC := .seq f3_c13 f3_c31
def f3_r33 : List MO := [
(Qa (Qv 13) (Qd (Qo (Qp (Qq (Qr Qu 0))))))]
def f3_c33 : MC := .reg false f3_r33
def f3_r34 : List MO := [
(Qa (Qv 90) (Qd (Qn 13))),
(Qa (Qv 91) (Qd (Qn 10))),
(Qa (Qv 92) (Qk Qt (Qn 91))),
(Qa (Qv 93) (Qe Qt Go.BinOp.lss (Qn 90) (Qn 92)))]
def f3_c34 : MC := .reg false f3_r34
def f3_c35 : MC := MC.skip
def f3_c36 : MC := (MC.exit 2)
def f3_c37 : MC := .cond (Qn 93) f3_c35 f3_c36
def f3_c38 : MC := .seq f3_c34 f3_c37
def f3_r39 : List MO := [
(Qa (Qv 97) (Qf 2 true (Qn 2))),
(Qa (Qv 98) (Qd (Qn 1))),
(Qa (Qv 99) (Qd (Qn 10))),
(Qa (Qv 100) (Qd (Qn 13))),
(Qa (Qv 101) (Qj 3 (Qn 99) (Qn 100))),
(Qa (Qv 102) (Qf 3 true (Qn 101))),
(Qc (Qv 103) (Qh 10 [(Qn 97), (Qn 98), (Qn 102)])),
(Qa (Qv 96) (Qd (Qn 103))),
(Qa (Qv 104) (Qi (Qn 96) 0)),
(Qa (Qv 105) (Qi (Qn 96) 1)),
(Qa (Qv 14) (Qd (Qn 104))),
(Qa (Qv 15) (Qd (Qn 105)))]
def f3_c39 : MC := .reg true f3_r39
def f3_r40 : List MO := [
(Qa (Qv 106) (Qd (Qn 15))),
(Qa (Qv 107) (MOp.not (Qn 106))),
(Qa (Qv 108) (Qd (Qn 107))),
(Qb 108 false (Qv 109)),
(Qa (Qv 109) (Qd (Qn 13))),
(Qb 108 false (Qv 110)),
(Qa (Qv 110) (Qd (Qn 8))),
(Qb 108 false (Qv 111)),
(Qa (Qv 111) (Qk Qt (Qn 110))),
(Qb 108 false (Qv 112)),
(Qa (Qv 112) (Qe Qt Go.BinOp.geq (Qn 109) (Qn 111))),
(Qa (Qv 113) (Qm (Qn 108) (Qo (Qp (Qq (Qs true)))) (Qn 112))),
(Qa (Qv 114) (Qd (Qn 113))),
(Qb 114 false (Qv 115)),
(Qa (Qv 115) (Qd (Qn 14))),
(Qb 114 false (Qv 116)),
(Qa (Qv 116) (Qd (Qn 8))),
(Qb 114 false (Qv 117)),
(Qa (Qv 117) (Qd (Qn 13))),
(Qb 114 false (Qv 118)),
(Qa (Qv 118) (Qj 1 (Qn 116) (Qn 117))),
(Qb 114 false (Qv 119)),
(Qa (Qv 119) (Qf 1 false (Qn 118))),
(Qb 114 false (Qv 120)),
(Qa (Qv 120) (Qe Qt Go.BinOp.neq (Qn 115) (Qn 119))),
(Qa (Qv 121) (Qm (Qn 114) (Qo (Qp (Qq (Qs true)))) (Qn 120))),
(Qa (Qv 122) (Qd (Qn 121))),
(Qb 122 false (Qv 123)),
(Qa (Qv 123) (Qd (Qn 13))),
(Qb 122 false (Qv 124)),
(Qa (Qv 124) (Qe Qt Go.BinOp.gtr (Qn 123) (Qo (Qp (Qq (Qr Qu 0)))))),
(Qb 122 false (Qv 125)),
(Qa (Qv 125) (Qd (Qn 124))),
(Qb 125 true (Qv 126)),
(Qa (Qv 126) (Qd (Qn 10))),
(Qb 125 true (Qv 127)),
(Qa (Qv 127) (Qd (Qn 13))),
(Qb 125 true (Qv 128)),
(Qa (Qv 128) (Qe Qt Go.BinOp.sub (Qn 127) (Qo (Qp (Qq (Qr Qu 1)))))),
(Qb 125 true (Qv 129)),
(Qa (Qv 129) (Qj 3 (Qn 126) (Qn 128))),
(Qb 125 true (Qv 130)),
(Qa (Qv 130) (Qf 3 true (Qn 129))),
(Qb 125 true (Qv 131)),
(Qa (Qv 131) (Qd (Qn 10))),
(Qb 125 true (Qv 132)),
(Qa (Qv 132) (Qd (Qn 13))),
(Qb 125 true (Qv 133)),
(Qa (Qv 133) (Qj 3 (Qn 131) (Qn 132))),
(Qb 125 true (Qv 134)),
(Qa (Qv 134) (Qf 3 true (Qn 133))),
(Qb 125 true (Qv 135)),
(Qc (Qv 135) (Qh 11 [(Qn 130), (Qn 134)])),
(Qb 125 true (Qv 136)),
(Qa (Qv 136) (Qe Qt Go.BinOp.geq (Qn 135) (Qo (Qp (Qq (Qr Qu 0)))))),
(Qb 122 false (Qv 137)),
(Qa (Qv 137) (Qm (Qn 125) (Qn 136) (Qo (Qp (Qq (Qs false)))))),
(Qa (Qv 138) (Qm (Qn 122) (Qo (Qp (Qq (Qs true)))) (Qn 137)))]
def f3_c40 : MC := .reg true f3_r40
def f3_r41 : List MO := [
(Qa (Qv 4) (Qd (Qo (Qp (Qq (Qs false))))))]
def f3_c41 : MC := .reg false f3_r41
def f3_c42 : MC := MC.ret
def f3_c43 : MC := .seq f3_c41 f3_c42
def f3_c44 : MC := MC.skip
def f3_c45 : MC := .cond (Qn 138) f3_c43 f3_c44
def f3_c46 : MC := .seq f3_c40 f3_c45
def f3_c47 : MC := .seq f3_c39 f3_c46
def f3_c48 : MC := .blk 3 f3_c47
def f3_r49 : List MO := [
(Qa (Qv 94) (Qd (Qn 13))),
(Qa (Qv 95) (Qe Qt Go.BinOp.add (Qn 94) (Qo (Qp (Qq (Qr Qu 1)))))),
(Qa (Qv 13) (Qd (Qn 95)))]
def f3_c49 : MC := .reg false f3_r49
def f3_c50 : MC := .seq f3_c48 f3_c49
def f3_c51 : MC := .seq f3_c38 f3_c50
def f3_c52 : MC := .loop f3_c51
def f3_c53 : MC := .blk 2 f3_c52
def f3_c54 : MC := .seq f3_c33 f3_c53
def f3_r55 : List MO := [
(Qa (Qv 139) (Qd (Qn 5))),
(Qa (Qv 140) (Qd (Qn 139))),
(Qb 140 true (Qv 141)),
(Qa (Qv 141) (Qd (Qn 9))),
(Qb 140 true (Qv 142)),
(Qa (Qv 142) (Qe Qt Go.BinOp.eql (Qn 141) (Qo (Qp (Qq (Qr Qu 0)))))),
(Qa (Qv 143) (Qm (Qn 140) (Qn 142) (Qo (Qp (Qq (Qs false)))))),
(Qa (Qv 144) (Qd (Qn 143))),
(Qb 144 true (Qv 145)),
(Qa (Qv 145) (Qd (Qn 11))),
(Qb 144 true (Qv 146)),
(Qa (Qv 146) (Qe Qt Go.BinOp.eql (Qn 145) (Qo (Qp (Qq (Qr Qu 0)))))),
(Qa (Qv 147) (Qm (Qn 144) (Qn 146) (Qo (Qp (Qq (Qs false)))))),
(Qa (Qv 148) (Qd (Qn 147))),
(Qb 148 true (Qv 149)),
(Qa (Qv 149) (Qd (Qn 8))),
(Qb 148 true (Qv 150)),
(Qa (Qv 150) (Qk Qt (Qn 149))),
(Qb 148 true (Qv 151)),
(Qa (Qv 151) (Qg 1 (Qn 2))),
(Qb 148 true (Qv 152)),
(Qa (Qv 152) (Qf 1 false (Qn 151))),
(Qb 148 true (Qv 153)),
(Qa (Qv 153) (Qd (Qn 1))),
(Qb 148 true (Qv 154)),
(Qa (Qv 154) (Qj 6 (Qn 152) (Qn 153))),
(Qb 148 true (Qv 155)),
(Qa (Qv 155) (Qg 5 (Qn 154))),
(Qb 148 true (Qv 156)),
(Qa (Qv 156) (Qf 1 false (Qn 155))),
(Qb 148 true (Qv 157)),
(Qa (Qv 157) (Qk Qt (Qn 156))),
(Qb 148 true (Qv 158)),
(Qa (Qv 158) (Qe Qt Go.BinOp.eql (Qn 150) (Qn 157))),
(Qa (Qv 159) (Qm (Qn 148) (Qn 158) (Qo (Qp (Qq (Qs false)))))),
(Qa (Qv 160) (Qd (Qn 159))),
(Qb 160 true (Qv 161)),
(Qa (Qv 161) (Qg 1 (Qn 2))),
(Qb 160 true (Qv 162)),
(Qa (Qv 162) (Qf 1 false (Qn 161))),
(Qb 160 true (Qv 163)),
(Qa (Qv 163) (Qd (Qn 1))),
(Qb 160 true (Qv 164)),
(Qa (Qv 164) (Qj 6 (Qn 162) (Qn 163))),
(Qb 160 true (Qv 165)),
(Qa (Qv 165) (Qg 0 (Qn 164))),
(Qb 160 true (Qv 166)),
(Qa (Qv 166) (Qf 1 false (Qn 165))),
(Qb 160 true (Qv 167)),
(Qa (Qv 167) (Qe Qt Go.BinOp.neq (Qn 166) (Qo (Qp (Qq (Qr Qu 2)))))),
(Qb 160 true (Qv 168)),
(Qa (Qv 168) (Qd (Qn 167))),
(Qb 168 false (Qv 169)),
(Qa (Qv 169) (Qd (Qn 10))),
(Qb 168 false (Qv 170)),
(Qa (Qv 170) (Qk Qt (Qn 169))),
(Qb 168 false (Qv 171)),
(Qa (Qv 171) (Qd (Qn 8))),
(Qb 168 false (Qv 172)),
(Qa (Qv 172) (Qk Qt (Qn 171))),
(Qb 168 false (Qv 173)),
(Qa (Qv 173) (Qe Qt Go.BinOp.eql (Qn 170) (Qn 172))),
(Qb 160 true (Qv 174)),
(Qa (Qv 174) (Qm (Qn 168) (Qo (Qp (Qq (Qs true)))) (Qn 173))),
(Qa (Qv 175) (Qm (Qn 160) (Qn 174) (Qo (Qp (Qq (Qs false)))))),
(Qa (Qv 176) (Qd (Qn 175))),
(Qb 176 true (Qv 177)),
(Qa (Qv 177) (Qg 1 (Qn 2))),
(Qb 176 true (Qv 178)),
(Qa (Qv 178) (Qf 1 false (Qn 177))),
(Qb 176 true (Qv 179)),
(Qa (Qv 179) (Qd (Qn 1))),
(Qb 176 true (Qv 180)),
(Qa (Qv 180) (Qj 6 (Qn 178) (Qn 179))),
(Qb 176 true (Qv 181)),
(Qa (Qv 181) (Qg 0 (Qn 180))),
(Qb 176 true (Qv 182)),
(Qa (Qv 182) (Qf 1 false (Qn 181))),
(Qb 176 true (Qv 183)),
(Qa (Qv 183) (Qe Qt Go.BinOp.eql (Qn 182) (Qo (Qp (Qq (Qr Qu 2)))))),
(Qb 176 true (Qv 184)),
(Qa (Qv 184) (Qd (Qn 183))),
(Qb 184 false (Qv 185)),
(Qa (Qv 185) (Qd (Qn 10))),
(Qb 184 false (Qv 186)),
(Qa (Qv 186) (Qk Qt (Qn 185))),
(Qb 184 false (Qv 187)),
(Qa (Qv 187) (Qe Qt Go.BinOp.eql (Qn 186) (Qo (Qp (Qq (Qr Qu 0)))))),
(Qb 176 true (Qv 188)),
(Qa (Qv 188) (Qm (Qn 184) (Qo (Qp (Qq (Qs true)))) (Qn 187))),
(Qa (Qv 189) (Qm (Qn 176) (Qn 188) (Qo (Qp (Qq (Qs false)))))),
(Qa (Qv 4) (Qd (Qn 189)))]
def f3_c55 : MC := .reg false f3_r55
def f3_c56 : MC := MC.ret
def f3_c57 : MC := .seq f3_c55 f3_c56
def f3_c58 : MC := .seq f3_c54 f3_c57
def f3_c59 : MC := .seq f3_c32 f3_c58
def f3_c60 : MC := .seq f3_c12 f3_c59
def f3_c61 : MC := .seq f3_c5 f3_c60
def f3_c62 : MC := .seq f3_c4 f3_c61
def f3_c63 : MC := .seq f3_c3 f3_c62
def f3_c64 : MC := .seq f3_c2 f3_c63
def f3_c65 : MC := .seq f3_c1 f3_c64
def f3_c66 : MC := .seq f3_c0 f3_c65
noncomputable def f3_code : Code := (Go.Proofs.Tryd.f3.body).getD .skip
theorem f3_body : Go.Proofs.Tryd.f3.body = Qv f3_code := by kernel_rfl
theorem f3_tr : trC Go.Proofs.Tryd.prog [] f3_code = Qv f3_c66 := by kernel_rfl
theorem f3_rs : rsOf Go.Proofs.Tryd.prog Go.Proofs.Tryd.f3.results.toList = Qv [(RV.t 4)] := by kernel_rfl
theorem f3_nt : Go.Proofs.Tryd.f3.ntmps = 190 := by kernel_rfl
theorem f3_ok : callable Go.Proofs.Tryd.prog 3 = true := by kernel_rfl
theorem f3_in {gp : Heap} {args : List V} {res : V} (h : G ⟨Go.Proofs.Tryd.prog, gp, 0, [(RV.t 4)], fun r c => r = res ∧ c = [], false⟩ [.code f3_c66, .fin] ⟨args ++ List.replicate (190 - args.length) .un, []⟩) : Does Go.Proofs.Tryd.prog gp 3 args res :=
  does_intro f3_ok Go.Proofs.Tryd.func3 f3_body f3_tr f3_rs (by rw [f3_nt]; exact h)
theorem f3_tri {gp : Heap} {args : List V} {pre : List Ch} {R : V → List Ch → Prop} (h : G ⟨Go.Proofs.Tryd.prog, gp, pre.length, [(RV.t 4)], R, false⟩ [.code f3_c66, .fin] ⟨args ++ List.replicate (190 - args.length) .un, pre⟩) : Tri Go.Proofs.Tryd.prog gp 3 args pre R :=
  tri_intro Go.Proofs.Tryd.func3 f3_body f3_tr f3_rs (by rw [f3_nt]; exact h)
def f5_r0 : List MO := [
(Qa (Qv 0) (Qd (Qo (Qp (Qq (Qs false))))))]
def f5_c0 : MC := .reg false f5_r0
def f5_r1 : List MO := [
(Qa (Qv 14) (MOp.build [(Qr Qu 0), (Qr Qu 0), (D.str (ByteArray.mk #[]))] [(0, (1, (Qo (Qp (Qq (Qr Qu 3)))))), (2, (1, (Qo (Qp (Qq (D.str (ByteArray.mk #[98])))))))])),
(Qa (Qv 15) (MOp.build [(Qr Qu 0), (Qr Qu 0), (D.str (ByteArray.mk #[]))] [(0, (1, (Qo (Qp (Qq (Qr Qu 2)))))), (1, (1, (Qo (Qp (Qq (Qr Qu 2))))))])),
(Qa (Qv 16) (MOp.bslice 3 [(Qr Qu 0), (Qr Qu 0), (D.str (ByteArray.mk #[]))] 2 [(0, (Qn 14)), (1, (Qn 15))])),
(Qa (Qv 17) (MOp.bslice 1 [(Qr Qu 0)] 2 [(0, (Qo (Qp (Qq (Qr Qu 0))))), (1, (Qo (Qp (Qq (Qr Qu 1)))))])),
(Qa (Qv 18) (MOp.build [(Qr Qu 0), (Qr Qu 0), (Qr Qu 0), (D.str (ByteArray.mk #[])), (D.sl []), (D.sl [])] [(0, (1, (Qo (Qp (Qq (Qr Qu 2)))))), (4, (1, (Qn 16))), (5, (1, (Qn 17)))])),
(Qa (Qv 19) (MOp.build [(Qr Qu 0), (Qr Qu 0), (D.str (ByteArray.mk #[]))] [(0, (1, (Qo (Qp (Qq (Qr Qu 2)))))), (1, (1, (Qo (Qp (Qq (Qr Qu 5))))))])),
(Qa (Qv 20) (MOp.build [(Qr Qu 0), (Qr Qu 0), (Qr Qu 0), (D.str (ByteArray.mk #[])), (D.sl []), (D.sl [])] [(1, (3, (Qn 19)))])),
(Qa (Qv 21) (MOp.bslice 6 [(Qr Qu 0), (Qr Qu 0), (Qr Qu 0), (D.str (ByteArray.mk #[])), (D.sl []), (D.sl [])] 2 [(0, (Qn 18)), (1, (Qn 20))])),
(Qa (Qv 22) (MOp.build [(Qr Qu 0), (D.sl [])] [(1, (1, (Qn 21)))])),
(Qa (Qv 1) (MOp.alloc [(Qr Qu 0), (D.sl [])])),
(Qa none (Ql 2 (Qn 1) (Qn 22)))]
def f5_c1 : MC := .reg false f5_r1
def f5_r2 : List MO := [
(Qa (Qv 24) (Qf 2 true (Qn 1))),
(Qa (Qv 25) (Qh 7 [(Qn 24)])),
(Qa (Qv 23) (Qd (Qn 25))),
(Qa (Qv 26) (Qi (Qn 23) 0)),
(Qa (Qv 27) (Qi (Qn 23) 1)),
(Qa (Qv 2) (Qd (Qn 26))),
(Qa (Qv 3) (Qd (Qn 27)))]
def f5_c2 : MC := .reg false f5_r2
def f5_r3 : List MO := [
(Qa (Qv 29) (Qf 2 true (Qn 1))),
(Qa (Qv 30) (Qh 8 [(Qn 29), (Qo (Qp (Qq (Qr Qu 0))))])),
(Qa (Qv 28) (Qd (Qn 30))),
(Qa (Qv 31) (Qi (Qn 28) 0)),
(Qa (Qv 32) (Qi (Qn 28) 1)),
(Qa (Qv 4) (Qd (Qn 31))),
(Qa (Qv 5) (Qd (Qn 32)))]
def f5_c3 : MC := .reg false f5_r3
def f5_r4 : List MO := [
(Qa (Qv 34) (Qf 2 true (Qn 1))),
(Qa (Qv 35) (Qh 9 [(Qn 34), (Qo (Qp (Qq (Qr Qu 0))))])),
(Qa (Qv 33) (Qd (Qn 35))),
(Qa (Qv 36) (Qi (Qn 33) 0)),
(Qa (Qv 37) (Qi (Qn 33) 1)),
(Qa (Qv 6) (Qd (Qn 36))),
(Qa (Qv 7) (Qd (Qn 37)))]
def f5_c4 : MC := .reg false f5_r4
def f5_r5 : List MO := [
(Qa (Qv 39) (Qf 2 true (Qn 1))),
(Qa (Qv 40) (MOp.build [(Qr Qu 0), (Qr Qu 0), (D.str (ByteArray.mk #[]))] [(0, (1, (Qo (Qp (Qq (Qr Qu 2)))))), (1, (1, (Qo (Qp (Qq (Qr Qu 2))))))])),
(Qa (Qv 41) (Qh 10 [(Qn 39), (Qo (Qp (Qq (Qr Qu 0)))), (Qn 40)])),
(Qa (Qv 38) (Qd (Qn 41))),
(Qa (Qv 42) (Qi (Qn 38) 0)),
(Qa (Qv 43) (Qi (Qn 38) 1)),
(Qa (Qv 8) (Qd (Qn 42))),
(Qa (Qv 9) (Qd (Qn 43)))]
def f5_c5 : MC := .reg false f5_r5
def f5_r6 : List MO := [
(Qa (Qv 45) (MOp.bslice 1 [(Qr Qu 0)] 1 [(0, (Qo (Qp (Qq (Qr Qu 1)))))])),
(Qa (Qv 46) (MOp.build [(Qr Qu 0), (Qr Qu 0), (Qr Qu 0), (D.str (ByteArray.mk #[])), (D.sl []), (D.sl [])] [(0, (1, (Qo (Qp (Qq (Qr Qu 1)))))), (5, (1, (Qn 45)))])),
(Qa (Qv 47) (MOp.bslice 6 [(Qr Qu 0), (Qr Qu 0), (Qr Qu 0), (D.str (ByteArray.mk #[])), (D.sl []), (D.sl [])] 1 [(0, (Qn 46))])),
(Qa (Qv 48) (MOp.build [(Qr Qu 0), (D.sl [])] [(1, (1, (Qn 47)))])),
(Qa (Qv 49) (Qh 7 [(Qn 48)])),
(Qa (Qv 44) (Qd (Qn 49))),
(Qa (Qv 50) (Qi (Qn 44) 0)),
(Qa (Qv 51) (Qi (Qn 44) 1)),
(Qa (Qv 10) (Qd (Qn 50))),
(Qa (Qv 11) (Qd (Qn 51)))]
def f5_c6 : MC := .reg false f5_r6
def f5_r7 : List MO := [
(Qa (Qv 53) (Qf 2 true (Qn 1))),
(Qa (Qv 54) (Qh 8 [(Qn 53), (Qo (Qp (Qq (Qr Qu 2))))])),
(Qa (Qv 52) (Qd (Qn 54))),
(Qa (Qv 55) (Qi (Qn 52) 0)),
(Qa (Qv 56) (Qi (Qn 52) 1)),
(Qa (Qv 12) (Qd (Qn 55))),
(Qa (Qv 13) (Qd (Qn 56)))]
def f5_c7 : MC := .reg false f5_r7
def f5_r8 : List MO := [
(Qa (Qv 57) (Qd (Qn 3))),
(Qa (Qv 58) (Qe Qt Go.BinOp.eql (Qn 57) (Qo (Qp (Qq (Qr Qu 0)))))),
(Qa (Qv 59) (Qd (Qn 58))),
(Qb 59 true (Qv 60)),
(Qa (Qv 60) (Qd (Qn 5))),
(Qb 59 true (Qv 61)),
(Qa (Qv 61) (Qe Qt Go.BinOp.eql (Qn 60) (Qo (Qp (Qq (Qr Qu 0)))))),
(Qa (Qv 62) (Qm (Qn 59) (Qn 61) (Qo (Qp (Qq (Qs false)))))),
(Qa (Qv 63) (Qd (Qn 62))),
(Qb 63 true (Qv 64)),
(Qa (Qv 64) (Qd (Qn 4))),
(Qb 63 true (Qv 65)),
(Qa (Qv 65) (MOp.bslice 1 [(Qr Qu 0)] 2 [(0, (Qo (Qp (Qq (Qr Qu 1))))), (1, (Qo (Qp (Qq (Qr Qu 0)))))])),
(Qb 63 true (Qv 66)),
(Qa (Qv 66) (Qh 12 [(Qn 64), (Qn 65)])),
(Qa (Qv 67) (Qm (Qn 63) (Qn 66) (Qo (Qp (Qq (Qs false)))))),
(Qa (Qv 68) (Qd (Qn 67))),
(Qb 68 true (Qv 69)),
(Qa (Qv 69) (Qd (Qn 7))),
(Qb 68 true (Qv 70)),
(Qa (Qv 70) (Qe Qt Go.BinOp.eql (Qn 69) (Qo (Qp (Qq (Qr Qu 0)))))),
(Qa (Qv 71) (Qm (Qn 68) (Qn 70) (Qo (Qp (Qq (Qs false)))))),
(Qa (Qv 72) (Qd (Qn 71))),
(Qb 72 true (Qv 73)),
(Qa (Qv 73) (Qd (Qn 6))),
(Qb 72 true (Qv 74)),
(Qa (Qv 74) (Qk Qt (Qn 73))),
(Qb 72 true (Qv 75)),
(Qa (Qv 75) (Qe Qt Go.BinOp.eql (Qn 74) (Qo (Qp (Qq (Qr Qu 2)))))),
(Qa (Qv 76) (Qm (Qn 72) (Qn 75) (Qo (Qp (Qq (Qs false)))))),
(Qa (Qv 77) (Qd (Qn 76))),
(Qb 77 true (Qv 78)),
(Qa (Qv 78) (Qd (Qn 6))),
(Qb 77 true (Qv 79)),
(Qa (Qv 79) (Qj 3 (Qn 78) (Qo (Qp (Qq (Qr Qu 0)))))),
(Qb 77 true (Qv 80)),
(Qa (Qv 80) (Qg 0 (Qn 79))),
(Qb 77 true (Qv 81)),
(Qa (Qv 81) (Qf 1 false (Qn 80))),
(Qb 77 true (Qv 82)),
(Qa (Qv 82) (Qe Qt Go.BinOp.eql (Qn 81) (Qo (Qp (Qq (Qr Qu 2)))))),
(Qa (Qv 83) (Qm (Qn 77) (Qn 82) (Qo (Qp (Qq (Qs false)))))),
(Qa (Qv 84) (Qd (Qn 83))),
(Qb 84 true (Qv 85)),
(Qa (Qv 85) (Qd (Qn 8))),
(Qb 84 true (Qv 86)),
(Qa (Qv 86) (Qe Qt Go.BinOp.eql (Qn 85) (Qo (Qp (Qq (Qr Qu 1)))))),
(Qa (Qv 87) (Qm (Qn 84) (Qn 86) (Qo (Qp (Qq (Qs false)))))),
(Qa (Qv 88) (Qd (Qn 87))),
(Qb 88 true (Qv 89)),
(Qa (Qv 89) (Qd (Qn 9))),
(Qa (Qv 90) (Qm (Qn 88) (Qn 89) (Qo (Qp (Qq (Qs false)))))),
(Qa (Qv 91) (Qd (Qn 90))),
(Qb 91 true (Qv 92)),
(Qa (Qv 92) (Qd (Qn 10))),
(Qb 91 true (Qv 93)),
(Qa (Qv 93) (Qe Qt Go.BinOp.eql (Qn 92) (Qo (Qp (Qq (Qr Qu 0)))))),
(Qa (Qv 94) (Qm (Qn 91) (Qn 93) (Qo (Qp (Qq (Qs false)))))),
(Qa (Qv 95) (Qd (Qn 94))),
(Qb 95 true (Qv 96)),
(Qa (Qv 96) (Qd (Qn 11))),
(Qb 95 true (Qv 97)),
(Qa (Qv 97) (Qe Qt Go.BinOp.eql (Qn 96) (Qo (Qp (Qq (Qr Qu 70)))))),
(Qa (Qv 98) (Qm (Qn 95) (Qn 97) (Qo (Qp (Qq (Qs false)))))),
(Qa (Qv 99) (Qd (Qn 98))),
(Qb 99 true (Qv 100)),
(Qa (Qv 100) (Qd (Qn 13))),
(Qb 99 true (Qv 101)),
(Qa (Qv 101) (Qe Qt Go.BinOp.eql (Qn 100) (Qo (Qp (Qq (Qr Qu 2)))))),
(Qa (Qv 102) (Qm (Qn 99) (Qn 101) (Qo (Qp (Qq (Qs false)))))),
(Qa (Qv 103) (Qd (Qn 102))),
(Qb 103 true (Qv 104)),
(Qa (Qv 104) (Qf 2 true (Qn 1))),
(Qb 103 true (Qv 105)),
(Qa (Qv 105) (Qf 2 true (Qn 1))),
(Qb 103 true (Qv 106)),
(Qa (Qv 106) (Qh 14 [(Qn 104), (Qn 105)])),
(Qa (Qv 107) (Qm (Qn 103) (Qn 106) (Qo (Qp (Qq (Qs false)))))),
(Qa (Qv 0) (Qd (Qn 107)))]
def f5_c8 : MC := .reg false f5_r8
def f5_c9 : MC := MC.ret
def f5_c10 : MC := .seq f5_c8 f5_c9
def f5_c11 : MC := .seq f5_c7 f5_c10
def f5_c12 : MC := .seq f5_c6 f5_c11
def f5_c13 : MC := .seq f5_c5 f5_c12
def f5_c14 : MC := .seq f5_c4 f5_c13
def f5_c15 : MC := .seq f5_c3 f5_c14
def f5_c16 : MC := .seq f5_c2 f5_c15
def f5_c17 : MC := .seq f5_c1 f5_c16
def f5_c18 : MC := .seq f5_c0 f5_c17
noncomputable def f5_code : Code := (Go.Proofs.Tryd.f5.body).getD .skip
theorem f5_body : Go.Proofs.Tryd.f5.body = Qv f5_code := by kernel_rfl
theorem f5_tr : trC Go.Proofs.Tryd.prog [] f5_code = Qv f5_c18 := by kernel_rfl
theorem f5_rs : rsOf Go.Proofs.Tryd.prog Go.Proofs.Tryd.f5.results.toList = Qv [(RV.t 0)] := by kernel_rfl
theorem f5_nt : Go.Proofs.Tryd.f5.ntmps = 108 := by kernel_rfl
theorem f5_ok : callable Go.Proofs.Tryd.prog 5 = true := by kernel_rfl
theorem f5_in {gp : Heap} {args : List V} {res : V} (h : G ⟨Go.Proofs.Tryd.prog, gp, 0, [(RV.t 0)], fun r c => r = res ∧ c = [], false⟩ [.code f5_c18, .fin] ⟨args ++ List.replicate (108 - args.length) .un, []⟩) : Does Go.Proofs.Tryd.prog gp 5 args res :=
  does_intro f5_ok Go.Proofs.Tryd.func5 f5_body f5_tr f5_rs (by rw [f5_nt]; exact h)
theorem f5_tri {gp : Heap} {args : List V} {pre : List Ch} {R : V → List Ch → Prop} (h : G ⟨Go.Proofs.Tryd.prog, gp, pre.length, [(RV.t 0)], R, false⟩ [.code f5_c18, .fin] ⟨args ++ List.replicate (108 - args.length) .un, pre⟩) : Tri Go.Proofs.Tryd.prog gp 5 args pre R :=
  tri_intro Go.Proofs.Tryd.func5 f5_body f5_tr f5_rs (by rw [f5_nt]; exact h)
def f6_r0 : List MO := [
(Qa (Qv 1) (MOp.ibox (Qn 0))),
(Qa (Qv 2) (MOp.alloc [(Qr Qu 0), (D.sl [])]))]
def f6_c0 : MC := .reg false f6_r0
def f6_r1 : List MO := [
(Qa (Qv 9) (Qg 0 (Qn 1))),
(Qa (Qv 10) (Qf 1 false (Qn 9))),
(Qa (Qv 11) (MOp.build [(Qr Qu 0), (D.sl [])] [(0, (1, (Qn 10)))])),
(Qa (Qv 3) (MOp.alloc [(Qr Qu 0), (D.sl [])])),
(Qa none (Ql 2 (Qn 3) (Qn 11)))]
def f6_c1 : MC := .reg false f6_r1
def f6_r2 : List MO := [
(Qa (Qv 4) (Qd (Qo (Qp (Qq (Qr Qu 0))))))]
def f6_c2 : MC := .reg false f6_r2
def f6_r3 : List MO := [
(Qa (Qv 12) (Qd (Qn 4))),
(Qa (Qv 13) (Qg 1 (Qn 1))),
(Qa (Qv 14) (Qf 1 false (Qn 13))),
(Qa (Qv 15) (Qk Qt (Qn 14))),
(Qa (Qv 16) (Qe Qt Go.BinOp.lss (Qn 12) (Qn 15))),
(Qa (Qv 17) (Qd (Qn 16))),
(Qb 17 true (Qv 18)),
(Qa (Qv 18) (Qd (Qn 4))),
(Qb 17 true (Qv 19)),
(Qa (Qv 19) (Qe Qt Go.BinOp.lss (Qn 18) (Qo (Qp (Qq (Qr Qu 201)))))),
(Qa (Qv 20) (Qm (Qn 17) (Qn 19) (Qo (Qp (Qq (Qs false))))))]
def f6_c3 : MC := .reg false f6_r3
def f6_c4 : MC := MC.skip
def f6_c5 : MC := (MC.exit 0)
def f6_c6 : MC := .cond (Qn 20) f6_c4 f6_c5
def f6_c7 : MC := .seq f6_c3 f6_c6
def f6_r8 : List MO := [
(Qa (Qv 23) (Qg 1 (Qn 1))),
(Qa (Qv 24) (Qf 1 false (Qn 23))),
(Qa (Qv 25) (Qd (Qn 4))),
(Qa (Qv 26) (Qj 6 (Qn 24) (Qn 25))),
(Qa (Qv 27) (Qf 6 true (Qn 26))),
(Qa (Qv 5) (MOp.alloc [(Qr Qu 0), (Qr Qu 0), (Qr Qu 0), (D.str (ByteArray.mk #[])), (D.sl []), (D.sl [])])),
(Qa none (Ql 6 (Qn 5) (Qn 27)))]
def f6_c8 : MC := .reg false f6_r8
def f6_r9 : List MO := [
(Qa (Qv 28) (Qg 0 (Qn 5))),
(Qa (Qv 29) (Qf 1 false (Qn 28))),
(Qa (Qv 30) (Qg 1 (Qn 5))),
(Qa (Qv 31) (Qf 3 true (Qn 30))),
(Qa (Qv 32) (Qh 15 [(Qn 31)])),
(Qa (Qv 33) (MOp.build [(Qr Qu 0), (Qr Qu 0), (Qr Qu 0), (D.str (ByteArray.mk #[])), (D.sl []), (D.sl [])] [(0, (1, (Qn 29))), (1, (3, (Qn 32)))])),
(Qa (Qv 6) (MOp.alloc [(Qr Qu 0), (Qr Qu 0), (Qr Qu 0), (D.str (ByteArray.mk #[])), (D.sl []), (D.sl [])])),
(Qa none (Ql 6 (Qn 6) (Qn 33)))]
def f6_c9 : MC := .reg true f6_r9
def f6_r10 : List MO := [
(Qa (Qv 7) (Qd (Qo (Qp (Qq (Qr Qu 0))))))]
def f6_c10 : MC := .reg false f6_r10
def f6_r11 : List MO := [
(Qa (Qv 34) (Qd (Qn 7))),
(Qa (Qv 35) (Qg 4 (Qn 5))),
(Qa (Qv 36) (Qf 1 false (Qn 35))),
(Qa (Qv 37) (Qk Qt (Qn 36))),
(Qa (Qv 38) (Qe Qt Go.BinOp.lss (Qn 34) (Qn 37))),
(Qa (Qv 39) (Qd (Qn 38))),
(Qb 39 true (Qv 40)),
(Qa (Qv 40) (Qd (Qn 7))),
(Qb 39 true (Qv 41)),
(Qa (Qv 41) (Qe Qt Go.BinOp.lss (Qn 40) (Qo (Qp (Qq (Qr Qu 12)))))),
(Qa (Qv 42) (Qm (Qn 39) (Qn 41) (Qo (Qp (Qq (Qs false))))))]
def f6_c11 : MC := .reg false f6_r11
def f6_c12 : MC := MC.skip
def f6_c13 : MC := (MC.exit 2)
def f6_c14 : MC := .cond (Qn 42) f6_c12 f6_c13
def f6_c15 : MC := .seq f6_c11 f6_c14
def f6_r16 : List MO := [
(Qa (Qv 45) (Qg 4 (Qn 6))),
(Qa (Qv 46) (Qf 1 false (Qn 45))),
(Qa (Qv 47) (Qg 4 (Qn 5))),
(Qa (Qv 48) (Qf 1 false (Qn 47))),
(Qa (Qv 49) (Qd (Qn 7))),
(Qa (Qv 50) (Qj 3 (Qn 48) (Qn 49))),
(Qa (Qv 51) (Qf 3 true (Qn 50))),
(Qa (Qv 52) (Qh 15 [(Qn 51)])),
(Qa (Qv 53) (MOp.bslice 3 [(Qr Qu 0), (Qr Qu 0), (D.str (ByteArray.mk #[]))] 1 [(0, (Qn 52))])),
(Qa (Qv 54) (MOp.app 3 32 (Qn 46) (Qn 53))),
(Qa (Qv 55) (Qg 4 (Qn 6))),
(Qa none (Ql 1 (Qn 55) (Qn 54)))]
def f6_c16 : MC := .reg true f6_r16
def f6_c17 : MC := .blk 3 f6_c16
def f6_r18 : List MO := [
(Qa (Qv 43) (Qd (Qn 7))),
(Qa (Qv 44) (Qe Qt Go.BinOp.add (Qn 43) (Qo (Qp (Qq (Qr Qu 1)))))),
(Qa (Qv 7) (Qd (Qn 44)))]
def f6_c18 : MC := .reg false f6_r18
def f6_c19 : MC := .seq f6_c17 f6_c18
def f6_c20 : MC := .seq f6_c15 f6_c19
def f6_c21 : MC := .loop f6_c20
def f6_c22 : MC := .blk 2 f6_c21
def f6_c23 : MC := .seq f6_c10 f6_c22
def f6_r24 : List MO := [
(Qa (Qv 8) (Qd (Qo (Qp (Qq (Qr Qu 0))))))]
def f6_c24 : MC := .reg false f6_r24
def f6_r25 : List MO := [
(Qa (Qv 56) (Qd (Qn 8))),
(Qa (Qv 57) (Qg 5 (Qn 5))),
(Qa (Qv 58) (Qf 1 false (Qn 57))),
(Qa (Qv 59) (Qk Qt (Qn 58))),
(Qa (Qv 60) (Qe Qt Go.BinOp.lss (Qn 56) (Qn 59))),
(Qa (Qv 61) (Qd (Qn 60))),
(Qb 61 true (Qv 62)),
(Qa (Qv 62) (Qd (Qn 8))),
(Qb 61 true (Qv 63)),
(Qa (Qv 63) (Qe Qt Go.BinOp.lss (Qn 62) (Qo (Qp (Qq (Qr Qu 12)))))),
(Qa (Qv 64) (Qm (Qn 61) (Qn 63) (Qo (Qp (Qq (Qs false))))))]
def f6_c25 : MC := .reg false f6_r25
def f6_c26 : MC := MC.skip
def f6_c27 : MC := (MC.exit 4)
def f6_c28 : MC := .cond (Qn 64) f6_c26 f6_c27
def f6_c29 : MC := .seq f6_c25 f6_c28
def f6_r30 : List MO := [
(Qa (Qv 67) (Qg 5 (Qn 6))),
(Qa (Qv 68) (Qf 1 false (Qn 67))),
(Qa (Qv 69) (Qg 5 (Qn 5))),
(Qa (Qv 70) (Qf 1 false (Qn 69))),
(Qa (Qv 71) (Qd (Qn 8))),
(Qa (Qv 72) (Qj 1 (Qn 70) (Qn 71))),
(Qa (Qv 73) (Qf 1 false (Qn 72))),
(Qa (Qv 74) (MOp.bslice 1 [(Qr Qu 0)] 1 [(0, (Qn 73))])),
(Qa (Qv 75) (MOp.app 1 8 (Qn 68) (Qn 74))),
(Qa (Qv 76) (Qg 5 (Qn 6))),
(Qa none (Ql 1 (Qn 76) (Qn 75)))]
def f6_c30 : MC := .reg true f6_r30
def f6_c31 : MC := .blk 5 f6_c30
def f6_r32 : List MO := [
(Qa (Qv 65) (Qd (Qn 8))),
(Qa (Qv 66) (Qe Qt Go.BinOp.add (Qn 65) (Qo (Qp (Qq (Qr Qu 1)))))),
(Qa (Qv 8) (Qd (Qn 66)))]
def f6_c32 : MC := .reg false f6_r32
def f6_c33 : MC := .seq f6_c31 f6_c32
def f6_c34 : MC := .seq f6_c29 f6_c33
def f6_c35 : MC := .loop f6_c34
def f6_c36 : MC := .blk 4 f6_c35
def f6_c37 : MC := .seq f6_c24 f6_c36
def f6_r38 : List MO := [
(Qa (Qv 77) (Qg 1 (Qn 3))),
(Qa (Qv 78) (Qf 1 false (Qn 77))),
(Qa (Qv 79) (Qf 6 true (Qn 6))),
(Qa (Qv 80) (MOp.bslice 6 [(Qr Qu 0), (Qr Qu 0), (Qr Qu 0), (D.str (ByteArray.mk #[])), (D.sl []), (D.sl [])] 1 [(0, (Qn 79))])),
(Qa (Qv 81) (MOp.app 6 88 (Qn 78) (Qn 80))),
(Qa (Qv 82) (Qg 1 (Qn 3))),
(Qa none (Ql 1 (Qn 82) (Qn 81)))]
def f6_c38 : MC := .reg false f6_r38
def f6_c39 : MC := .seq f6_c37 f6_c38
def f6_c40 : MC := .seq f6_c23 f6_c39
def f6_c41 : MC := .seq f6_c9 f6_c40
def f6_c42 : MC := .seq f6_c8 f6_c41
def f6_c43 : MC := .blk 1 f6_c42
def f6_r44 : List MO := [
(Qa (Qv 21) (Qd (Qn 4))),
(Qa (Qv 22) (Qe Qt Go.BinOp.add (Qn 21) (Qo (Qp (Qq (Qr Qu 1)))))),
(Qa (Qv 4) (Qd (Qn 22)))]
def f6_c44 : MC := .reg false f6_r44
def f6_c45 : MC := .seq f6_c43 f6_c44
def f6_c46 : MC := .seq f6_c7 f6_c45
def f6_c47 : MC := .loop f6_c46
def f6_c48 : MC := .blk 0 f6_c47
def f6_c49 : MC := .seq f6_c2 f6_c48
def f6_r50 : List MO := [
(Qa (Qv 83) (Qf 2 true (Qn 3))),
(Qa none (Ql 2 (Qn 2) (Qn 83)))]
def f6_c50 : MC := .reg false f6_r50
def f6_c51 : MC := MC.ret
def f6_c52 : MC := .seq f6_c50 f6_c51
def f6_c53 : MC := .seq f6_c49 f6_c52
def f6_c54 : MC := .seq f6_c1 f6_c53
def f6_c55 : MC := .seq f6_c0 f6_c54
noncomputable def f6_code : Code := (Go.Proofs.Tryd.f6.body).getD .skip
theorem f6_body : Go.Proofs.Tryd.f6.body = Qv f6_code := by kernel_rfl
theorem f6_tr : trC Go.Proofs.Tryd.prog [1] f6_code = Qv f6_c55 := by kernel_rfl
theorem f6_rs : rsOf Go.Proofs.Tryd.prog Go.Proofs.Tryd.f6.results.toList = Qv [(RV.cell 2 2 true)] := by kernel_rfl
theorem f6_nt : Go.Proofs.Tryd.f6.ntmps = 84 := by kernel_rfl
theorem f6_ok : callable Go.Proofs.Tryd.prog 6 = true := by kernel_rfl
theorem f6_in {gp : Heap} {args : List V} {res : V} (h : G ⟨Go.Proofs.Tryd.prog, gp, 0, [(RV.cell 2 2 true)], fun r c => r = res ∧ c = [], false⟩ [.code f6_c55, .fin] ⟨args ++ List.replicate (84 - args.length) .un, []⟩) : Does Go.Proofs.Tryd.prog gp 6 args res :=
  does_intro f6_ok Go.Proofs.Tryd.func6 f6_body f6_tr f6_rs (by rw [f6_nt]; exact h)
theorem f6_tri {gp : Heap} {args : List V} {pre : List Ch} {R : V → List Ch → Prop} (h : G ⟨Go.Proofs.Tryd.prog, gp, pre.length, [(RV.cell 2 2 true)], R, false⟩ [.code f6_c55, .fin] ⟨args ++ List.replicate (84 - args.length) .un, pre⟩) : Tri Go.Proofs.Tryd.prog gp 6 args pre R :=
  tri_intro Go.Proofs.Tryd.func6 f6_body f6_tr f6_rs (by rw [f6_nt]; exact h)
def f7_r0 : List MO := [
(Qa (Qv 1) (MOp.ibox (Qn 0))),
(Qa (Qv 2) (Qd (Qo (Qp (Qq (Qr Qu 0)))))),
(Qa (Qv 3) (Qd (Qo (Qp (Qq (Qr Qu 0))))))]
def f7_c0 : MC := .reg false f7_r0
def f7_r1 : List MO := [
(Qa (Qv 4) (Qf 2 true (Qn 1))),
(Qa (Qv 5) (Qh 17 [(Qn 4)])),
(Qa (Qv 6) (Qh 16 [(Qn 5)])),
(Qa (Qv 7) (Qi (Qn 6) 0)),
(Qa (Qv 8) (Qi (Qn 6) 1)),
(Qa (Qv 2) (Qd (Qn 7))),
(Qa (Qv 3) (Qd (Qn 8)))]
def f7_c1 : MC := .reg false f7_r1
def f7_c2 : MC := MC.ret
def f7_c3 : MC := .seq f7_c1 f7_c2
def f7_c4 : MC := .seq f7_c0 f7_c3
noncomputable def f7_code : Code := (Go.Proofs.Tryd.f7.body).getD .skip
theorem f7_body : Go.Proofs.Tryd.f7.body = Qv f7_code := by kernel_rfl
theorem f7_tr : trC Go.Proofs.Tryd.prog [1] f7_code = Qv f7_c4 := by kernel_rfl
theorem f7_rs : rsOf Go.Proofs.Tryd.prog Go.Proofs.Tryd.f7.results.toList = Qv [(RV.t 2), (RV.t 3)] := by kernel_rfl
theorem f7_nt : Go.Proofs.Tryd.f7.ntmps = 9 := by kernel_rfl
theorem f7_ok : callable Go.Proofs.Tryd.prog 7 = true := by kernel_rfl
theorem f7_in {gp : Heap} {args : List V} {res : V} (h : G ⟨Go.Proofs.Tryd.prog, gp, 0, [(RV.t 2), (RV.t 3)], fun r c => r = res ∧ c = [], false⟩ [.code f7_c4, .fin] ⟨args ++ List.replicate (9 - args.length) .un, []⟩) : Does Go.Proofs.Tryd.prog gp 7 args res :=
  does_intro f7_ok Go.Proofs.Tryd.func7 f7_body f7_tr f7_rs (by rw [f7_nt]; exact h)
theorem f7_tri {gp : Heap} {args : List V} {pre : List Ch} {R : V → List Ch → Prop} (h : G ⟨Go.Proofs.Tryd.prog, gp, pre.length, [(RV.t 2), (RV.t 3)], R, false⟩ [.code f7_c4, .fin] ⟨args ++ List.replicate (9 - args.length) .un, pre⟩) : Tri Go.Proofs.Tryd.prog gp 7 args pre R :=
  tri_intro Go.Proofs.Tryd.func7 f7_body f7_tr f7_rs (by rw [f7_nt]; exact h)
def f8_r0 : List MO := [
(Qa (Qv 2) (MOp.ibox (Qn 0))),
(Qa (Qv 4) (Qd (Qo (Qp A.nil)))),
(Qa (Qv 5) (Qd (Qo (Qp (Qq (Qr Qu 0))))))]
def f8_c0 : MC := .reg false f8_r0
def f8_r1 : List MO := [
(Qa (Qv 12) (Qf 2 true (Qn 2))),
(Qa (Qv 13) (Qd (Qn 1))),
(Qa (Qv 14) (Qh 18 [(Qn 12), (Qn 13)])),
(Qa (Qv 11) (Qd (Qn 14))),
(Qa (Qv 15) (Qi (Qn 11) 0)),
(Qa (Qv 16) (Qi (Qn 11) 1)),
(Qa (Qv 6) (MOp.alloc [(Qr Qu 0), (Qr Qu 0), (Qr Qu 0), (D.str (ByteArray.mk #[])), (D.sl []), (D.sl []), (Qr Qu 0)])),
(Qa none (Ql 7 (Qn 6) (Qn 15))),
(Qa (Qv 7) (Qd (Qn 16)))]
def f8_c1 : MC := .reg false f8_r1
def f8_r2 : List MO := [
(Qa (Qv 17) (Qd (Qn 7))),
(Qa (Qv 18) (Qe Qt Go.BinOp.eql (Qn 17) (Qo (Qp (Qq (Qr Qu 0)))))),
(Qa (Qv 19) (Qd (Qn 18))),
(Qb 19 true (Qv 20)),
(Qa (Qv 20) (Qg 0 (Qn 6))),
(Qb 19 true (Qv 21)),
(Qa (Qv 21) (Qg 0 (Qn 20))),
(Qb 19 true (Qv 22)),
(Qa (Qv 22) (Qf 1 false (Qn 21))),
(Qb 19 true (Qv 23)),
(Qa (Qv 23) (Qe Qt Go.BinOp.eql (Qn 22) (Qo (Qp (Qq (Qr Qu 1)))))),
(Qa (Qv 24) (Qm (Qn 19) (Qn 23) (Qo (Qp (Qq (Qs false))))))]
def f8_c2 : MC := .reg false f8_r2
def f8_r3 : List MO := [
(Qa (Qv 25) (Qg 0 (Qn 6))),
(Qa (Qv 26) (Qg 5 (Qn 25))),
(Qa (Qv 27) (Qf 1 false (Qn 26))),
(Qa (Qv 28) (Qh 19 [(Qn 27)])),
(Qa (Qv 29) (Qd (Qn 7))),
(Qa (Qv 4) (Qd (Qn 28))),
(Qa (Qv 5) (Qd (Qn 29)))]
def f8_c3 : MC := .reg false f8_r3
def f8_c4 : MC := MC.ret
def f8_c5 : MC := .seq f8_c3 f8_c4
def f8_c6 : MC := MC.skip
def f8_c7 : MC := .cond (Qn 24) f8_c5 f8_c6
def f8_c8 : MC := .seq f8_c2 f8_c7
def f8_r9 : List MO := [
(Qa (Qv 8) (Qd (Qo (Qp A.nil))))]
def f8_c9 : MC := .reg false f8_r9
def f8_r10 : List MO := [
(Qa (Qv 30) (Qf 7 true (Qn 6))),
(Qa (Qv 31) (Qh 20 [(Qn 30)])),
(Qa (Qv 32) (Qk Qt (Qn 31))),
(Qa (Qv 33) (Qd (Qo (Qp (Qq (Qr Qu 0))))))]
def f8_c10 : MC := .reg false f8_r10
def f8_r11 : List MO := [
(Qa (Qv 34) (Qe Qt Go.BinOp.lss (Qn 33) (Qn 32)))]
def f8_c11 : MC := .reg false f8_r11
def f8_c12 : MC := MC.skip
def f8_c13 : MC := (MC.exit 0)
def f8_c14 : MC := .cond (Qn 34) f8_c12 f8_c13
def f8_r15 : List MO := [
(Qa (Qv 35) (Qj 4 (Qn 31) (Qn 33))),
(Qa (Qv 36) (Qf 4 true (Qn 35))),
(Qa (Qv 10) (MOp.alloc [(Qr Qu 0), (Qr Qu 0), (D.str (ByteArray.mk #[])), (Qr Qu 0)])),
(Qa none (Ql 4 (Qn 10) (Qn 36)))]
def f8_c15 : MC := .reg false f8_r15
def f8_r16 : List MO := [
(Qa (Qv 37) (Qd (Qn 8))),
(Qa (Qv 38) (Qg 3 (Qn 10))),
(Qa (Qv 39) (Qf 1 false (Qn 38))),
(Qa (Qv 40) (MOp.bslice 1 [(Qr Qu 0)] 1 [(0, (Qn 39))])),
(Qa (Qv 41) (MOp.app 1 8 (Qn 37) (Qn 40))),
(Qa (Qv 8) (Qd (Qn 41)))]
def f8_c16 : MC := .reg false f8_r16
def f8_c17 : MC := .seq f8_c15 f8_c16
def f8_c18 : MC := .blk 1 f8_c17
def f8_r19 : List MO := [
(Qa (Qv 42) (Qe Qt Go.BinOp.add (Qn 33) (Qo (Qp (Qq (Qr Qu 1)))))),
(Qa (Qv 33) (Qd (Qn 42)))]
def f8_c19 : MC := .reg false f8_r19
def f8_c20 : MC := .seq f8_c18 f8_c19
def f8_c21 : MC := .seq f8_c14 f8_c20
def f8_c22 : MC := .seq f8_c11 f8_c21
def f8_c23 : MC := .loop f8_c22
def f8_c24 : MC := .blk 0 f8_c23
def f8_c25 : MC := .seq f8_c10 f8_c24
def f8_r26 : List MO := [
(Qa (Qv 43) (Qd (Qn 8))),
(Qa (Qv 44) (Qd (Qn 7))),
(Qa (Qv 4) (Qd (Qn 43))),
(Qa (Qv 5) (Qd (Qn 44)))]
def f8_c26 : MC := .reg false f8_r26
def f8_c27 : MC := MC.ret
def f8_c28 : MC := .seq f8_c26 f8_c27
def f8_c29 : MC := .seq f8_c25 f8_c28
def f8_c30 : MC := .seq f8_c9 f8_c29
def f8_c31 : MC := .seq f8_c8 f8_c30
def f8_c32 : MC := .seq f8_c1 f8_c31
def f8_c33 : MC := .seq f8_c0 f8_c32
noncomputable def f8_code : Code := (Go.Proofs.Tryd.f8.body).getD .skip
theorem f8_body : Go.Proofs.Tryd.f8.body = Qv f8_code := by kernel_rfl
theorem f8_tr : trC Go.Proofs.Tryd.prog [2] f8_code = Qv f8_c33 := by kernel_rfl
theorem f8_rs : rsOf Go.Proofs.Tryd.prog Go.Proofs.Tryd.f8.results.toList = Qv [(RV.t 4), (RV.t 5)] := by kernel_rfl
theorem f8_nt : Go.Proofs.Tryd.f8.ntmps = 45 := by kernel_rfl
theorem f8_ok : callable Go.Proofs.Tryd.prog 8 = true := by kernel_rfl
theorem f8_in {gp : Heap} {args : List V} {res : V} (h : G ⟨Go.Proofs.Tryd.prog, gp, 0, [(RV.t 4), (RV.t 5)], fun r c => r = res ∧ c = [], false⟩ [.code f8_c33, .fin] ⟨args ++ List.replicate (45 - args.length) .un, []⟩) : Does Go.Proofs.Tryd.prog gp 8 args res :=
  does_intro f8_ok Go.Proofs.Tryd.func8 f8_body f8_tr f8_rs (by rw [f8_nt]; exact h)
theorem f8_tri {gp : Heap} {args : List V} {pre : List Ch} {R : V → List Ch → Prop} (h : G ⟨Go.Proofs.Tryd.prog, gp, pre.length, [(RV.t 4), (RV.t 5)], R, false⟩ [.code f8_c33, .fin] ⟨args ++ List.replicate (45 - args.length) .un, pre⟩) : Tri Go.Proofs.Tryd.prog gp 8 args pre R :=
  tri_intro Go.Proofs.Tryd.func8 f8_body f8_tr f8_rs (by rw [f8_nt]; exact h)
def f9_r0 : List MO := [
(Qa (Qv 2) (MOp.ibox (Qn 0))),
(Qa (Qv 4) (Qd (Qo (Qp A.nil)))),
(Qa (Qv 5) (Qd (Qo (Qp (Qq (Qr Qu 0))))))]
def f9_c0 : MC := .reg false f9_r0
def f9_r1 : List MO := [
(Qa (Qv 12) (Qf 2 true (Qn 2))),
(Qa (Qv 13) (Qd (Qn 1))),
(Qa (Qv 14) (Qh 18 [(Qn 12), (Qn 13)])),
(Qa (Qv 11) (Qd (Qn 14))),
(Qa (Qv 15) (Qi (Qn 11) 0)),
(Qa (Qv 16) (Qi (Qn 11) 1)),
(Qa (Qv 6) (MOp.alloc [(Qr Qu 0), (Qr Qu 0), (Qr Qu 0), (D.str (ByteArray.mk #[])), (D.sl []), (D.sl []), (Qr Qu 0)])),
(Qa none (Ql 7 (Qn 6) (Qn 15))),
(Qa (Qv 7) (Qd (Qn 16)))]
def f9_c1 : MC := .reg false f9_r1
def f9_r2 : List MO := [
(Qa (Qv 8) (Qd (Qo (Qp A.nil))))]
def f9_c2 : MC := .reg false f9_r2
def f9_r3 : List MO := [
(Qa (Qv 17) (Qf 7 true (Qn 6))),
(Qa (Qv 18) (Qh 20 [(Qn 17)])),
(Qa (Qv 19) (Qk Qt (Qn 18))),
(Qa (Qv 20) (Qd (Qo (Qp (Qq (Qr Qu 0))))))]
def f9_c3 : MC := .reg false f9_r3
def f9_r4 : List MO := [
(Qa (Qv 21) (Qe Qt Go.BinOp.lss (Qn 20) (Qn 19)))]
def f9_c4 : MC := .reg false f9_r4
def f9_c5 : MC := MC.skip
def f9_c6 : MC := (MC.exit 0)
def f9_c7 : MC := .cond (Qn 21) f9_c5 f9_c6
def f9_r8 : List MO := [
(Qa (Qv 22) (Qj 4 (Qn 18) (Qn 20))),
(Qa (Qv 23) (Qf 4 true (Qn 22))),
(Qa (Qv 10) (MOp.alloc [(Qr Qu 0), (Qr Qu 0), (D.str (ByteArray.mk #[])), (Qr Qu 0)])),
(Qa none (Ql 4 (Qn 10) (Qn 23)))]
def f9_c8 : MC := .reg false f9_r8
def f9_r9 : List MO := [
(Qa (Qv 24) (Qd (Qn 8))),
(Qa (Qv 25) (Qg 0 (Qn 10))),
(Qa (Qv 26) (Qf 3 true (Qn 25))),
(Qa (Qv 27) (MOp.bslice 3 [(Qr Qu 0), (Qr Qu 0), (D.str (ByteArray.mk #[]))] 1 [(0, (Qn 26))])),
(Qa (Qv 28) (MOp.app 3 32 (Qn 24) (Qn 27))),
(Qa (Qv 8) (Qd (Qn 28)))]
def f9_c9 : MC := .reg false f9_r9
def f9_c10 : MC := .seq f9_c8 f9_c9
def f9_c11 : MC := .blk 1 f9_c10
def f9_r12 : List MO := [
(Qa (Qv 29) (Qe Qt Go.BinOp.add (Qn 20) (Qo (Qp (Qq (Qr Qu 1)))))),
(Qa (Qv 20) (Qd (Qn 29)))]
def f9_c12 : MC := .reg false f9_r12
def f9_c13 : MC := .seq f9_c11 f9_c12
def f9_c14 : MC := .seq f9_c7 f9_c13
def f9_c15 : MC := .seq f9_c4 f9_c14
def f9_c16 : MC := .loop f9_c15
def f9_c17 : MC := .blk 0 f9_c16
def f9_c18 : MC := .seq f9_c3 f9_c17
def f9_r19 : List MO := [
(Qa (Qv 30) (Qd (Qn 8))),
(Qa (Qv 31) (Qd (Qn 7))),
(Qa (Qv 4) (Qd (Qn 30))),
(Qa (Qv 5) (Qd (Qn 31)))]
def f9_c19 : MC := .reg false f9_r19
def f9_c20 : MC := MC.ret
def f9_c21 : MC := .seq f9_c19 f9_c20
def f9_c22 : MC := .seq f9_c18 f9_c21
def f9_c23 : MC := .seq f9_c2 f9_c22
def f9_c24 : MC := .seq f9_c1 f9_c23
def f9_c25 : MC := .seq f9_c0 f9_c24
noncomputable def f9_code : Code := (Go.Proofs.Tryd.f9.body).getD .skip
theorem f9_body : Go.Proofs.Tryd.f9.body = Qv f9_code := by kernel_rfl
theorem f9_tr : trC Go.Proofs.Tryd.prog [2] f9_code = Qv f9_c25 := by kernel_rfl
theorem f9_rs : rsOf Go.Proofs.Tryd.prog Go.Proofs.Tryd.f9.results.toList = Qv [(RV.t 4), (RV.t 5)] := by kernel_rfl
theorem f9_nt : Go.Proofs.Tryd.f9.ntmps = 32 := by kernel_rfl
theorem f9_ok : callable Go.Proofs.Tryd.prog 9 = true := by kernel_rfl
theorem f9_in {gp : Heap} {args : List V} {res : V} (h : G ⟨Go.Proofs.Tryd.prog, gp, 0, [(RV.t 4), (RV.t 5)], fun r c => r = res ∧ c = [], false⟩ [.code f9_c25, .fin] ⟨args ++ List.replicate (32 - args.length) .un, []⟩) : Does Go.Proofs.Tryd.prog gp 9 args res :=
  does_intro f9_ok Go.Proofs.Tryd.func9 f9_body f9_tr f9_rs (by rw [f9_nt]; exact h)
theorem f9_tri {gp : Heap} {args : List V} {pre : List Ch} {R : V → List Ch → Prop} (h : G ⟨Go.Proofs.Tryd.prog, gp, pre.length, [(RV.t 4), (RV.t 5)], R, false⟩ [.code f9_c25, .fin] ⟨args ++ List.replicate (32 - args.length) .un, pre⟩) : Tri Go.Proofs.Tryd.prog gp 9 args pre R :=
  tri_intro Go.Proofs.Tryd.func9 f9_body f9_tr f9_rs (by rw [f9_nt]; exact h)
def f10_r0 : List MO := [
(Qa (Qv 3) (MOp.ibox (Qn 0))),
(Qa (Qv 5) (MOp.ibox (Qn 2))),
(Qa (Qv 6) (Qd (Qo (Qp (Qq (Qr Qu 0)))))),
(Qa (Qv 7) (Qd (Qo (Qp (Qq (Qs false))))))]
def f10_c0 : MC := .reg false f10_r0
def f10_r1 : List MO := [
(Qa (Qv 13) (Qf 2 true (Qn 3))),
(Qa (Qv 14) (Qd (Qn 1))),
(Qa (Qv 15) (Qh 18 [(Qn 13), (Qn 14)])),
(Qa (Qv 12) (Qd (Qn 15))),
(Qa (Qv 16) (Qi (Qn 12) 0)),
(Qa (Qv 17) (Qi (Qn 12) 1)),
(Qa (Qv 8) (MOp.alloc [(Qr Qu 0), (Qr Qu 0), (Qr Qu 0), (D.str (ByteArray.mk #[])), (D.sl []), (D.sl []), (Qr Qu 0)])),
(Qa none (Ql 7 (Qn 8) (Qn 16))),
(Qa (Qv 9) (Qd (Qn 17)))]
def f10_c1 : MC := .reg false f10_r1
def f10_r2 : List MO := [
(Qa (Qv 18) (Qd (Qn 9))),
(Qa (Qv 19) (Qe Qt Go.BinOp.neq (Qn 18) (Qo (Qp (Qq (Qr Qu 0)))))),
(Qa (Qv 20) (Qd (Qn 19))),
(Qb 20 false (Qv 21)),
(Qa (Qv 21) (Qg 0 (Qn 8))),
(Qb 20 false (Qv 22)),
(Qa (Qv 22) (Qg 0 (Qn 21))),
(Qb 20 false (Qv 23)),
(Qa (Qv 23) (Qf 1 false (Qn 22))),
(Qb 20 false (Qv 24)),
(Qa (Qv 24) (Qe Qt Go.BinOp.neq (Qn 23) (Qo (Qp (Qq (Qr Qu 2)))))),
(Qa (Qv 25) (Qm (Qn 20) (Qo (Qp (Qq (Qs true)))) (Qn 24)))]
def f10_c2 : MC := .reg false f10_r2
def f10_r3 : List MO := [
(Qa (Qv 6) (Qd (Qo (Qp (Qq (Qr Qu 0)))))),
(Qa (Qv 7) (Qd (Qo (Qp (Qq (Qs false))))))]
def f10_c3 : MC := .reg false f10_r3
def f10_c4 : MC := MC.ret
def f10_c5 : MC := .seq f10_c3 f10_c4
def f10_c6 : MC := MC.skip
def f10_c7 : MC := .cond (Qn 25) f10_c5 f10_c6
def f10_c8 : MC := .seq f10_c2 f10_c7
def f10_r9 : List MO := [
(Qa (Qv 26) (Qg 0 (Qn 8))),
(Qa (Qv 27) (Qg 4 (Qn 26))),
(Qa (Qv 28) (Qf 1 false (Qn 27))),
(Qa (Qv 29) (Qg 0 (Qn 8))),
(Qa (Qv 30) (Qg 4 (Qn 29))),
(Qa (Qv 31) (Qf 1 false (Qn 30))),
(Qa (Qv 32) (Qk Qt (Qn 31))),
(Qa (Qv 33) (Qg 0 (Qn 8))),
(Qa (Qv 34) (Qg 5 (Qn 33))),
(Qa (Qv 35) (Qf 1 false (Qn 34))),
(Qa (Qv 36) (Qk Qt (Qn 35))),
(Qa (Qv 37) (MOp.min (Qn 32) (Qn 36))),
(Qa (Qv 38) (MOp.slc 3 (Qn 28) none (Qv (Qn 37)))),
(Qa (Qv 39) (Qk Qt (Qn 38))),
(Qa (Qv 40) (Qd (Qo (Qp (Qq (Qr Qu 0))))))]
def f10_c9 : MC := .reg false f10_r9
def f10_r10 : List MO := [
(Qa (Qv 41) (Qe Qt Go.BinOp.lss (Qn 40) (Qn 39)))]
def f10_c10 : MC := .reg false f10_r10
def f10_c11 : MC := MC.skip
def f10_c12 : MC := (MC.exit 0)
def f10_c13 : MC := .cond (Qn 41) f10_c11 f10_c12
def f10_r14 : List MO := [
(Qa (Qv 42) (Qd (Qn 40))),
(Qa (Qv 43) (Qj 3 (Qn 38) (Qn 40))),
(Qa (Qv 44) (Qf 3 true (Qn 43))),
(Qa (Qv 11) (MOp.alloc [(Qr Qu 0), (Qr Qu 0), (D.str (ByteArray.mk #[]))])),
(Qa (Qv 10) (Qd (Qn 42))),
(Qa none (Ql 3 (Qn 11) (Qn 44)))]
def f10_c14 : MC := .reg false f10_r14
def f10_r15 : List MO := [
(Qa (Qv 45) (Qf 3 true (Qn 11))),
(Qa (Qv 46) (Qf 3 true (Qn 5))),
(Qa (Qv 47) (MOp.eqs false [Qt, Qt, Leaf.s] (Qn 45) (Qn 46)))]
def f10_c15 : MC := .reg false f10_r15
def f10_r16 : List MO := [
(Qa (Qv 48) (Qg 0 (Qn 8))),
(Qa (Qv 49) (Qg 5 (Qn 48))),
(Qa (Qv 50) (Qf 1 false (Qn 49))),
(Qa (Qv 51) (Qd (Qn 10))),
(Qa (Qv 52) (Qj 1 (Qn 50) (Qn 51))),
(Qa (Qv 53) (Qf 1 false (Qn 52))),
(Qa (Qv 6) (Qd (Qn 53))),
(Qa (Qv 7) (Qd (Qo (Qp (Qq (Qs true))))))]
def f10_c16 : MC := .reg false f10_r16
def f10_c17 : MC := MC.ret
def f10_c18 : MC := .seq f10_c16 f10_c17
def f10_c19 : MC := MC.skip
def f10_c20 : MC := .cond (Qn 47) f10_c18 f10_c19
def f10_c21 : MC := .seq f10_c15 f10_c20
def f10_c22 : MC := .seq f10_c14 f10_c21
def f10_c23 : MC := .blk 1 f10_c22
def f10_r24 : List MO := [
(Qa (Qv 54) (Qe Qt Go.BinOp.add (Qn 40) (Qo (Qp (Qq (Qr Qu 1)))))),
(Qa (Qv 40) (Qd (Qn 54)))]
def f10_c24 : MC := .reg false f10_r24
def f10_c25 : MC := .seq f10_c23 f10_c24
def f10_c26 : MC := .seq f10_c13 f10_c25
def f10_c27 : MC := .seq f10_c10 f10_c26
def f10_c28 : MC := .loop f10_c27
def f10_c29 : MC := .blk 0 f10_c28
def f10_c30 : MC := .seq f10_c9 f10_c29
def f10_r31 : List MO := [
(Qa (Qv 6) (Qd (Qo (Qp (Qq (Qr Qu 0)))))),
(Qa (Qv 7) (Qd (Qo (Qp (Qq (Qs false))))))]
def f10_c31 : MC := .reg false f10_r31
def f10_c32 : MC := MC.ret
def f10_c33 : MC := .seq f10_c31 f10_c32
def f10_c34 : MC := .seq f10_c30 f10_c33
def f10_c35 : MC := .seq f10_c8 f10_c34
def f10_c36 : MC := .seq f10_c1 f10_c35
def f10_c37 : MC := .seq f10_c0 f10_c36
noncomputable def f10_code : Code := (Go.Proofs.Tryd.f10.body).getD .skip
theorem f10_body : Go.Proofs.Tryd.f10.body = Qv f10_code := by kernel_rfl
theorem f10_tr : trC Go.Proofs.Tryd.prog [3, 5] f10_code = Qv f10_c37 := by kernel_rfl
theorem f10_rs : rsOf Go.Proofs.Tryd.prog Go.Proofs.Tryd.f10.results.toList = Qv [(RV.t 6), (RV.t 7)] := by kernel_rfl
theorem f10_nt : Go.Proofs.Tryd.f10.ntmps = 55 := by kernel_rfl
theorem f10_ok : callable Go.Proofs.Tryd.prog 10 = true := by kernel_rfl
theorem f10_in {gp : Heap} {args : List V} {res : V} (h : G ⟨Go.Proofs.Tryd.prog, gp, 0, [(RV.t 6), (RV.t 7)], fun r c => r = res ∧ c = [], false⟩ [.code f10_c37, .fin] ⟨args ++ List.replicate (55 - args.length) .un, []⟩) : Does Go.Proofs.Tryd.prog gp 10 args res :=
  does_intro f10_ok Go.Proofs.Tryd.func10 f10_body f10_tr f10_rs (by rw [f10_nt]; exact h)
theorem f10_tri {gp : Heap} {args : List V} {pre : List Ch} {R : V → List Ch → Prop} (h : G ⟨Go.Proofs.Tryd.prog, gp, pre.length, [(RV.t 6), (RV.t 7)], R, false⟩ [.code f10_c37, .fin] ⟨args ++ List.replicate (55 - args.length) .un, pre⟩) : Tri Go.Proofs.Tryd.prog gp 10 args pre R :=
  tri_intro Go.Proofs.Tryd.func10 f10_body f10_tr f10_rs (by rw [f10_nt]; exact h)
def f11_r0 : List MO := [
(Qa (Qv 2) (MOp.ibox (Qn 0))),
(Qa (Qv 3) (MOp.ibox (Qn 1))),
(Qa (Qv 4) (Qd (Qo (Qp (Qq (Qr Qu 0))))))]
def f11_c0 : MC := .reg false f11_r0
def f11_r1 : List MO := [
(Qa (Qv 5) (Qf 3 true (Qn 2))),
(Qa (Qv 6) (Qf 3 true (Qn 3))),
(Qa (Qv 7) (MOp.eqs false [Qt, Qt, Leaf.s] (Qn 5) (Qn 6)))]
def f11_c1 : MC := .reg false f11_r1
def f11_r2 : List MO := [
(Qa (Qv 4) (Qd (Qo (Qp (Qq (Qr Qu 0))))))]
def f11_c2 : MC := .reg false f11_r2
def f11_c3 : MC := MC.ret
def f11_c4 : MC := .seq f11_c2 f11_c3
def f11_c5 : MC := MC.skip
def f11_c6 : MC := .cond (Qn 7) f11_c4 f11_c5
def f11_c7 : MC := .seq f11_c1 f11_c6
def f11_r8 : List MO := [
(Qa (Qv 8) (Qg 0 (Qn 2))),
(Qa (Qv 9) (Qf 1 false (Qn 8))),
(Qa (Qv 10) (Qg 0 (Qn 3))),
(Qa (Qv 11) (Qf 1 false (Qn 10))),
(Qa (Qv 12) (Qh 22 [(Qn 9), (Qn 11)])),
(Qa (Qv 13) (Qg 1 (Qn 2))),
(Qa (Qv 14) (Qf 1 false (Qn 13))),
(Qa (Qv 15) (Qg 1 (Qn 3))),
(Qa (Qv 16) (Qf 1 false (Qn 15))),
(Qa (Qv 17) (Qh 22 [(Qn 14), (Qn 16)])),
(Qa (Qv 18) (Qg 2 (Qn 2))),
(Qa (Qv 19) (Qf 1 false (Qn 18))),
(Qa (Qv 20) (Qg 2 (Qn 3))),
(Qa (Qv 21) (Qf 1 false (Qn 20))),
(Qc (Qv 22) (Qh 23 [(Qn 19), (Qn 21)])),
(Qa (Qv 23) (MOp.bslice 1 [(Qr Qu 0)] 3 [(0, (Qn 12)), (1, (Qn 17)), (2, (Qn 22))])),
(Qc (Qv 24) (Qh 21 [(Qn 23)])),
(Qa (Qv 4) (Qd (Qn 24)))]
def f11_c8 : MC := .reg true f11_r8
def f11_c9 : MC := MC.ret
def f11_c10 : MC := .seq f11_c8 f11_c9
def f11_c11 : MC := .seq f11_c7 f11_c10
def f11_c12 : MC := .seq f11_c0 f11_c11
noncomputable def f11_code : Code := (Go.Proofs.Tryd.f11.body).getD .skip
theorem f11_body : Go.Proofs.Tryd.f11.body = Qv f11_code := by kernel_rfl
theorem f11_tr : trC Go.Proofs.Tryd.prog [2, 3] f11_code = Qv f11_c12 := by kernel_rfl
theorem f11_rs : rsOf Go.Proofs.Tryd.prog Go.Proofs.Tryd.f11.results.toList = Qv [(RV.t 4)] := by kernel_rfl
theorem f11_nt : Go.Proofs.Tryd.f11.ntmps = 25 := by kernel_rfl
theorem f11_ok : callable Go.Proofs.Tryd.prog 11 = true := by kernel_rfl
theorem f11_in {gp : Heap} {args : List V} {res : V} (h : G ⟨Go.Proofs.Tryd.prog, gp, 0, [(RV.t 4)], fun r c => r = res ∧ c = [], false⟩ [.code f11_c12, .fin] ⟨args ++ List.replicate (25 - args.length) .un, []⟩) : Does Go.Proofs.Tryd.prog gp 11 args res :=
  does_intro f11_ok Go.Proofs.Tryd.func11 f11_body f11_tr f11_rs (by rw [f11_nt]; exact h)
theorem f11_tri {gp : Heap} {args : List V} {pre : List Ch} {R : V → List Ch → Prop} (h : G ⟨Go.Proofs.Tryd.prog, gp, pre.length, [(RV.t 4)], R, false⟩ [.code f11_c12, .fin] ⟨args ++ List.replicate (25 - args.length) .un, pre⟩) : Tri Go.Proofs.Tryd.prog gp 11 args pre R :=
  tri_intro Go.Proofs.Tryd.func11 f11_body f11_tr f11_rs (by rw [f11_nt]; exact h)
def f12_r0 : List MO := [
(Qa (Qv 4) (Qd (Qo (Qp (Qq (Qs false))))))]
def f12_c0 : MC := .reg false f12_r0
def f12_r1 : List MO := [
(Qa (Qv 6) (Qd (Qn 0))),
(Qa (Qv 7) (Qk Qt (Qn 6))),
(Qa (Qv 8) (Qd (Qn 1))),
(Qa (Qv 9) (Qk Qt (Qn 8))),
(Qa (Qv 10) (Qe Qt Go.BinOp.neq (Qn 7) (Qn 9)))]
def f12_c1 : MC := .reg false f12_r1
def f12_r2 : List MO := [
(Qa (Qv 4) (Qd (Qo (Qp (Qq (Qs false))))))]
def f12_c2 : MC := .reg false f12_r2
def f12_c3 : MC := MC.ret
def f12_c4 : MC := .seq f12_c2 f12_c3
def f12_c5 : MC := MC.skip
def f12_c6 : MC := .cond (Qn 10) f12_c4 f12_c5
def f12_c7 : MC := .seq f12_c1 f12_c6
def f12_r8 : List MO := [
(Qa (Qv 5) (Qd (Qo (Qp (Qq (Qr Qu 0))))))]
def f12_c8 : MC := .reg false f12_r8
def f12_r9 : List MO := [
(Qa (Qv 11) (Qd (Qn 5))),
(Qa (Qv 12) (Qd (Qn 0))),
(Qa (Qv 13) (Qk Qt (Qn 12))),
(Qa (Qv 14) (Qe Qt Go.BinOp.lss (Qn 11) (Qn 13)))]
def f12_c9 : MC := .reg false f12_r9
def f12_c10 : MC := MC.skip
def f12_c11 : MC := (MC.exit 0)
def f12_c12 : MC := .cond (Qn 14) f12_c10 f12_c11
def f12_c13 : MC := .seq f12_c9 f12_c12
def f12_r14 : List MO := [
(Qa (Qv 17) (Qd (Qn 0))),
(Qa (Qv 18) (Qd (Qn 5))),
(Qa (Qv 19) (Qj 1 (Qn 17) (Qn 18))),
(Qa (Qv 20) (Qf 1 false (Qn 19))),
(Qa (Qv 21) (Qd (Qn 1))),
(Qa (Qv 22) (Qd (Qn 5))),
(Qa (Qv 23) (Qj 1 (Qn 21) (Qn 22))),
(Qa (Qv 24) (Qf 1 false (Qn 23))),
(Qa (Qv 25) (Qe Qt Go.BinOp.neq (Qn 20) (Qn 24)))]
def f12_c14 : MC := .reg true f12_r14
def f12_r15 : List MO := [
(Qa (Qv 4) (Qd (Qo (Qp (Qq (Qs false))))))]
def f12_c15 : MC := .reg false f12_r15
def f12_c16 : MC := MC.ret
def f12_c17 : MC := .seq f12_c15 f12_c16
def f12_c18 : MC := MC.skip
def f12_c19 : MC := .cond (Qn 25) f12_c17 f12_c18
def f12_c20 : MC := .seq f12_c14 f12_c19
def f12_c21 : MC := .blk 1 f12_c20
def f12_r22 : List MO := [
(Qa (Qv 15) (Qd (Qn 5))),
(Qa (Qv 16) (Qe Qt Go.BinOp.add (Qn 15) (Qo (Qp (Qq (Qr Qu 1)))))),
(Qa (Qv 5) (Qd (Qn 16)))]
def f12_c22 : MC := .reg false f12_r22
def f12_c23 : MC := .seq f12_c21 f12_c22
def f12_c24 : MC := .seq f12_c13 f12_c23
def f12_c25 : MC := .loop f12_c24
def f12_c26 : MC := .blk 0 f12_c25
def f12_c27 : MC := .seq f12_c8 f12_c26
def f12_r28 : List MO := [
(Qa (Qv 4) (Qd (Qo (Qp (Qq (Qs true))))))]
def f12_c28 : MC := .reg false f12_r28
def f12_c29 : MC := MC.ret
def f12_c30 : MC := .seq f12_c28 f12_c29
def f12_c31 : MC := .seq f12_c27 f12_c30
def f12_c32 : MC := .seq f12_c7 f12_c31
def f12_c33 : MC := .seq f12_c0 f12_c32
noncomputable def f12_code : Code := (Go.Proofs.Tryd.f12.body).getD .skip
theorem f12_body : Go.Proofs.Tryd.f12.body = Qv f12_code := by kernel_rfl
theorem f12_tr : trC Go.Proofs.Tryd.prog [] f12_code = Qv f12_c33 := by kernel_rfl
theorem f12_rs : rsOf Go.Proofs.Tryd.prog Go.Proofs.Tryd.f12.results.toList = Qv [(RV.t 4)] := by kernel_rfl
theorem f12_nt : Go.Proofs.Tryd.f12.ntmps = 26 := by kernel_rfl
theorem f12_ok : callable Go.Proofs.Tryd.prog 12 = true := by kernel_rfl
theorem f12_in {gp : Heap} {args : List V} {res : V} (h : G ⟨Go.Proofs.Tryd.prog, gp, 0, [(RV.t 4)], fun r c => r = res ∧ c = [], false⟩ [.code f12_c33, .fin] ⟨args ++ List.replicate (26 - args.length) .un, []⟩) : Does Go.Proofs.Tryd.prog gp 12 args res :=
  does_intro f12_ok Go.Proofs.Tryd.func12 f12_body f12_tr f12_rs (by rw [f12_nt]; exact h)
theorem f12_tri {gp : Heap} {args : List V} {pre : List Ch} {R : V → List Ch → Prop} (h : G ⟨Go.Proofs.Tryd.prog, gp, pre.length, [(RV.t 4)], R, false⟩ [.code f12_c33, .fin] ⟨args ++ List.replicate (26 - args.length) .un, pre⟩) : Tri Go.Proofs.Tryd.prog gp 12 args pre R :=
  tri_intro Go.Proofs.Tryd.func12 f12_body f12_tr f12_rs (by rw [f12_nt]; exact h)
def f14_r0 : List MO := [
(Qa (Qv 2) (MOp.ibox (Qn 0))),
(Qa (Qv 3) (MOp.ibox (Qn 1))),
(Qa (Qv 4) (Qd (Qo (Qp (Qq (Qs false))))))]
def f14_c0 : MC := .reg false f14_r0
def f14_r1 : List MO := [
(Qa (Qv 5) (Qd (Qo (Qp (Qq (D.fn (Go.Fn.func 24) []))))))]
def f14_c1 : MC := .reg false f14_r1
def f14_r2 : List MO := [
(Qa (Qv 6) (Qg 0 (Qn 2))),
(Qa (Qv 7) (Qf 1 false (Qn 6))),
(Qa (Qv 8) (Qg 0 (Qn 3))),
(Qa (Qv 9) (Qf 1 false (Qn 8))),
(Qa (Qv 10) (Qe Qt Go.BinOp.eql (Qn 7) (Qn 9))),
(Qa (Qv 11) (Qd (Qn 10))),
(Qb 11 true (Qv 12)),
(Qa (Qv 12) (Qg 1 (Qn 2))),
(Qb 11 true (Qv 13)),
(Qa (Qv 13) (Qf 1 false (Qn 12))),
(Qb 11 true (Qv 14)),
(Qa (Qv 14) (Qg 1 (Qn 3))),
(Qb 11 true (Qv 15)),
(Qa (Qv 15) (Qf 1 false (Qn 14))),
(Qb 11 true (Qv 16)),
(Qa (Qv 16) (Qd (Qn 5))),
(Qb 11 true (Qv 17)),
(Qa (Qv 17) (Qh 27 [(Qn 13), (Qn 15), (Qn 16)])),
(Qa (Qv 18) (Qm (Qn 11) (Qn 17) (Qo (Qp (Qq (Qs false)))))),
(Qa (Qv 4) (Qd (Qn 18)))]
def f14_c2 : MC := .reg false f14_r2
def f14_c3 : MC := MC.ret
def f14_c4 : MC := .seq f14_c2 f14_c3
def f14_c5 : MC := .seq f14_c1 f14_c4
def f14_c6 : MC := .seq f14_c0 f14_c5
noncomputable def f14_code : Code := (Go.Proofs.Tryd.f14.body).getD .skip
theorem f14_body : Go.Proofs.Tryd.f14.body = Qv f14_code := by kernel_rfl
theorem f14_tr : trC Go.Proofs.Tryd.prog [2, 3] f14_code = Qv f14_c6 := by kernel_rfl
theorem f14_rs : rsOf Go.Proofs.Tryd.prog Go.Proofs.Tryd.f14.results.toList = Qv [(RV.t 4)] := by kernel_rfl
theorem f14_nt : Go.Proofs.Tryd.f14.ntmps = 19 := by kernel_rfl
theorem f14_ok : callable Go.Proofs.Tryd.prog 14 = true := by kernel_rfl
theorem f14_in {gp : Heap} {args : List V} {res : V} (h : G ⟨Go.Proofs.Tryd.prog, gp, 0, [(RV.t 4)], fun r c => r = res ∧ c = [], false⟩ [.code f14_c6, .fin] ⟨args ++ List.replicate (19 - args.length) .un, []⟩) : Does Go.Proofs.Tryd.prog gp 14 args res :=
  does_intro f14_ok Go.Proofs.Tryd.func14 f14_body f14_tr f14_rs (by rw [f14_nt]; exact h)
theorem f14_tri {gp : Heap} {args : List V} {pre : List Ch} {R : V → List Ch → Prop} (h : G ⟨Go.Proofs.Tryd.prog, gp, pre.length, [(RV.t 4)], R, false⟩ [.code f14_c6, .fin] ⟨args ++ List.replicate (19 - args.length) .un, pre⟩) : Tri Go.Proofs.Tryd.prog gp 14 args pre R :=
  tri_intro Go.Proofs.Tryd.func14 f14_body f14_tr f14_rs (by rw [f14_nt]; exact h)
def f15_r0 : List MO := [
(Qa (Qv 1) (MOp.ibox (Qn 0))),
(Qa (Qv 2) (MOp.alloc [(Qr Qu 0), (Qr Qu 0), (D.str (ByteArray.mk #[]))]))]
def f15_c0 : MC := .reg false f15_r0
def f15_r1 : List MO := [
(Qa (Qv 3) (Qg 0 (Qn 1))),
(Qa (Qv 4) (Qf 1 false (Qn 3))),
(Qa (Qv 5) (Qg 1 (Qn 1))),
(Qa (Qv 6) (Qf 1 false (Qn 5))),
(Qa (Qv 7) (Qg 2 (Qn 1))),
(Qa (Qv 8) (Qf 1 false (Qn 7))),
(Qa (Qv 9) (Qh 28 [(Qn 8)])),
(Qa (Qv 10) (MOp.build [(Qr Qu 0), (Qr Qu 0), (D.str (ByteArray.mk #[]))] [(0, (1, (Qn 4))), (1, (1, (Qn 6))), (2, (1, (Qn 9)))])),
(Qa none (Ql 3 (Qn 2) (Qn 10)))]
def f15_c1 : MC := .reg true f15_r1
def f15_c2 : MC := MC.ret
def f15_c3 : MC := .seq f15_c1 f15_c2
def f15_c4 : MC := .seq f15_c0 f15_c3
noncomputable def f15_code : Code := (Go.Proofs.Tryd.f15.body).getD .skip
theorem f15_body : Go.Proofs.Tryd.f15.body = Qv f15_code := by kernel_rfl
theorem f15_tr : trC Go.Proofs.Tryd.prog [1] f15_code = Qv f15_c4 := by kernel_rfl
theorem f15_rs : rsOf Go.Proofs.Tryd.prog Go.Proofs.Tryd.f15.results.toList = Qv [(RV.cell 2 3 true)] := by kernel_rfl
theorem f15_nt : Go.Proofs.Tryd.f15.ntmps = 11 := by kernel_rfl
theorem f15_ok : callable Go.Proofs.Tryd.prog 15 = true := by kernel_rfl
theorem f15_in {gp : Heap} {args : List V} {res : V} (h : G ⟨Go.Proofs.Tryd.prog, gp, 0, [(RV.cell 2 3 true)], fun r c => r = res ∧ c = [], false⟩ [.code f15_c4, .fin] ⟨args ++ List.replicate (11 - args.length) .un, []⟩) : Does Go.Proofs.Tryd.prog gp 15 args res :=
  does_intro f15_ok Go.Proofs.Tryd.func15 f15_body f15_tr f15_rs (by rw [f15_nt]; exact h)
theorem f15_tri {gp : Heap} {args : List V} {pre : List Ch} {R : V → List Ch → Prop} (h : G ⟨Go.Proofs.Tryd.prog, gp, pre.length, [(RV.cell 2 3 true)], R, false⟩ [.code f15_c4, .fin] ⟨args ++ List.replicate (11 - args.length) .un, pre⟩) : Tri Go.Proofs.Tryd.prog gp 15 args pre R :=
  tri_intro Go.Proofs.Tryd.func15 f15_body f15_tr f15_rs (by rw [f15_nt]; exact h)
def f16_r0 : List MO := [
(Qa (Qv 2) (Qd (Qo (Qp (Qq (Qr Qu 0)))))),
(Qa (Qv 3) (Qd (Qo (Qp (Qq (Qr Qu 0))))))]
def f16_c0 : MC := .reg false f16_r0
def f16_r1 : List MO := [
(Qa (Qv 4) (MOp.alloc [(Qr Qu 0), (Qr Qu 0)]))]
def f16_c1 : MC := .reg false f16_r1
def f16_r2 : List MO := [
(Qa (Qv 5) (Qd (Qn 0))),
(Qa (Qv 6) (MOp.mkI 70 (Qn 4))),
(Qa (Qv 7) (Qh 29 [(Qn 5), (Qn 6)]))]
def f16_c2 : MC := .reg false f16_r2
def f16_r3 : List MO := [
(Qa (Qv 8) (Qg 0 (Qn 4))),
(Qa (Qv 9) (Qf 1 false (Qn 8))),
(Qa (Qv 10) (Qg 1 (Qn 4))),
(Qa (Qv 11) (Qf 1 false (Qn 10))),
(Qa (Qv 2) (Qd (Qn 9))),
(Qa (Qv 3) (Qd (Qn 11)))]
def f16_c3 : MC := .reg true f16_r3
def f16_c4 : MC := MC.ret
def f16_c5 : MC := .seq f16_c3 f16_c4
def f16_c6 : MC := MC.skip
def f16_c7 : MC := .cond (Qn 7) f16_c5 f16_c6
def f16_c8 : MC := .seq f16_c2 f16_c7
def f16_r9 : List MO := [
(Qa (Qv 2) (Qd (Qo (Qp (Qq (Qr Qu 0)))))),
(Qa (Qv 3) (Qd (Qo (Qp (Qq (Qr Qu 0))))))]
def f16_c9 : MC := .reg false f16_r9
def f16_c10 : MC := MC.ret
def f16_c11 : MC := .seq f16_c9 f16_c10
def f16_c12 : MC := .seq f16_c8 f16_c11
def f16_c13 : MC := .seq f16_c1 f16_c12
def f16_c14 : MC := .seq f16_c0 f16_c13
noncomputable def f16_code : Code := (Go.Proofs.Tryd.f16.body).getD .skip
theorem f16_body : Go.Proofs.Tryd.f16.body = Qv f16_code := by kernel_rfl
theorem f16_tr : trC Go.Proofs.Tryd.prog [] f16_code = Qv f16_c14 := by kernel_rfl
theorem f16_rs : rsOf Go.Proofs.Tryd.prog Go.Proofs.Tryd.f16.results.toList = Qv [(RV.t 2), (RV.t 3)] := by kernel_rfl
theorem f16_nt : Go.Proofs.Tryd.f16.ntmps = 12 := by kernel_rfl
theorem f16_ok : callable Go.Proofs.Tryd.prog 16 = true := by kernel_rfl
theorem f16_in {gp : Heap} {args : List V} {res : V} (h : G ⟨Go.Proofs.Tryd.prog, gp, 0, [(RV.t 2), (RV.t 3)], fun r c => r = res ∧ c = [], false⟩ [.code f16_c14, .fin] ⟨args ++ List.replicate (12 - args.length) .un, []⟩) : Does Go.Proofs.Tryd.prog gp 16 args res :=
  does_intro f16_ok Go.Proofs.Tryd.func16 f16_body f16_tr f16_rs (by rw [f16_nt]; exact h)
theorem f16_tri {gp : Heap} {args : List V} {pre : List Ch} {R : V → List Ch → Prop} (h : G ⟨Go.Proofs.Tryd.prog, gp, pre.length, [(RV.t 2), (RV.t 3)], R, false⟩ [.code f16_c14, .fin] ⟨args ++ List.replicate (12 - args.length) .un, pre⟩) : Tri Go.Proofs.Tryd.prog gp 16 args pre R :=
  tri_intro Go.Proofs.Tryd.func16 f16_body f16_tr f16_rs (by rw [f16_nt]; exact h)
def f17_r0 : List MO := [
(Qa (Qv 1) (MOp.ibox (Qn 0))),
(Qa (Qv 2) (MOp.alloc [D.nilI]))]
def f17_c0 : MC := .reg false f17_r0
def f17_r1 : List MO := [
(Qa (Qv 6) (Qg 1 (Qn 1))),
(Qa (Qv 7) (Qf 1 false (Qn 6))),
(Qa (Qv 8) (Qk Qt (Qn 7))),
(Qa (Qv 9) (Qe Qt Go.BinOp.gtr (Qn 8) (Qo (Qp (Qq (Qr Qu 200)))))),
(Qa (Qv 5) (Qd (Qn 9)))]
def f17_c1 : MC := .reg false f17_r1
def f17_r2 : List MO := [
(Qa (Qv 10) (MOp.build [(Qr Qu 0), (Qr Qu 0)] [(0, (1, (Qo (Qp (Qq (Qr Qu 0)))))), (1, (1, (Qo (Qp (Qq (Qr Qu 71))))))])),
(Qa (Qv 11) (MOp.mkI 68 (Qn 10))),
(Qa none (Ql 1 (Qn 2) (Qn 11)))]
def f17_c2 : MC := .reg false f17_r2
def f17_c3 : MC := MC.ret
def f17_c4 : MC := .seq f17_c2 f17_c3
def f17_r5 : List MO := [
(Qa (Qv 13) (Qf 2 true (Qn 1))),
(Qa (Qv 14) (Qg 0 (Qn 1))),
(Qa (Qv 15) (Qf 1 false (Qn 14))),
(Qa (Qv 16) (Qh 30 [(Qn 13), (Qn 15)])),
(Qa (Qv 17) (MOp.not (Qn 16))),
(Qa (Qv 12) (Qd (Qn 17)))]
def f17_c5 : MC := .reg false f17_r5
def f17_r6 : List MO := [
(Qa (Qv 18) (MOp.build [(Qr Qu 0), (Qr Qu 0)] [(0, (1, (Qo (Qp (Qq (Qr Qu (-1))))))), (1, (1, (Qo (Qp (Qq (Qr Qu 70))))))])),
(Qa (Qv 19) (MOp.mkI 68 (Qn 18))),
(Qa none (Ql 1 (Qn 2) (Qn 19)))]
def f17_c6 : MC := .reg false f17_r6
def f17_c7 : MC := MC.ret
def f17_c8 : MC := .seq f17_c6 f17_c7
def f17_c9 : MC := MC.skip
def f17_c10 : MC := .cond (Qn 12) f17_c8 f17_c9
def f17_c11 : MC := .seq f17_c5 f17_c10
def f17_c12 : MC := .cond (Qn 5) f17_c4 f17_c11
def f17_c13 : MC := .seq f17_c1 f17_c12
def f17_c14 : MC := .blk 0 f17_c13
def f17_r15 : List MO := [
(Qa (Qv 20) (Qf 2 true (Qn 1))),
(Qa (Qv 21) (Qh 31 [(Qn 20)]))]
def f17_c15 : MC := .reg false f17_r15
def f17_r16 : List MO := [
(Qa (Qv 3) (Qd (Qn 22)))]
def f17_c16 : MC := .reg false f17_r16
def f17_r17 : List MO := [
(Qa (Qv 4) (MOp.alloc [(Qr Qu 0), (Qr Qu 0), (Qr Qu 0), (D.str (ByteArray.mk #[])), (D.sl []), (D.sl []), (Qr Qu 0)])),
(Qa none (Ql 7 (Qn 4) (Qn 23)))]
def f17_c17 : MC := .reg false f17_r17
def f17_c18 : MC := .seq f17_c16 f17_c17
def f17_r19 : List MO := [
(Qa (Qv 24) (Qf 7 true (Qn 4))),
(Qa (Qv 25) (Qh 32 [(Qn 24)])),
(Qa (Qv 26) (MOp.not (Qn 25)))]
def f17_c19 : MC := .reg false f17_r19
def f17_r20 : List MO := [
(Qa (Qv 27) (Qd (Qn 3))),
(Qa (Qv 28) (MOp.build [(Qr Qu 0), (Qr Qu 0)] [(0, (1, (Qn 27))), (1, (1, (Qo (Qp (Qq (Qr Qu 70))))))])),
(Qa (Qv 29) (MOp.mkI 68 (Qn 28))),
(Qa none (Ql 1 (Qn 2) (Qn 29)))]
def f17_c20 : MC := .reg false f17_r20
def f17_c21 : MC := MC.ret
def f17_c22 : MC := .seq f17_c20 f17_c21
def f17_c23 : MC := MC.skip
def f17_c24 : MC := .cond (Qn 26) f17_c22 f17_c23
def f17_c25 : MC := .seq f17_c19 f17_c24
def f17_c26 : MC := .blk 2 f17_c25
def f17_c27 : MC := .rf (Qn 21) [22, 23] f17_c18 f17_c26
def f17_c28 : MC := .blk 1 f17_c27
def f17_c29 : MC := .seq f17_c15 f17_c28
def f17_r30 : List MO := [
(Qa none (Ql 1 (Qn 2) (Qo (Qp (Qq D.nilI)))))]
def f17_c30 : MC := .reg false f17_r30
def f17_c31 : MC := MC.ret
def f17_c32 : MC := .seq f17_c30 f17_c31
def f17_c33 : MC := .seq f17_c29 f17_c32
def f17_c34 : MC := .seq f17_c14 f17_c33
def f17_c35 : MC := .seq f17_c0 f17_c34
noncomputable def f17_code : Code := (Go.Proofs.Tryd.f17.body).getD .skip
theorem f17_body : Go.Proofs.Tryd.f17.body = Qv f17_code := by kernel_rfl
theorem f17_tr : trC Go.Proofs.Tryd.prog [1] f17_code = Qv f17_c35 := by kernel_rfl
theorem f17_rs : rsOf Go.Proofs.Tryd.prog Go.Proofs.Tryd.f17.results.toList = Qv [(RV.cell 2 1 false)] := by kernel_rfl
theorem f17_nt : Go.Proofs.Tryd.f17.ntmps = 30 := by kernel_rfl
theorem f17_ok : callable Go.Proofs.Tryd.prog 17 = true := by kernel_rfl
theorem f17_in {gp : Heap} {args : List V} {res : V} (h : G ⟨Go.Proofs.Tryd.prog, gp, 0, [(RV.cell 2 1 false)], fun r c => r = res ∧ c = [], false⟩ [.code f17_c35, .fin] ⟨args ++ List.replicate (30 - args.length) .un, []⟩) : Does Go.Proofs.Tryd.prog gp 17 args res :=
  does_intro f17_ok Go.Proofs.Tryd.func17 f17_body f17_tr f17_rs (by rw [f17_nt]; exact h)
theorem f17_tri {gp : Heap} {args : List V} {pre : List Ch} {R : V → List Ch → Prop} (h : G ⟨Go.Proofs.Tryd.prog, gp, pre.length, [(RV.cell 2 1 false)], R, false⟩ [.code f17_c35, .fin] ⟨args ++ List.replicate (30 - args.length) .un, pre⟩) : Tri Go.Proofs.Tryd.prog gp 17 args pre R :=
  tri_intro Go.Proofs.Tryd.func17 f17_body f17_tr f17_rs (by rw [f17_nt]; exact h)
def f18_r0 : List MO := [
(Qa (Qv 2) (MOp.ibox (Qn 0))),
(Qa (Qv 4) (MOp.alloc [(Qr Qu 0), (Qr Qu 0), (Qr Qu 0), (D.str (ByteArray.mk #[])), (D.sl []), (D.sl []), (Qr Qu 0)])),
(Qa (Qv 5) (Qd (Qo (Qp (Qq (Qr Qu 0))))))]
def f18_c0 : MC := .reg false f18_r0
def f18_r1 : List MO := [
(Qa (Qv 6) (Qf 2 true (Qn 2))),
(Qa (Qv 7) (Qd (Qn 1))),
(Qa (Qv 8) (Qh 30 [(Qn 6), (Qn 7)])),
(Qa (Qv 9) (MOp.not (Qn 8)))]
def f18_c1 : MC := .reg false f18_r1
def f18_r2 : List MO := [
(Qa (Qv 10) (MOp.build [(Qr Qu 0), (Qr Qu 0), (Qr Qu 0), (D.str (ByteArray.mk #[])), (D.sl []), (D.sl []), (Qr Qu 0)] [])),
(Qa none (Ql 7 (Qn 4) (Qn 10))),
(Qa (Qv 5) (Qd (Qo (Qp (Qq (Qr Qu 2))))))]
def f18_c2 : MC := .reg false f18_r2
def f18_c3 : MC := MC.ret
def f18_c4 : MC := .seq f18_c2 f18_c3
def f18_c5 : MC := MC.skip
def f18_c6 : MC := .cond (Qn 9) f18_c4 f18_c5
def f18_c7 : MC := .seq f18_c1 f18_c6
def f18_r8 : List MO := [
(Qa (Qv 11) (Qg 1 (Qn 2))),
(Qa (Qv 12) (Qf 1 false (Qn 11))),
(Qa (Qv 13) (Qd (Qn 1))),
(Qa (Qv 14) (Qj 6 (Qn 12) (Qn 13))),
(Qa (Qv 15) (Qf 6 true (Qn 14))),
(Qa (Qv 16) (Qg 1 (Qn 2))),
(Qa (Qv 17) (Qf 1 false (Qn 16))),
(Qa (Qv 18) (Qk Qt (Qn 17))),
(Qa (Qv 19) (MOp.build [(Qr Qu 0), (Qr Qu 0), (Qr Qu 0), (D.str (ByteArray.mk #[])), (D.sl []), (D.sl []), (Qr Qu 0)] [(0, (6, (Qn 15))), (6, (1, (Qn 18)))])),
(Qa none (Ql 7 (Qn 4) (Qn 19))),
(Qa (Qv 5) (Qd (Qo (Qp (Qq (Qr Qu 0))))))]
def f18_c8 : MC := .reg true f18_r8
def f18_c9 : MC := MC.ret
def f18_c10 : MC := .seq f18_c8 f18_c9
def f18_c11 : MC := .seq f18_c7 f18_c10
def f18_c12 : MC := .seq f18_c0 f18_c11
noncomputable def f18_code : Code := (Go.Proofs.Tryd.f18.body).getD .skip
theorem f18_body : Go.Proofs.Tryd.f18.body = Qv f18_code := by kernel_rfl
theorem f18_tr : trC Go.Proofs.Tryd.prog [2] f18_code = Qv f18_c12 := by kernel_rfl
theorem f18_rs : rsOf Go.Proofs.Tryd.prog Go.Proofs.Tryd.f18.results.toList = Qv [(RV.cell 4 7 true), (RV.t 5)] := by kernel_rfl
theorem f18_nt : Go.Proofs.Tryd.f18.ntmps = 20 := by kernel_rfl
theorem f18_ok : callable Go.Proofs.Tryd.prog 18 = true := by kernel_rfl
theorem f18_in {gp : Heap} {args : List V} {res : V} (h : G ⟨Go.Proofs.Tryd.prog, gp, 0, [(RV.cell 4 7 true), (RV.t 5)], fun r c => r = res ∧ c = [], false⟩ [.code f18_c12, .fin] ⟨args ++ List.replicate (20 - args.length) .un, []⟩) : Does Go.Proofs.Tryd.prog gp 18 args res :=
  does_intro f18_ok Go.Proofs.Tryd.func18 f18_body f18_tr f18_rs (by rw [f18_nt]; exact h)
theorem f18_tri {gp : Heap} {args : List V} {pre : List Ch} {R : V → List Ch → Prop} (h : G ⟨Go.Proofs.Tryd.prog, gp, pre.length, [(RV.cell 4 7 true), (RV.t 5)], R, false⟩ [.code f18_c12, .fin] ⟨args ++ List.replicate (20 - args.length) .un, pre⟩) : Tri Go.Proofs.Tryd.prog gp 18 args pre R :=
  tri_intro Go.Proofs.Tryd.func18 f18_body f18_tr f18_rs (by rw [f18_nt]; exact h)
def f19_r0 : List MO := [
(Qa (Qv 2) (Qd (Qo (Qp A.nil))))]
def f19_c0 : MC := .reg false f19_r0
def f19_r1 : List MO := [
(Qa (Qv 3) (Qd (Qn 0))),
(Qa (Qv 4) (MOp.nilq NK.sl false (Qn 3)))]
def f19_c1 : MC := .reg false f19_r1
def f19_r2 : List MO := [
(Qa (Qv 2) (Qd (Qo (Qp A.nil))))]
def f19_c2 : MC := .reg false f19_r2
def f19_c3 : MC := MC.ret
def f19_c4 : MC := .seq f19_c2 f19_c3
def f19_c5 : MC := MC.skip
def f19_c6 : MC := .cond (Qn 4) f19_c4 f19_c5
def f19_c7 : MC := .seq f19_c1 f19_c6
def f19_r8 : List MO := [
(Qa (Qv 5) (MOp.bslO 1 [(Qr Qu 0)] 0 [])),
(Qa (Qv 6) (Qd (Qn 0))),
(Qa (Qv 7) (MOp.app 1 8 (Qn 5) (Qn 6))),
(Qa (Qv 2) (Qd (Qn 7)))]
def f19_c8 : MC := .reg false f19_r8
def f19_c9 : MC := MC.ret
def f19_c10 : MC := .seq f19_c8 f19_c9
def f19_c11 : MC := .seq f19_c7 f19_c10
def f19_c12 : MC := .seq f19_c0 f19_c11
noncomputable def f19_code : Code := (Go.Proofs.Tryd.f19.body).getD .skip
theorem f19_body : Go.Proofs.Tryd.f19.body = Qv f19_code := by kernel_rfl
theorem f19_tr : trC Go.Proofs.Tryd.prog [5] f19_code = Qv f19_c12 := by kernel_rfl
theorem f19_rs : rsOf Go.Proofs.Tryd.prog Go.Proofs.Tryd.f19.results.toList = Qv [(RV.t 2)] := by kernel_rfl
theorem f19_nt : Go.Proofs.Tryd.f19.ntmps = 8 := by kernel_rfl
theorem f19_ok : callable Go.Proofs.Tryd.prog 19 = true := by kernel_rfl
theorem f19_in {gp : Heap} {args : List V} {res : V} (h : G ⟨Go.Proofs.Tryd.prog, gp, 0, [(RV.t 2)], fun r c => r = res ∧ c = [], false⟩ [.code f19_c12, .fin] ⟨args ++ List.replicate (8 - args.length) .un, []⟩) : Does Go.Proofs.Tryd.prog gp 19 args res :=
  does_intro f19_ok Go.Proofs.Tryd.func19 f19_body f19_tr f19_rs (by rw [f19_nt]; exact h)
theorem f19_tri {gp : Heap} {args : List V} {pre : List Ch} {R : V → List Ch → Prop} (h : G ⟨Go.Proofs.Tryd.prog, gp, pre.length, [(RV.t 2)], R, false⟩ [.code f19_c12, .fin] ⟨args ++ List.replicate (8 - args.length) .un, pre⟩) : Tri Go.Proofs.Tryd.prog gp 19 args pre R :=
  tri_intro Go.Proofs.Tryd.func19 f19_body f19_tr f19_rs (by rw [f19_nt]; exact h)
def f20_r0 : List MO := [
(Qa (Qv 1) (MOp.ibox (Qn 0))),
(Qa (Qv 2) (Qd (Qo (Qp A.nil))))]
def f20_c0 : MC := .reg false f20_r0
def f20_r1 : List MO := [
(Qa (Qv 6) (Qg 0 (Qn 1))),
(Qa (Qv 7) (Qg 0 (Qn 6))),
(Qa (Qv 8) (Qf 1 false (Qn 7))),
(Qa (Qv 9) (Qe Qt Go.BinOp.neq (Qn 8) (Qo (Qp (Qq (Qr Qu 2)))))),
(Qa (Qv 10) (Qd (Qn 9))),
(Qb 10 false (Qv 11)),
(Qa (Qv 11) (Qf 7 true (Qn 1))),
(Qb 10 false (Qv 12)),
(Qa (Qv 12) (Qh 33 [(Qn 11)])),
(Qb 10 false (Qv 13)),
(Qa (Qv 13) (MOp.not (Qn 12))),
(Qa (Qv 14) (Qm (Qn 10) (Qo (Qp (Qq (Qs true)))) (Qn 13)))]
def f20_c1 : MC := .reg false f20_r1
def f20_r2 : List MO := [
(Qa (Qv 2) (Qd (Qo (Qp A.nil))))]
def f20_c2 : MC := .reg false f20_r2
def f20_c3 : MC := MC.ret
def f20_c4 : MC := .seq f20_c2 f20_c3
def f20_c5 : MC := MC.skip
def f20_c6 : MC := .cond (Qn 14) f20_c4 f20_c5
def f20_c7 : MC := .seq f20_c1 f20_c6
def f20_r8 : List MO := [
(Qa (Qv 3) (Qd (Qo (Qp A.nil))))]
def f20_c8 : MC := .reg false f20_r8
def f20_r9 : List MO := [
(Qa (Qv 15) (Qg 0 (Qn 1))),
(Qa (Qv 16) (Qg 4 (Qn 15))),
(Qa (Qv 17) (Qf 1 false (Qn 16))),
(Qa (Qv 18) (Qk Qt (Qn 17))),
(Qa (Qv 19) (Qd (Qo (Qp (Qq (Qr Qu 0))))))]
def f20_c9 : MC := .reg false f20_r9
def f20_r10 : List MO := [
(Qa (Qv 20) (Qe Qt Go.BinOp.lss (Qn 19) (Qn 18)))]
def f20_c10 : MC := .reg false f20_r10
def f20_c11 : MC := MC.skip
def f20_c12 : MC := (MC.exit 0)
def f20_c13 : MC := .cond (Qn 20) f20_c11 f20_c12
def f20_r14 : List MO := [
(Qa (Qv 21) (Qd (Qn 19))),
(Qa (Qv 22) (Qj 3 (Qn 17) (Qn 19))),
(Qa (Qv 23) (Qf 3 true (Qn 22))),
(Qa (Qv 5) (MOp.alloc [(Qr Qu 0), (Qr Qu 0), (D.str (ByteArray.mk #[]))])),
(Qa (Qv 4) (Qd (Qn 21))),
(Qa none (Ql 3 (Qn 5) (Qn 23)))]
def f20_c14 : MC := .reg false f20_r14
def f20_r15 : List MO := [
(Qa (Qv 24) (Qd (Qn 3))),
(Qa (Qv 25) (Qf 3 true (Qn 5))),
(Qa (Qv 26) (Qg 0 (Qn 1))),
(Qa (Qv 27) (Qg 5 (Qn 26))),
(Qa (Qv 28) (Qf 1 false (Qn 27))),
(Qa (Qv 29) (Qd (Qn 4))),
(Qa (Qv 30) (Qj 1 (Qn 28) (Qn 29))),
(Qa (Qv 31) (Qf 1 false (Qn 30))),
(Qa (Qv 32) (MOp.build [(Qr Qu 0), (Qr Qu 0), (D.str (ByteArray.mk #[])), (Qr Qu 0)] [(0, (3, (Qn 25))), (3, (1, (Qn 31)))])),
(Qa (Qv 33) (MOp.bslice 4 [(Qr Qu 0), (Qr Qu 0), (D.str (ByteArray.mk #[])), (Qr Qu 0)] 1 [(0, (Qn 32))])),
(Qa (Qv 34) (MOp.app 4 40 (Qn 24) (Qn 33))),
(Qa (Qv 3) (Qd (Qn 34)))]
def f20_c15 : MC := .reg true f20_r15
def f20_c16 : MC := .seq f20_c14 f20_c15
def f20_c17 : MC := .blk 1 f20_c16
def f20_r18 : List MO := [
(Qa (Qv 35) (Qe Qt Go.BinOp.add (Qn 19) (Qo (Qp (Qq (Qr Qu 1)))))),
(Qa (Qv 19) (Qd (Qn 35)))]
def f20_c18 : MC := .reg false f20_r18
def f20_c19 : MC := .seq f20_c17 f20_c18
def f20_c20 : MC := .seq f20_c13 f20_c19
def f20_c21 : MC := .seq f20_c10 f20_c20
def f20_c22 : MC := .loop f20_c21
def f20_c23 : MC := .blk 0 f20_c22
def f20_c24 : MC := .seq f20_c9 f20_c23
def f20_r25 : List MO := [
(Qa (Qv 36) (Qd (Qn 3))),
(Qa (Qv 37) (Qh 34 [(Qn 36), (Qo (Qp (Qq (D.fn (Go.Fn.func 35) []))))]))]
def f20_c25 : MC := .reg false f20_r25
def f20_r26 : List MO := [
(Qa (Qv 38) (Qd (Qn 3))),
(Qa (Qv 2) (Qd (Qn 38)))]
def f20_c26 : MC := .reg false f20_r26
def f20_c27 : MC := MC.ret
def f20_c28 : MC := .seq f20_c26 f20_c27
def f20_c29 : MC := .seq f20_c25 f20_c28
def f20_c30 : MC := .seq f20_c24 f20_c29
def f20_c31 : MC := .seq f20_c8 f20_c30
def f20_c32 : MC := .seq f20_c7 f20_c31
def f20_c33 : MC := .seq f20_c0 f20_c32
noncomputable def f20_code : Code := (Go.Proofs.Tryd.f20.body).getD .skip
theorem f20_body : Go.Proofs.Tryd.f20.body = Qv f20_code := by kernel_rfl
theorem f20_tr : trC Go.Proofs.Tryd.prog [1] f20_code = Qv f20_c33 := by kernel_rfl
theorem f20_rs : rsOf Go.Proofs.Tryd.prog Go.Proofs.Tryd.f20.results.toList = Qv [(RV.t 2)] := by kernel_rfl
theorem f20_nt : Go.Proofs.Tryd.f20.ntmps = 39 := by kernel_rfl
theorem f20_ok : callable Go.Proofs.Tryd.prog 20 = true := by kernel_rfl
theorem f20_in {gp : Heap} {args : List V} {res : V} (h : G ⟨Go.Proofs.Tryd.prog, gp, 0, [(RV.t 2)], fun r c => r = res ∧ c = [], false⟩ [.code f20_c33, .fin] ⟨args ++ List.replicate (39 - args.length) .un, []⟩) : Does Go.Proofs.Tryd.prog gp 20 args res :=
  does_intro f20_ok Go.Proofs.Tryd.func20 f20_body f20_tr f20_rs (by rw [f20_nt]; exact h)
theorem f20_tri {gp : Heap} {args : List V} {pre : List Ch} {R : V → List Ch → Prop} (h : G ⟨Go.Proofs.Tryd.prog, gp, pre.length, [(RV.t 2)], R, false⟩ [.code f20_c33, .fin] ⟨args ++ List.replicate (39 - args.length) .un, pre⟩) : Tri Go.Proofs.Tryd.prog gp 20 args pre R :=
  tri_intro Go.Proofs.Tryd.func20 f20_body f20_tr f20_rs (by rw [f20_nt]; exact h)
def f21_r0 : List MO := [
(Qa (Qv 2) (Qd (Qo (Qp (Qq (Qr Qu 0))))))]
def f21_c0 : MC := .reg false f21_r0
def f21_r1 : List MO := [
(Qa (Qv 3) (Qd (Qo (Qp (Qq (Qr Qu 0))))))]
def f21_c1 : MC := .reg false f21_r1
def f21_r2 : List MO := [
(Qa (Qv 6) (Qd (Qn 0))),
(Qa (Qv 7) (Qk Qt (Qn 6))),
(Qa (Qv 8) (Qd (Qo (Qp (Qq (Qr Qu 0))))))]
def f21_c2 : MC := .reg false f21_r2
def f21_r3 : List MO := [
(Qa (Qv 9) (Qe Qt Go.BinOp.lss (Qn 8) (Qn 7)))]
def f21_c3 : MC := .reg false f21_r3
def f21_c4 : MC := MC.skip
def f21_c5 : MC := (MC.exit 0)
def f21_c6 : MC := .cond (Qn 9) f21_c4 f21_c5
def f21_r7 : List MO := [
(Qa (Qv 10) (Qj 1 (Qn 6) (Qn 8))),
(Qa (Qv 11) (Qf 1 false (Qn 10))),
(Qa (Qv 5) (Qd (Qn 11)))]
def f21_c7 : MC := .reg false f21_r7
def f21_r8 : List MO := [
(Qa (Qv 12) (Qd (Qn 5))),
(Qa (Qv 13) (Qd (Qn 3))),
(Qa (Qv 14) (Qe Qt Go.BinOp.neq (Qn 12) (Qn 13)))]
def f21_c8 : MC := .reg false f21_r8
def f21_r9 : List MO := [
(Qa (Qv 15) (Qd (Qn 5))),
(Qa (Qv 2) (Qd (Qn 15)))]
def f21_c9 : MC := .reg false f21_r9
def f21_c10 : MC := MC.ret
def f21_c11 : MC := .seq f21_c9 f21_c10
def f21_c12 : MC := MC.skip
def f21_c13 : MC := .cond (Qn 14) f21_c11 f21_c12
def f21_c14 : MC := .seq f21_c8 f21_c13
def f21_c15 : MC := .seq f21_c7 f21_c14
def f21_c16 : MC := .blk 1 f21_c15
def f21_r17 : List MO := [
(Qa (Qv 16) (Qe Qt Go.BinOp.add (Qn 8) (Qo (Qp (Qq (Qr Qu 1)))))),
(Qa (Qv 8) (Qd (Qn 16)))]
def f21_c17 : MC := .reg false f21_r17
def f21_c18 : MC := .seq f21_c16 f21_c17
def f21_c19 : MC := .seq f21_c6 f21_c18
def f21_c20 : MC := .seq f21_c3 f21_c19
def f21_c21 : MC := .loop f21_c20
def f21_c22 : MC := .blk 0 f21_c21
def f21_c23 : MC := .seq f21_c2 f21_c22
def f21_r24 : List MO := [
(Qa (Qv 17) (Qd (Qn 3))),
(Qa (Qv 2) (Qd (Qn 17)))]
def f21_c24 : MC := .reg false f21_r24
def f21_c25 : MC := MC.ret
def f21_c26 : MC := .seq f21_c24 f21_c25
def f21_c27 : MC := .seq f21_c23 f21_c26
def f21_c28 : MC := .seq f21_c1 f21_c27
def f21_c29 : MC := .seq f21_c0 f21_c28
noncomputable def f21_code : Code := (Go.Proofs.Tryd.f21.body).getD .skip
theorem f21_body : Go.Proofs.Tryd.f21.body = Qv f21_code := by kernel_rfl
theorem f21_tr : trC Go.Proofs.Tryd.prog [] f21_code = Qv f21_c29 := by kernel_rfl
theorem f21_rs : rsOf Go.Proofs.Tryd.prog Go.Proofs.Tryd.f21.results.toList = Qv [(RV.t 2)] := by kernel_rfl
theorem f21_nt : Go.Proofs.Tryd.f21.ntmps = 18 := by kernel_rfl
theorem f21_ok : callable Go.Proofs.Tryd.prog 21 = true := by kernel_rfl
theorem f21_in {gp : Heap} {args : List V} {res : V} (h : G ⟨Go.Proofs.Tryd.prog, gp, 0, [(RV.t 2)], fun r c => r = res ∧ c = [], false⟩ [.code f21_c29, .fin] ⟨args ++ List.replicate (18 - args.length) .un, []⟩) : Does Go.Proofs.Tryd.prog gp 21 args res :=
  does_intro f21_ok Go.Proofs.Tryd.func21 f21_body f21_tr f21_rs (by rw [f21_nt]; exact h)
theorem f21_tri {gp : Heap} {args : List V} {pre : List Ch} {R : V → List Ch → Prop} (h : G ⟨Go.Proofs.Tryd.prog, gp, pre.length, [(RV.t 2)], R, false⟩ [.code f21_c29, .fin] ⟨args ++ List.replicate (18 - args.length) .un, pre⟩) : Tri Go.Proofs.Tryd.prog gp 21 args pre R :=
  tri_intro Go.Proofs.Tryd.func21 f21_body f21_tr f21_rs (by rw [f21_nt]; exact h)
def f22_r0 : List MO := [
(Qa (Qv 4) (Qd (Qo (Qp (Qq (Qr Qu 0))))))]
def f22_c0 : MC := .reg false f22_r0
def f22_r1 : List MO := [
(Qa (Qv 7) (Qd (Qn 0))),
(Qa (Qv 8) (Qh 36 [(Qn 7)])),
(Qa (Qv 5) (Qd (Qn 8)))]
def f22_c1 : MC := .reg false f22_r1
def f22_r2 : List MO := [
(Qa (Qv 9) (Qd (Qn 1))),
(Qa (Qv 10) (Qh 36 [(Qn 9)])),
(Qa (Qv 6) (Qd (Qn 10)))]
def f22_c2 : MC := .reg false f22_r2
def f22_r3 : List MO := [
(Qa (Qv 11) (Qd (Qn 5)))]
def f22_c3 : MC := .reg false f22_r3
def f22_r4 : List MO := [
(Qa (Qv 12) (Qd (Qn 6)))]
def f22_c4 : MC := .reg false f22_r4
def f22_r5 : List MO := [
(Qa (Qv 4) (Qd (Qo (Qp (Qq (Qr Qu 0))))))]
def f22_c5 : MC := .reg false f22_r5
def f22_c6 : MC := MC.ret
def f22_c7 : MC := .seq f22_c5 f22_c6
def f22_c8 : MC := MC.skip
def f22_c9 : MC := .cond (Qn 12) f22_c7 f22_c8
def f22_c10 : MC := .seq f22_c4 f22_c9
def f22_r11 : List MO := [
(Qa (Qv 4) (Qd (Qo (Qp (Qq (Qr Qu (-1)))))))]
def f22_c11 : MC := .reg false f22_r11
def f22_c12 : MC := MC.ret
def f22_c13 : MC := .seq f22_c11 f22_c12
def f22_c14 : MC := .seq f22_c10 f22_c13
def f22_c15 : MC := MC.skip
def f22_c16 : MC := .cond (Qn 11) f22_c14 f22_c15
def f22_c17 : MC := .seq f22_c3 f22_c16
def f22_r18 : List MO := [
(Qa (Qv 13) (Qd (Qn 6)))]
def f22_c18 : MC := .reg false f22_r18
def f22_r19 : List MO := [
(Qa (Qv 4) (Qd (Qo (Qp (Qq (Qr Qu 1))))))]
def f22_c19 : MC := .reg false f22_r19
def f22_c20 : MC := MC.ret
def f22_c21 : MC := .seq f22_c19 f22_c20
def f22_c22 : MC := MC.skip
def f22_c23 : MC := .cond (Qn 13) f22_c21 f22_c22
def f22_c24 : MC := .seq f22_c18 f22_c23
def f22_r25 : List MO := [
(Qa (Qv 14) (Qd (Qn 0))),
(Qa (Qv 15) (Qd (Qn 1))),
(Qa (Qv 16) (Qe Qt Go.BinOp.lss (Qn 14) (Qn 15)))]
def f22_c25 : MC := .reg false f22_r25
def f22_r26 : List MO := [
(Qa (Qv 4) (Qd (Qo (Qp (Qq (Qr Qu (-1)))))))]
def f22_c26 : MC := .reg false f22_r26
def f22_c27 : MC := MC.ret
def f22_c28 : MC := .seq f22_c26 f22_c27
def f22_c29 : MC := MC.skip
def f22_c30 : MC := .cond (Qn 16) f22_c28 f22_c29
def f22_c31 : MC := .seq f22_c25 f22_c30
def f22_r32 : List MO := [
(Qa (Qv 17) (Qd (Qn 0))),
(Qa (Qv 18) (Qd (Qn 1))),
(Qa (Qv 19) (Qe Qt Go.BinOp.gtr (Qn 17) (Qn 18)))]
def f22_c32 : MC := .reg false f22_r32
def f22_r33 : List MO := [
(Qa (Qv 4) (Qd (Qo (Qp (Qq (Qr Qu 1))))))]
def f22_c33 : MC := .reg false f22_r33
def f22_c34 : MC := MC.ret
def f22_c35 : MC := .seq f22_c33 f22_c34
def f22_c36 : MC := MC.skip
def f22_c37 : MC := .cond (Qn 19) f22_c35 f22_c36
def f22_c38 : MC := .seq f22_c32 f22_c37
def f22_r39 : List MO := [
(Qa (Qv 4) (Qd (Qo (Qp (Qq (Qr Qu 0))))))]
def f22_c39 : MC := .reg false f22_r39
def f22_c40 : MC := MC.ret
def f22_c41 : MC := .seq f22_c39 f22_c40
def f22_c42 : MC := .seq f22_c38 f22_c41
def f22_c43 : MC := .seq f22_c31 f22_c42
def f22_c44 : MC := .seq f22_c24 f22_c43
def f22_c45 : MC := .seq f22_c17 f22_c44
def f22_c46 : MC := .seq f22_c2 f22_c45
def f22_c47 : MC := .seq f22_c1 f22_c46
def f22_c48 : MC := .seq f22_c0 f22_c47
noncomputable def f22_code : Code := (Go.Proofs.Tryd.f22.body).getD .skip
theorem f22_body : Go.Proofs.Tryd.f22.body = Qv f22_code := by kernel_rfl
theorem f22_tr : trC Go.Proofs.Tryd.prog [] f22_code = Qv f22_c48 := by kernel_rfl
theorem f22_rs : rsOf Go.Proofs.Tryd.prog Go.Proofs.Tryd.f22.results.toList = Qv [(RV.t 4)] := by kernel_rfl
theorem f22_nt : Go.Proofs.Tryd.f22.ntmps = 20 := by kernel_rfl
theorem f22_ok : callable Go.Proofs.Tryd.prog 22 = true := by kernel_rfl
theorem f22_in {gp : Heap} {args : List V} {res : V} (h : G ⟨Go.Proofs.Tryd.prog, gp, 0, [(RV.t 4)], fun r c => r = res ∧ c = [], false⟩ [.code f22_c48, .fin] ⟨args ++ List.replicate (20 - args.length) .un, []⟩) : Does Go.Proofs.Tryd.prog gp 22 args res :=
  does_intro f22_ok Go.Proofs.Tryd.func22 f22_body f22_tr f22_rs (by rw [f22_nt]; exact h)
theorem f22_tri {gp : Heap} {args : List V} {pre : List Ch} {R : V → List Ch → Prop} (h : G ⟨Go.Proofs.Tryd.prog, gp, pre.length, [(RV.t 4)], R, false⟩ [.code f22_c48, .fin] ⟨args ++ List.replicate (20 - args.length) .un, pre⟩) : Tri Go.Proofs.Tryd.prog gp 22 args pre R :=
  tri_intro Go.Proofs.Tryd.func22 f22_body f22_tr f22_rs (by rw [f22_nt]; exact h)
def f23_r0 : List MO := [
(Qa (Qv 4) (Qd (Qo (Qp (Qq (Qr Qu 0))))))]
def f23_c0 : MC := .reg false f23_r0
def f23_r1 : List MO := [
(Qa (Qv 7) (Qd (Qn 0))),
(Qa (Qv 8) (Qh 37 [(Qn 7)])),
(Qa (Qv 5) (Qd (Qn 8)))]
def f23_c1 : MC := .reg false f23_r1
def f23_r2 : List MO := [
(Qa (Qv 9) (Qd (Qn 1))),
(Qa (Qv 10) (Qh 37 [(Qn 9)])),
(Qa (Qv 6) (Qd (Qn 10)))]
def f23_c2 : MC := .reg false f23_r2
def f23_r3 : List MO := [
(Qa (Qv 11) (Qd (Qn 5)))]
def f23_c3 : MC := .reg false f23_r3
def f23_r4 : List MO := [
(Qa (Qv 12) (Qd (Qn 6)))]
def f23_c4 : MC := .reg false f23_r4
def f23_r5 : List MO := [
(Qa (Qv 4) (Qd (Qo (Qp (Qq (Qr Qu 0))))))]
def f23_c5 : MC := .reg false f23_r5
def f23_c6 : MC := MC.ret
def f23_c7 : MC := .seq f23_c5 f23_c6
def f23_c8 : MC := MC.skip
def f23_c9 : MC := .cond (Qn 12) f23_c7 f23_c8
def f23_c10 : MC := .seq f23_c4 f23_c9
def f23_r11 : List MO := [
(Qa (Qv 4) (Qd (Qo (Qp (Qq (Qr Qu (-1)))))))]
def f23_c11 : MC := .reg false f23_r11
def f23_c12 : MC := MC.ret
def f23_c13 : MC := .seq f23_c11 f23_c12
def f23_c14 : MC := .seq f23_c10 f23_c13
def f23_c15 : MC := MC.skip
def f23_c16 : MC := .cond (Qn 11) f23_c14 f23_c15
def f23_c17 : MC := .seq f23_c3 f23_c16
def f23_r18 : List MO := [
(Qa (Qv 13) (Qd (Qn 6)))]
def f23_c18 : MC := .reg false f23_r18
def f23_r19 : List MO := [
(Qa (Qv 4) (Qd (Qo (Qp (Qq (Qr Qu 1))))))]
def f23_c19 : MC := .reg false f23_r19
def f23_c20 : MC := MC.ret
def f23_c21 : MC := .seq f23_c19 f23_c20
def f23_c22 : MC := MC.skip
def f23_c23 : MC := .cond (Qn 13) f23_c21 f23_c22
def f23_c24 : MC := .seq f23_c18 f23_c23
def f23_r25 : List MO := [
(Qa (Qv 14) (Qd (Qn 0))),
(Qa (Qv 15) (Qd (Qn 1))),
(Qa (Qv 16) (Qe Leaf.s Go.BinOp.lss (Qn 14) (Qn 15)))]
def f23_c25 : MC := .reg false f23_r25
def f23_r26 : List MO := [
(Qa (Qv 4) (Qd (Qo (Qp (Qq (Qr Qu (-1)))))))]
def f23_c26 : MC := .reg false f23_r26
def f23_c27 : MC := MC.ret
def f23_c28 : MC := .seq f23_c26 f23_c27
def f23_c29 : MC := MC.skip
def f23_c30 : MC := .cond (Qn 16) f23_c28 f23_c29
def f23_c31 : MC := .seq f23_c25 f23_c30
def f23_r32 : List MO := [
(Qa (Qv 17) (Qd (Qn 0))),
(Qa (Qv 18) (Qd (Qn 1))),
(Qa (Qv 19) (Qe Leaf.s Go.BinOp.gtr (Qn 17) (Qn 18)))]
def f23_c32 : MC := .reg false f23_r32
def f23_r33 : List MO := [
(Qa (Qv 4) (Qd (Qo (Qp (Qq (Qr Qu 1))))))]
def f23_c33 : MC := .reg false f23_r33
def f23_c34 : MC := MC.ret
def f23_c35 : MC := .seq f23_c33 f23_c34
def f23_c36 : MC := MC.skip
def f23_c37 : MC := .cond (Qn 19) f23_c35 f23_c36
def f23_c38 : MC := .seq f23_c32 f23_c37
def f23_r39 : List MO := [
(Qa (Qv 4) (Qd (Qo (Qp (Qq (Qr Qu 0))))))]
def f23_c39 : MC := .reg false f23_r39
def f23_c40 : MC := MC.ret
def f23_c41 : MC := .seq f23_c39 f23_c40
def f23_c42 : MC := .seq f23_c38 f23_c41
def f23_c43 : MC := .seq f23_c31 f23_c42
def f23_c44 : MC := .seq f23_c24 f23_c43
def f23_c45 : MC := .seq f23_c17 f23_c44
def f23_c46 : MC := .seq f23_c2 f23_c45
def f23_c47 : MC := .seq f23_c1 f23_c46
def f23_c48 : MC := .seq f23_c0 f23_c47
noncomputable def f23_code : Code := (Go.Proofs.Tryd.f23.body).getD .skip
theorem f23_body : Go.Proofs.Tryd.f23.body = Qv f23_code := by kernel_rfl
theorem f23_tr : trC Go.Proofs.Tryd.prog [] f23_code = Qv f23_c48 := by kernel_rfl
theorem f23_rs : rsOf Go.Proofs.Tryd.prog Go.Proofs.Tryd.f23.results.toList = Qv [(RV.t 4)] := by kernel_rfl
theorem f23_nt : Go.Proofs.Tryd.f23.ntmps = 20 := by kernel_rfl
theorem f23_ok : callable Go.Proofs.Tryd.prog 23 = true := by kernel_rfl
theorem f23_in {gp : Heap} {args : List V} {res : V} (h : G ⟨Go.Proofs.Tryd.prog, gp, 0, [(RV.t 4)], fun r c => r = res ∧ c = [], false⟩ [.code f23_c48, .fin] ⟨args ++ List.replicate (20 - args.length) .un, []⟩) : Does Go.Proofs.Tryd.prog gp 23 args res :=
  does_intro f23_ok Go.Proofs.Tryd.func23 f23_body f23_tr f23_rs (by rw [f23_nt]; exact h)
theorem f23_tri {gp : Heap} {args : List V} {pre : List Ch} {R : V → List Ch → Prop} (h : G ⟨Go.Proofs.Tryd.prog, gp, pre.length, [(RV.t 4)], R, false⟩ [.code f23_c48, .fin] ⟨args ++ List.replicate (20 - args.length) .un, pre⟩) : Tri Go.Proofs.Tryd.prog gp 23 args pre R :=
  tri_intro Go.Proofs.Tryd.func23 f23_body f23_tr f23_rs (by rw [f23_nt]; exact h)
def f24_r0 : List MO := [
(Qa (Qv 2) (MOp.ibox (Qn 0))),
(Qa (Qv 3) (MOp.ibox (Qn 1))),
(Qa (Qv 4) (Qd (Qo (Qp (Qq (Qs false))))))]
def f24_c0 : MC := .reg false f24_r0
def f24_r1 : List MO := [
(Qa (Qv 5) (Qg 0 (Qn 2))),
(Qa (Qv 6) (Qf 1 false (Qn 5))),
(Qa (Qv 7) (Qg 0 (Qn 3))),
(Qa (Qv 8) (Qf 1 false (Qn 7))),
(Qa (Qv 9) (Qe Qt Go.BinOp.eql (Qn 6) (Qn 8))),
(Qa (Qv 10) (Qd (Qn 9))),
(Qb 10 true (Qv 11)),
(Qa (Qv 11) (Qg 1 (Qn 2))),
(Qb 10 true (Qv 12)),
(Qa (Qv 12) (Qf 3 true (Qn 11))),
(Qb 10 true (Qv 13)),
(Qa (Qv 13) (Qg 1 (Qn 3))),
(Qb 10 true (Qv 14)),
(Qa (Qv 14) (Qf 3 true (Qn 13))),
(Qb 10 true (Qv 15)),
(Qa (Qv 15) (MOp.eqs false [Qt, Qt, Leaf.s] (Qn 12) (Qn 14))),
(Qa (Qv 16) (Qm (Qn 10) (Qn 15) (Qo (Qp (Qq (Qs false)))))),
(Qa (Qv 17) (Qd (Qn 16))),
(Qb 17 true (Qv 18)),
(Qa (Qv 18) (Qg 4 (Qn 2))),
(Qb 17 true (Qv 19)),
(Qa (Qv 19) (Qf 1 false (Qn 18))),
(Qb 17 true (Qv 20)),
(Qa (Qv 20) (Qg 4 (Qn 3))),
(Qb 17 true (Qv 21)),
(Qa (Qv 21) (Qf 1 false (Qn 20))),
(Qb 17 true (Qv 22)),
(Qa (Qv 22) (Qh 25 [(Qn 19), (Qn 21)])),
(Qa (Qv 23) (Qm (Qn 17) (Qn 22) (Qo (Qp (Qq (Qs false)))))),
(Qa (Qv 24) (Qd (Qn 23))),
(Qb 24 true (Qv 25)),
(Qa (Qv 25) (Qg 5 (Qn 2))),
(Qb 24 true (Qv 26)),
(Qa (Qv 26) (Qf 1 false (Qn 25))),
(Qb 24 true (Qv 27)),
(Qa (Qv 27) (Qg 5 (Qn 3))),
(Qb 24 true (Qv 28)),
(Qa (Qv 28) (Qf 1 false (Qn 27))),
(Qb 24 true (Qv 29)),
(Qa (Qv 29) (Qh 26 [(Qn 26), (Qn 28)])),
(Qa (Qv 30) (Qm (Qn 24) (Qn 29) (Qo (Qp (Qq (Qs false)))))),
(Qa (Qv 4) (Qd (Qn 30)))]
def f24_c1 : MC := .reg false f24_r1
def f24_c2 : MC := MC.ret
def f24_c3 : MC := .seq f24_c1 f24_c2
def f24_c4 : MC := .seq f24_c0 f24_c3
noncomputable def f24_code : Code := (Go.Proofs.Tryd.f24.body).getD .skip
theorem f24_body : Go.Proofs.Tryd.f24.body = Qv f24_code := by kernel_rfl
theorem f24_tr : trC Go.Proofs.Tryd.prog [2, 3] f24_code = Qv f24_c4 := by kernel_rfl
theorem f24_rs : rsOf Go.Proofs.Tryd.prog Go.Proofs.Tryd.f24.results.toList = Qv [(RV.t 4)] := by kernel_rfl
theorem f24_nt : Go.Proofs.Tryd.f24.ntmps = 31 := by kernel_rfl
theorem f24_ok : callable Go.Proofs.Tryd.prog 24 = true := by kernel_rfl
theorem f24_in {gp : Heap} {args : List V} {res : V} (h : G ⟨Go.Proofs.Tryd.prog, gp, 0, [(RV.t 4)], fun r c => r = res ∧ c = [], false⟩ [.code f24_c4, .fin] ⟨args ++ List.replicate (31 - args.length) .un, []⟩) : Does Go.Proofs.Tryd.prog gp 24 args res :=
  does_intro f24_ok Go.Proofs.Tryd.func24 f24_body f24_tr f24_rs (by rw [f24_nt]; exact h)
theorem f24_tri {gp : Heap} {args : List V} {pre : List Ch} {R : V → List Ch → Prop} (h : G ⟨Go.Proofs.Tryd.prog, gp, pre.length, [(RV.t 4)], R, false⟩ [.code f24_c4, .fin] ⟨args ++ List.replicate (31 - args.length) .un, pre⟩) : Tri Go.Proofs.Tryd.prog gp 24 args pre R :=
  tri_intro Go.Proofs.Tryd.func24 f24_body f24_tr f24_rs (by rw [f24_nt]; exact h)
def f25_r0 : List MO := [
(Qa (Qv 4) (Qd (Qo (Qp (Qq (Qs false))))))]
def f25_c0 : MC := .reg false f25_r0
def f25_r1 : List MO := [
(Qa (Qv 6) (Qd (Qn 0))),
(Qa (Qv 7) (Qk Qt (Qn 6))),
(Qa (Qv 8) (Qd (Qn 1))),
(Qa (Qv 9) (Qk Qt (Qn 8))),
(Qa (Qv 10) (Qe Qt Go.BinOp.neq (Qn 7) (Qn 9)))]
def f25_c1 : MC := .reg false f25_r1
def f25_r2 : List MO := [
(Qa (Qv 4) (Qd (Qo (Qp (Qq (Qs false))))))]
def f25_c2 : MC := .reg false f25_r2
def f25_c3 : MC := MC.ret
def f25_c4 : MC := .seq f25_c2 f25_c3
def f25_c5 : MC := MC.skip
def f25_c6 : MC := .cond (Qn 10) f25_c4 f25_c5
def f25_c7 : MC := .seq f25_c1 f25_c6
def f25_r8 : List MO := [
(Qa (Qv 11) (Qd (Qn 0))),
(Qa (Qv 12) (Qk Qt (Qn 11))),
(Qa (Qv 13) (Qd (Qo (Qp (Qq (Qr Qu 0))))))]
def f25_c8 : MC := .reg false f25_r8
def f25_r9 : List MO := [
(Qa (Qv 14) (Qe Qt Go.BinOp.lss (Qn 13) (Qn 12)))]
def f25_c9 : MC := .reg false f25_r9
def f25_c10 : MC := MC.skip
def f25_c11 : MC := (MC.exit 0)
def f25_c12 : MC := .cond (Qn 14) f25_c10 f25_c11
def f25_r13 : List MO := [
(Qa (Qv 15) (Qd (Qn 13))),
(Qa (Qv 5) (Qd (Qn 15)))]
def f25_c13 : MC := .reg false f25_r13
def f25_r14 : List MO := [
(Qa (Qv 16) (Qd (Qn 0))),
(Qa (Qv 17) (Qd (Qn 5))),
(Qa (Qv 18) (Qj 3 (Qn 16) (Qn 17))),
(Qa (Qv 19) (Qf 3 true (Qn 18))),
(Qa (Qv 20) (Qd (Qn 1))),
(Qa (Qv 21) (Qd (Qn 5))),
(Qa (Qv 22) (Qj 3 (Qn 20) (Qn 21))),
(Qa (Qv 23) (Qf 3 true (Qn 22))),
(Qa (Qv 24) (MOp.eqs true [Qt, Qt, Leaf.s] (Qn 19) (Qn 23)))]
def f25_c14 : MC := .reg true f25_r14
def f25_r15 : List MO := [
(Qa (Qv 4) (Qd (Qo (Qp (Qq (Qs false))))))]
def f25_c15 : MC := .reg false f25_r15
def f25_c16 : MC := MC.ret
def f25_c17 : MC := .seq f25_c15 f25_c16
def f25_c18 : MC := MC.skip
def f25_c19 : MC := .cond (Qn 24) f25_c17 f25_c18
def f25_c20 : MC := .seq f25_c14 f25_c19
def f25_c21 : MC := .seq f25_c13 f25_c20
def f25_c22 : MC := .blk 1 f25_c21
def f25_r23 : List MO := [
(Qa (Qv 25) (Qe Qt Go.BinOp.add (Qn 13) (Qo (Qp (Qq (Qr Qu 1)))))),
(Qa (Qv 13) (Qd (Qn 25)))]
def f25_c23 : MC := .reg false f25_r23
def f25_c24 : MC := .seq f25_c22 f25_c23
def f25_c25 : MC := .seq f25_c12 f25_c24
def f25_c26 : MC := .seq f25_c9 f25_c25
def f25_c27 : MC := .loop f25_c26
def f25_c28 : MC := .blk 0 f25_c27
def f25_c29 : MC := .seq f25_c8 f25_c28
def f25_r30 : List MO := [
(Qa (Qv 4) (Qd (Qo (Qp (Qq (Qs true))))))]
def f25_c30 : MC := .reg false f25_r30
def f25_c31 : MC := MC.ret
def f25_c32 : MC := .seq f25_c30 f25_c31
def f25_c33 : MC := .seq f25_c29 f25_c32
def f25_c34 : MC := .seq f25_c7 f25_c33
def f25_c35 : MC := .seq f25_c0 f25_c34
noncomputable def f25_code : Code := (Go.Proofs.Tryd.f25.body).getD .skip
theorem f25_body : Go.Proofs.Tryd.f25.body = Qv f25_code := by kernel_rfl
theorem f25_tr : trC Go.Proofs.Tryd.prog [] f25_code = Qv f25_c35 := by kernel_rfl
theorem f25_rs : rsOf Go.Proofs.Tryd.prog Go.Proofs.Tryd.f25.results.toList = Qv [(RV.t 4)] := by kernel_rfl
theorem f25_nt : Go.Proofs.Tryd.f25.ntmps = 26 := by kernel_rfl
theorem f25_ok : callable Go.Proofs.Tryd.prog 25 = true := by kernel_rfl
theorem f25_in {gp : Heap} {args : List V} {res : V} (h : G ⟨Go.Proofs.Tryd.prog, gp, 0, [(RV.t 4)], fun r c => r = res ∧ c = [], false⟩ [.code f25_c35, .fin] ⟨args ++ List.replicate (26 - args.length) .un, []⟩) : Does Go.Proofs.Tryd.prog gp 25 args res :=
  does_intro f25_ok Go.Proofs.Tryd.func25 f25_body f25_tr f25_rs (by rw [f25_nt]; exact h)
theorem f25_tri {gp : Heap} {args : List V} {pre : List Ch} {R : V → List Ch → Prop} (h : G ⟨Go.Proofs.Tryd.prog, gp, pre.length, [(RV.t 4)], R, false⟩ [.code f25_c35, .fin] ⟨args ++ List.replicate (26 - args.length) .un, pre⟩) : Tri Go.Proofs.Tryd.prog gp 25 args pre R :=
  tri_intro Go.Proofs.Tryd.func25 f25_body f25_tr f25_rs (by rw [f25_nt]; exact h)
def f26_r0 : List MO := [
(Qa (Qv 4) (Qd (Qo (Qp (Qq (Qs false))))))]
def f26_c0 : MC := .reg false f26_r0
def f26_r1 : List MO := [
(Qa (Qv 6) (Qd (Qn 0))),
(Qa (Qv 7) (Qk Qt (Qn 6))),
(Qa (Qv 8) (Qd (Qn 1))),
(Qa (Qv 9) (Qk Qt (Qn 8))),
(Qa (Qv 10) (Qe Qt Go.BinOp.neq (Qn 7) (Qn 9)))]
def f26_c1 : MC := .reg false f26_r1
def f26_r2 : List MO := [
(Qa (Qv 4) (Qd (Qo (Qp (Qq (Qs false))))))]
def f26_c2 : MC := .reg false f26_r2
def f26_c3 : MC := MC.ret
def f26_c4 : MC := .seq f26_c2 f26_c3
def f26_c5 : MC := MC.skip
def f26_c6 : MC := .cond (Qn 10) f26_c4 f26_c5
def f26_c7 : MC := .seq f26_c1 f26_c6
def f26_r8 : List MO := [
(Qa (Qv 11) (Qd (Qn 0))),
(Qa (Qv 12) (Qk Qt (Qn 11))),
(Qa (Qv 13) (Qd (Qo (Qp (Qq (Qr Qu 0))))))]
def f26_c8 : MC := .reg false f26_r8
def f26_r9 : List MO := [
(Qa (Qv 14) (Qe Qt Go.BinOp.lss (Qn 13) (Qn 12)))]
def f26_c9 : MC := .reg false f26_r9
def f26_c10 : MC := MC.skip
def f26_c11 : MC := (MC.exit 0)
def f26_c12 : MC := .cond (Qn 14) f26_c10 f26_c11
def f26_r13 : List MO := [
(Qa (Qv 15) (Qd (Qn 13))),
(Qa (Qv 5) (Qd (Qn 15)))]
def f26_c13 : MC := .reg false f26_r13
def f26_r14 : List MO := [
(Qa (Qv 16) (Qd (Qn 0))),
(Qa (Qv 17) (Qd (Qn 5))),
(Qa (Qv 18) (Qj 1 (Qn 16) (Qn 17))),
(Qa (Qv 19) (Qf 1 false (Qn 18))),
(Qa (Qv 20) (Qd (Qn 1))),
(Qa (Qv 21) (Qd (Qn 5))),
(Qa (Qv 22) (Qj 1 (Qn 20) (Qn 21))),
(Qa (Qv 23) (Qf 1 false (Qn 22))),
(Qa (Qv 24) (Qe Qt Go.BinOp.neq (Qn 19) (Qn 23)))]
def f26_c14 : MC := .reg true f26_r14
def f26_r15 : List MO := [
(Qa (Qv 4) (Qd (Qo (Qp (Qq (Qs false))))))]
def f26_c15 : MC := .reg false f26_r15
def f26_c16 : MC := MC.ret
def f26_c17 : MC := .seq f26_c15 f26_c16
def f26_c18 : MC := MC.skip
def f26_c19 : MC := .cond (Qn 24) f26_c17 f26_c18
def f26_c20 : MC := .seq f26_c14 f26_c19
def f26_c21 : MC := .seq f26_c13 f26_c20
def f26_c22 : MC := .blk 1 f26_c21
def f26_r23 : List MO := [
(Qa (Qv 25) (Qe Qt Go.BinOp.add (Qn 13) (Qo (Qp (Qq (Qr Qu 1)))))),
(Qa (Qv 13) (Qd (Qn 25)))]
def f26_c23 : MC := .reg false f26_r23
def f26_c24 : MC := .seq f26_c22 f26_c23
def f26_c25 : MC := .seq f26_c12 f26_c24
def f26_c26 : MC := .seq f26_c9 f26_c25
def f26_c27 : MC := .loop f26_c26
def f26_c28 : MC := .blk 0 f26_c27
def f26_c29 : MC := .seq f26_c8 f26_c28
def f26_r30 : List MO := [
(Qa (Qv 4) (Qd (Qo (Qp (Qq (Qs true))))))]
def f26_c30 : MC := .reg false f26_r30
def f26_c31 : MC := MC.ret
def f26_c32 : MC := .seq f26_c30 f26_c31
def f26_c33 : MC := .seq f26_c29 f26_c32
def f26_c34 : MC := .seq f26_c7 f26_c33
def f26_c35 : MC := .seq f26_c0 f26_c34
noncomputable def f26_code : Code := (Go.Proofs.Tryd.f26.body).getD .skip
theorem f26_body : Go.Proofs.Tryd.f26.body = Qv f26_code := by kernel_rfl
theorem f26_tr : trC Go.Proofs.Tryd.prog [] f26_code = Qv f26_c35 := by kernel_rfl
theorem f26_rs : rsOf Go.Proofs.Tryd.prog Go.Proofs.Tryd.f26.results.toList = Qv [(RV.t 4)] := by kernel_rfl
theorem f26_nt : Go.Proofs.Tryd.f26.ntmps = 26 := by kernel_rfl
theorem f26_ok : callable Go.Proofs.Tryd.prog 26 = true := by kernel_rfl
theorem f26_in {gp : Heap} {args : List V} {res : V} (h : G ⟨Go.Proofs.Tryd.prog, gp, 0, [(RV.t 4)], fun r c => r = res ∧ c = [], false⟩ [.code f26_c35, .fin] ⟨args ++ List.replicate (26 - args.length) .un, []⟩) : Does Go.Proofs.Tryd.prog gp 26 args res :=
  does_intro f26_ok Go.Proofs.Tryd.func26 f26_body f26_tr f26_rs (by rw [f26_nt]; exact h)
theorem f26_tri {gp : Heap} {args : List V} {pre : List Ch} {R : V → List Ch → Prop} (h : G ⟨Go.Proofs.Tryd.prog, gp, pre.length, [(RV.t 4)], R, false⟩ [.code f26_c35, .fin] ⟨args ++ List.replicate (26 - args.length) .un, pre⟩) : Tri Go.Proofs.Tryd.prog gp 26 args pre R :=
  tri_intro Go.Proofs.Tryd.func26 f26_body f26_tr f26_rs (by rw [f26_nt]; exact h)
def f27_r0 : List MO := [
(Qa (Qv 6) (Qd (Qo (Qp (Qq (Qs false))))))]
def f27_c0 : MC := .reg false f27_r0
def f27_r1 : List MO := [
(Qa (Qv 10) (Qd (Qn 0))),
(Qa (Qv 11) (Qk Qt (Qn 10))),
(Qa (Qv 12) (Qd (Qn 1))),
(Qa (Qv 13) (Qk Qt (Qn 12))),
(Qa (Qv 14) (Qe Qt Go.BinOp.neq (Qn 11) (Qn 13)))]
def f27_c1 : MC := .reg false f27_r1
def f27_r2 : List MO := [
(Qa (Qv 6) (Qd (Qo (Qp (Qq (Qs false))))))]
def f27_c2 : MC := .reg false f27_r2
def f27_c3 : MC := MC.ret
def f27_c4 : MC := .seq f27_c2 f27_c3
def f27_c5 : MC := MC.skip
def f27_c6 : MC := .cond (Qn 14) f27_c4 f27_c5
def f27_c7 : MC := .seq f27_c1 f27_c6
def f27_r8 : List MO := [
(Qa (Qv 15) (Qd (Qn 0))),
(Qa (Qv 16) (Qk Qt (Qn 15))),
(Qa (Qv 17) (Qd (Qo (Qp (Qq (Qr Qu 0))))))]
def f27_c8 : MC := .reg false f27_r8
def f27_r9 : List MO := [
(Qa (Qv 18) (Qe Qt Go.BinOp.lss (Qn 17) (Qn 16)))]
def f27_c9 : MC := .reg false f27_r9
def f27_c10 : MC := MC.skip
def f27_c11 : MC := (MC.exit 0)
def f27_c12 : MC := .cond (Qn 18) f27_c10 f27_c11
def f27_r13 : List MO := [
(Qa (Qv 19) (Qd (Qn 17))),
(Qa (Qv 20) (Qj 6 (Qn 15) (Qn 17))),
(Qa (Qv 21) (Qf 6 true (Qn 20))),
(Qa (Qv 8) (MOp.alloc [(Qr Qu 0), (Qr Qu 0), (Qr Qu 0), (D.str (ByteArray.mk #[])), (D.sl []), (D.sl [])])),
(Qa (Qv 7) (Qd (Qn 19))),
(Qa none (Ql 6 (Qn 8) (Qn 21)))]
def f27_c13 : MC := .reg false f27_r13
def f27_r14 : List MO := [
(Qa (Qv 22) (Qd (Qn 1))),
(Qa (Qv 23) (Qd (Qn 7))),
(Qa (Qv 24) (Qj 6 (Qn 22) (Qn 23))),
(Qa (Qv 25) (Qf 6 true (Qn 24))),
(Qa (Qv 9) (MOp.alloc [(Qr Qu 0), (Qr Qu 0), (Qr Qu 0), (D.str (ByteArray.mk #[])), (D.sl []), (D.sl [])])),
(Qa none (Ql 6 (Qn 9) (Qn 25)))]
def f27_c14 : MC := .reg false f27_r14
def f27_r15 : List MO := [
(Qa (Qv 26) (Qd (Qn 2))),
(Qa (Qv 27) (Qf 6 true (Qn 8))),
(Qa (Qv 28) (Qf 6 true (Qn 9))),
(Qa (Qv 29) (MOp.callv (Qn 26) [(Qn 27), (Qn 28)])),
(Qa (Qv 30) (MOp.not (Qn 29)))]
def f27_c15 : MC := .reg false f27_r15
def f27_r16 : List MO := [
(Qa (Qv 6) (Qd (Qo (Qp (Qq (Qs false))))))]
def f27_c16 : MC := .reg false f27_r16
def f27_c17 : MC := MC.ret
def f27_c18 : MC := .seq f27_c16 f27_c17
def f27_c19 : MC := MC.skip
def f27_c20 : MC := .cond (Qn 30) f27_c18 f27_c19
def f27_c21 : MC := .seq f27_c15 f27_c20
def f27_c22 : MC := .seq f27_c14 f27_c21
def f27_c23 : MC := .seq f27_c13 f27_c22
def f27_c24 : MC := .blk 1 f27_c23
def f27_r25 : List MO := [
(Qa (Qv 31) (Qe Qt Go.BinOp.add (Qn 17) (Qo (Qp (Qq (Qr Qu 1)))))),
(Qa (Qv 17) (Qd (Qn 31)))]
def f27_c25 : MC := .reg false f27_r25
def f27_c26 : MC := .seq f27_c24 f27_c25
def f27_c27 : MC := .seq f27_c12 f27_c26
def f27_c28 : MC := .seq f27_c9 f27_c27
def f27_c29 : MC := .loop f27_c28
def f27_c30 : MC := .blk 0 f27_c29
def f27_c31 : MC := .seq f27_c8 f27_c30
def f27_r32 : List MO := [
(Qa (Qv 6) (Qd (Qo (Qp (Qq (Qs true))))))]
def f27_c32 : MC := .reg false f27_r32
def f27_c33 : MC := MC.ret
def f27_c34 : MC := .seq f27_c32 f27_c33
def f27_c35 : MC := .seq f27_c31 f27_c34
def f27_c36 : MC := .seq f27_c7 f27_c35
def f27_c37 : MC := .seq f27_c0 f27_c36
noncomputable def f27_code : Code := (Go.Proofs.Tryd.f27.body).getD .skip
theorem f27_body : Go.Proofs.Tryd.f27.body = Qv f27_code := by kernel_rfl
theorem f27_tr : trC Go.Proofs.Tryd.prog [] f27_code = Qv f27_c37 := by kernel_rfl
theorem f27_rs : rsOf Go.Proofs.Tryd.prog Go.Proofs.Tryd.f27.results.toList = Qv [(RV.t 6)] := by kernel_rfl
theorem f27_nt : Go.Proofs.Tryd.f27.ntmps = 32 := by kernel_rfl
theorem f27_ok : callable Go.Proofs.Tryd.prog 27 = true := by kernel_rfl
theorem f27_in {gp : Heap} {args : List V} {res : V} (h : G ⟨Go.Proofs.Tryd.prog, gp, 0, [(RV.t 6)], fun r c => r = res ∧ c = [], false⟩ [.code f27_c37, .fin] ⟨args ++ List.replicate (32 - args.length) .un, []⟩) : Does Go.Proofs.Tryd.prog gp 27 args res :=
  does_intro f27_ok Go.Proofs.Tryd.func27 f27_body f27_tr f27_rs (by rw [f27_nt]; exact h)
theorem f27_tri {gp : Heap} {args : List V} {pre : List Ch} {R : V → List Ch → Prop} (h : G ⟨Go.Proofs.Tryd.prog, gp, pre.length, [(RV.t 6)], R, false⟩ [.code f27_c37, .fin] ⟨args ++ List.replicate (32 - args.length) .un, pre⟩) : Tri Go.Proofs.Tryd.prog gp 27 args pre R :=
  tri_intro Go.Proofs.Tryd.func27 f27_body f27_tr f27_rs (by rw [f27_nt]; exact h)
def f28_r0 : List MO := [
(Qa (Qv 2) (Qd (Qo (Qp (Qq (D.str (ByteArray.mk #[])))))))]
def f28_c0 : MC := .reg false f28_r0
def f28_r1 : List MO := [
(Qa (Qv 3) (Qd (Qn 0))),
(Qa (Qv 4) (Qd (Qn 0))),
(Qa (Qv 5) (Qk Leaf.s (Qn 4))),
(Qa (Qv 6) (MOp.min (Qn 5) (Qo (Qp (Qq (Qr Qu 100)))))),
(Qa (Qv 7) (MOp.slcS (Qn 3) none (Qv (Qn 6)))),
(Qa (Qv 2) (Qd (Qn 7)))]
def f28_c1 : MC := .reg false f28_r1
def f28_c2 : MC := MC.ret
def f28_c3 : MC := .seq f28_c1 f28_c2
def f28_c4 : MC := .seq f28_c0 f28_c3
noncomputable def f28_code : Code := (Go.Proofs.Tryd.f28.body).getD .skip
theorem f28_body : Go.Proofs.Tryd.f28.body = Qv f28_code := by kernel_rfl
theorem f28_tr : trC Go.Proofs.Tryd.prog [] f28_code = Qv f28_c4 := by kernel_rfl
theorem f28_rs : rsOf Go.Proofs.Tryd.prog Go.Proofs.Tryd.f28.results.toList = Qv [(RV.t 2)] := by kernel_rfl
theorem f28_nt : Go.Proofs.Tryd.f28.ntmps = 8 := by kernel_rfl
theorem f28_ok : callable Go.Proofs.Tryd.prog 28 = true := by kernel_rfl
theorem f28_in {gp : Heap} {args : List V} {res : V} (h : G ⟨Go.Proofs.Tryd.prog, gp, 0, [(RV.t 2)], fun r c => r = res ∧ c = [], false⟩ [.code f28_c4, .fin] ⟨args ++ List.replicate (8 - args.length) .un, []⟩) : Does Go.Proofs.Tryd.prog gp 28 args res :=
  does_intro f28_ok Go.Proofs.Tryd.func28 f28_body f28_tr f28_rs (by rw [f28_nt]; exact h)
theorem f28_tri {gp : Heap} {args : List V} {pre : List Ch} {R : V → List Ch → Prop} (h : G ⟨Go.Proofs.Tryd.prog, gp, pre.length, [(RV.t 2)], R, false⟩ [.code f28_c4, .fin] ⟨args ++ List.replicate (8 - args.length) .un, pre⟩) : Tri Go.Proofs.Tryd.prog gp 28 args pre R :=
  tri_intro Go.Proofs.Tryd.func28 f28_body f28_tr f28_rs (by rw [f28_nt]; exact h)
-- f29: trC none
def f30_r0 : List MO := [
(Qa (Qv 2) (MOp.ibox (Qn 0))),
(Qa (Qv 4) (Qd (Qo (Qp (Qq (Qs false))))))]
def f30_c0 : MC := .reg false f30_r0
def f30_r1 : List MO := [
(Qa (Qv 5) (Qd (Qn 1))),
(Qa (Qv 6) (Qe Qt Go.BinOp.geq (Qn 5) (Qo (Qp (Qq (Qr Qu 0)))))),
(Qa (Qv 7) (Qd (Qn 6))),
(Qb 7 true (Qv 8)),
(Qa (Qv 8) (Qd (Qn 1))),
(Qb 7 true (Qv 9)),
(Qa (Qv 9) (Qg 1 (Qn 2))),
(Qb 7 true (Qv 10)),
(Qa (Qv 10) (Qf 1 false (Qn 9))),
(Qb 7 true (Qv 11)),
(Qa (Qv 11) (Qk Qt (Qn 10))),
(Qb 7 true (Qv 12)),
(Qa (Qv 12) (Qe Qt Go.BinOp.lss (Qn 8) (Qn 11))),
(Qa (Qv 13) (Qm (Qn 7) (Qn 12) (Qo (Qp (Qq (Qs false)))))),
(Qa (Qv 4) (Qd (Qn 13)))]
def f30_c1 : MC := .reg false f30_r1
def f30_c2 : MC := MC.ret
def f30_c3 : MC := .seq f30_c1 f30_c2
def f30_c4 : MC := .seq f30_c0 f30_c3
noncomputable def f30_code : Code := (Go.Proofs.Tryd.f30.body).getD .skip
theorem f30_body : Go.Proofs.Tryd.f30.body = Qv f30_code := by kernel_rfl
theorem f30_tr : trC Go.Proofs.Tryd.prog [2] f30_code = Qv f30_c4 := by kernel_rfl
theorem f30_rs : rsOf Go.Proofs.Tryd.prog Go.Proofs.Tryd.f30.results.toList = Qv [(RV.t 4)] := by kernel_rfl
theorem f30_nt : Go.Proofs.Tryd.f30.ntmps = 14 := by kernel_rfl
theorem f30_ok : callable Go.Proofs.Tryd.prog 30 = true := by kernel_rfl
theorem f30_in {gp : Heap} {args : List V} {res : V} (h : G ⟨Go.Proofs.Tryd.prog, gp, 0, [(RV.t 4)], fun r c => r = res ∧ c = [], false⟩ [.code f30_c4, .fin] ⟨args ++ List.replicate (14 - args.length) .un, []⟩) : Does Go.Proofs.Tryd.prog gp 30 args res :=
  does_intro f30_ok Go.Proofs.Tryd.func30 f30_body f30_tr f30_rs (by rw [f30_nt]; exact h)
theorem f30_tri {gp : Heap} {args : List V} {pre : List Ch} {R : V → List Ch → Prop} (h : G ⟨Go.Proofs.Tryd.prog, gp, pre.length, [(RV.t 4)], R, false⟩ [.code f30_c4, .fin] ⟨args ++ List.replicate (14 - args.length) .un, pre⟩) : Tri Go.Proofs.Tryd.prog gp 30 args pre R :=
  tri_intro Go.Proofs.Tryd.func30 f30_body f30_tr f30_rs (by rw [f30_nt]; exact h)
def f31_r0 : List MO := [
(Qa (Qv 1) (MOp.ibox (Qn 0))),
(Qa (Qv 2) (Qd (Qo (Qp (Qq D.nilF)))))]
def f31_c0 : MC := .reg false f31_r0
def f31_r1 : List MO := [
(Qa (Qv 3) (MOp.mkF (Go.Fn.func 42) [(Qn 1)])),
(Qa (Qv 2) (Qd (Qn 3)))]
def f31_c1 : MC := .reg false f31_r1
def f31_c2 : MC := MC.ret
def f31_c3 : MC := .seq f31_c1 f31_c2
def f31_c4 : MC := .seq f31_c0 f31_c3
noncomputable def f31_code : Code := (Go.Proofs.Tryd.f31.body).getD .skip
theorem f31_body : Go.Proofs.Tryd.f31.body = Qv f31_code := by kernel_rfl
theorem f31_tr : trC Go.Proofs.Tryd.prog [1] f31_code = Qv f31_c4 := by kernel_rfl
theorem f31_rs : rsOf Go.Proofs.Tryd.prog Go.Proofs.Tryd.f31.results.toList = Qv [(RV.t 2)] := by kernel_rfl
theorem f31_nt : Go.Proofs.Tryd.f31.ntmps = 4 := by kernel_rfl
theorem f31_ok : callable Go.Proofs.Tryd.prog 31 = true := by kernel_rfl
theorem f31_in {gp : Heap} {args : List V} {res : V} (h : G ⟨Go.Proofs.Tryd.prog, gp, 0, [(RV.t 2)], fun r c => r = res ∧ c = [], false⟩ [.code f31_c4, .fin] ⟨args ++ List.replicate (4 - args.length) .un, []⟩) : Does Go.Proofs.Tryd.prog gp 31 args res :=
  does_intro f31_ok Go.Proofs.Tryd.func31 f31_body f31_tr f31_rs (by rw [f31_nt]; exact h)
theorem f31_tri {gp : Heap} {args : List V} {pre : List Ch} {R : V → List Ch → Prop} (h : G ⟨Go.Proofs.Tryd.prog, gp, pre.length, [(RV.t 2)], R, false⟩ [.code f31_c4, .fin] ⟨args ++ List.replicate (4 - args.length) .un, pre⟩) : Tri Go.Proofs.Tryd.prog gp 31 args pre R :=
  tri_intro Go.Proofs.Tryd.func31 f31_body f31_tr f31_rs (by rw [f31_nt]; exact h)
def f32_r0 : List MO := [
(Qa (Qv 1) (MOp.ibox (Qn 0))),
(Qa (Qv 2) (Qd (Qo (Qp (Qq (Qs false))))))]
def f32_c0 : MC := .reg false f32_r0
def f32_r1 : List MO := [
(Qa (Qv 4) (MOp.build [D.nilF, D.nilF, D.nilF] [(0, (1, (Qo (Qp (Qq (D.fn (Go.Fn.func 43) [])))))), (1, (1, (Qo (Qp (Qq (D.fn (Go.Fn.func 44) [])))))), (2, (1, (Qo (Qp (Qq (D.fn (Go.Fn.func 45) []))))))])),
(Qa (Qv 3) (MOp.alloc [D.nilF, D.nilF, D.nilF])),
(Qa none (Ql 3 (Qn 3) (Qn 4)))]
def f32_c1 : MC := .reg false f32_r1
def f32_r2 : List MO := [
(Qa (Qv 5) (Qg 0 (Qn 1))),
(Qa (Qv 6) (Qg 0 (Qn 5))),
(Qa (Qv 7) (Qf 1 false (Qn 6))),
(Qa (Qv 8) (Qe Qt Go.BinOp.geq (Qn 7) (Qo (Qp (Qq (Qr Qu 0)))))),
(Qa (Qv 9) (Qd (Qn 8))),
(Qb 9 true (Qv 10)),
(Qa (Qv 10) (Qg 0 (Qn 1))),
(Qb 9 true (Qv 11)),
(Qa (Qv 11) (Qg 0 (Qn 10))),
(Qb 9 true (Qv 12)),
(Qa (Qv 12) (Qf 1 false (Qn 11))),
(Qb 9 true (Qv 13)),
(Qa (Qv 13) (Qe Qt Go.BinOp.lss (Qn 12) (Qo (Qp (Qq (Qr Qu 3)))))),
(Qa (Qv 14) (Qm (Qn 9) (Qn 13) (Qo (Qp (Qq (Qs false)))))),
(Qa (Qv 15) (Qd (Qn 14))),
(Qb 15 true (Qv 16)),
(Qa (Qv 16) (Qg 0 (Qn 1))),
(Qb 15 true (Qv 17)),
(Qa (Qv 17) (Qg 0 (Qn 16))),
(Qb 15 true (Qv 18)),
(Qa (Qv 18) (Qf 1 false (Qn 17))),
(Qb 15 true (Qv 19)),
(Qa (Qv 19) (MOp.iadA 3 1 (Qn 3) (Qn 18))),
(Qb 15 true (Qv 20)),
(Qa (Qv 20) (Qf 1 false (Qn 19))),
(Qb 15 true (Qv 21)),
(Qa (Qv 21) (Qf 7 true (Qn 1))),
(Qb 15 true (Qv 22)),
(Qc (Qv 22) (MOp.callv (Qn 20) [(Qn 21)])),
(Qa (Qv 23) (Qm (Qn 15) (Qn 22) (Qo (Qp (Qq (Qs false)))))),
(Qa (Qv 2) (Qd (Qn 23)))]
def f32_c2 : MC := .reg true f32_r2
def f32_c3 : MC := MC.ret
def f32_c4 : MC := .seq f32_c2 f32_c3
def f32_c5 : MC := .seq f32_c1 f32_c4
def f32_c6 : MC := .seq f32_c0 f32_c5
noncomputable def f32_code : Code := (Go.Proofs.Tryd.f32.body).getD .skip
theorem f32_body : Go.Proofs.Tryd.f32.body = Qv f32_code := by kernel_rfl
theorem f32_tr : trC Go.Proofs.Tryd.prog [1] f32_code = Qv f32_c6 := by kernel_rfl
theorem f32_rs : rsOf Go.Proofs.Tryd.prog Go.Proofs.Tryd.f32.results.toList = Qv [(RV.t 2)] := by kernel_rfl
theorem f32_nt : Go.Proofs.Tryd.f32.ntmps = 24 := by kernel_rfl
theorem f32_ok : callable Go.Proofs.Tryd.prog 32 = true := by kernel_rfl
theorem f32_in {gp : Heap} {args : List V} {res : V} (h : G ⟨Go.Proofs.Tryd.prog, gp, 0, [(RV.t 2)], fun r c => r = res ∧ c = [], false⟩ [.code f32_c6, .fin] ⟨args ++ List.replicate (24 - args.length) .un, []⟩) : Does Go.Proofs.Tryd.prog gp 32 args res :=
  does_intro f32_ok Go.Proofs.Tryd.func32 f32_body f32_tr f32_rs (by rw [f32_nt]; exact h)
theorem f32_tri {gp : Heap} {args : List V} {pre : List Ch} {R : V → List Ch → Prop} (h : G ⟨Go.Proofs.Tryd.prog, gp, pre.length, [(RV.t 2)], R, false⟩ [.code f32_c6, .fin] ⟨args ++ List.replicate (24 - args.length) .un, pre⟩) : Tri Go.Proofs.Tryd.prog gp 32 args pre R :=
  tri_intro Go.Proofs.Tryd.func32 f32_body f32_tr f32_rs (by rw [f32_nt]; exact h)
def f33_r0 : List MO := [
(Qa (Qv 1) (MOp.ibox (Qn 0))),
(Qa (Qv 2) (Qd (Qo (Qp (Qq (Qs false))))))]
def f33_c0 : MC := .reg false f33_r0
def f33_r1 : List MO := [
(Qa (Qv 3) (Qg 0 (Qn 1))),
(Qa (Qv 4) (Qg 4 (Qn 3))),
(Qa (Qv 5) (Qf 1 false (Qn 4))),
(Qa (Qv 6) (Qk Qt (Qn 5))),
(Qa (Qv 7) (Qg 0 (Qn 1))),
(Qa (Qv 8) (Qg 5 (Qn 7))),
(Qa (Qv 9) (Qf 1 false (Qn 8))),
(Qa (Qv 10) (Qk Qt (Qn 9))),
(Qa (Qv 11) (Qe Qt Go.BinOp.eql (Qn 6) (Qn 10))),
(Qa (Qv 2) (Qd (Qn 11)))]
def f33_c1 : MC := .reg false f33_r1
def f33_c2 : MC := MC.ret
def f33_c3 : MC := .seq f33_c1 f33_c2
def f33_c4 : MC := .seq f33_c0 f33_c3
noncomputable def f33_code : Code := (Go.Proofs.Tryd.f33.body).getD .skip
theorem f33_body : Go.Proofs.Tryd.f33.body = Qv f33_code := by kernel_rfl
theorem f33_tr : trC Go.Proofs.Tryd.prog [1] f33_code = Qv f33_c4 := by kernel_rfl
theorem f33_rs : rsOf Go.Proofs.Tryd.prog Go.Proofs.Tryd.f33.results.toList = Qv [(RV.t 2)] := by kernel_rfl
theorem f33_nt : Go.Proofs.Tryd.f33.ntmps = 12 := by kernel_rfl
theorem f33_ok : callable Go.Proofs.Tryd.prog 33 = true := by kernel_rfl
theorem f33_in {gp : Heap} {args : List V} {res : V} (h : G ⟨Go.Proofs.Tryd.prog, gp, 0, [(RV.t 2)], fun r c => r = res ∧ c = [], false⟩ [.code f33_c4, .fin] ⟨args ++ List.replicate (12 - args.length) .un, []⟩) : Does Go.Proofs.Tryd.prog gp 33 args res :=
  does_intro f33_ok Go.Proofs.Tryd.func33 f33_body f33_tr f33_rs (by rw [f33_nt]; exact h)
theorem f33_tri {gp : Heap} {args : List V} {pre : List Ch} {R : V → List Ch → Prop} (h : G ⟨Go.Proofs.Tryd.prog, gp, pre.length, [(RV.t 2)], R, false⟩ [.code f33_c4, .fin] ⟨args ++ List.replicate (12 - args.length) .un, pre⟩) : Tri Go.Proofs.Tryd.prog gp 33 args pre R :=
  tri_intro Go.Proofs.Tryd.func33 f33_body f33_tr f33_rs (by rw [f33_nt]; exact h)
def f34_r0 : List MO := [
(Qa (Qv 4) (Qd (Qn 0))),
(Qa (Qv 5) (Qd (Qn 0))),
(Qa (Qv 6) (Qk Qt (Qn 5))),
(Qa (Qv 7) (Qd (Qn 1))),
(Qa (Qv 8) (Qh 46 [(Qn 4), (Qn 6), (Qn 7)]))]
def f34_c0 : MC := .reg false f34_r0
noncomputable def f34_code : Code := (Go.Proofs.Tryd.f34.body).getD .skip
theorem f34_body : Go.Proofs.Tryd.f34.body = Qv f34_code := by kernel_rfl
theorem f34_tr : trC Go.Proofs.Tryd.prog [] f34_code = Qv f34_c0 := by kernel_rfl
theorem f34_rs : rsOf Go.Proofs.Tryd.prog Go.Proofs.Tryd.f34.results.toList = Qv [] := by kernel_rfl
theorem f34_nt : Go.Proofs.Tryd.f34.ntmps = 9 := by kernel_rfl
theorem f34_ok : callable Go.Proofs.Tryd.prog 34 = true := by kernel_rfl
theorem f34_in {gp : Heap} {args : List V} {res : V} (h : G ⟨Go.Proofs.Tryd.prog, gp, 0, [], fun r c => r = res ∧ c = [], false⟩ [.code f34_c0, .fin] ⟨args ++ List.replicate (9 - args.length) .un, []⟩) : Does Go.Proofs.Tryd.prog gp 34 args res :=
  does_intro f34_ok Go.Proofs.Tryd.func34 f34_body f34_tr f34_rs (by rw [f34_nt]; exact h)
theorem f34_tri {gp : Heap} {args : List V} {pre : List Ch} {R : V → List Ch → Prop} (h : G ⟨Go.Proofs.Tryd.prog, gp, pre.length, [], R, false⟩ [.code f34_c0, .fin] ⟨args ++ List.replicate (9 - args.length) .un, pre⟩) : Tri Go.Proofs.Tryd.prog gp 34 args pre R :=
  tri_intro Go.Proofs.Tryd.func34 f34_body f34_tr f34_rs (by rw [f34_nt]; exact h)
def f35_r0 : List MO := [
(Qa (Qv 2) (MOp.ibox (Qn 0))),
(Qa (Qv 3) (MOp.ibox (Qn 1))),
(Qa (Qv 4) (Qd (Qo (Qp (Qq (Qr Qu 0))))))]
def f35_c0 : MC := .reg false f35_r0
def f35_r1 : List MO := [
(Qa (Qv 5) (Qg 0 (Qn 2))),
(Qa (Qv 6) (Qf 3 true (Qn 5))),
(Qa (Qv 7) (Qg 0 (Qn 3))),
(Qa (Qv 8) (Qf 3 true (Qn 7))),
(Qa (Qv 9) (Qh 11 [(Qn 6), (Qn 8)])),
(Qa (Qv 4) (Qd (Qn 9)))]
def f35_c1 : MC := .reg false f35_r1
def f35_c2 : MC := MC.ret
def f35_c3 : MC := .seq f35_c1 f35_c2
def f35_c4 : MC := .seq f35_c0 f35_c3
noncomputable def f35_code : Code := (Go.Proofs.Tryd.f35.body).getD .skip
theorem f35_body : Go.Proofs.Tryd.f35.body = Qv f35_code := by kernel_rfl
theorem f35_tr : trC Go.Proofs.Tryd.prog [2, 3] f35_code = Qv f35_c4 := by kernel_rfl
theorem f35_rs : rsOf Go.Proofs.Tryd.prog Go.Proofs.Tryd.f35.results.toList = Qv [(RV.t 4)] := by kernel_rfl
theorem f35_nt : Go.Proofs.Tryd.f35.ntmps = 10 := by kernel_rfl
theorem f35_ok : callable Go.Proofs.Tryd.prog 35 = true := by kernel_rfl
theorem f35_in {gp : Heap} {args : List V} {res : V} (h : G ⟨Go.Proofs.Tryd.prog, gp, 0, [(RV.t 4)], fun r c => r = res ∧ c = [], false⟩ [.code f35_c4, .fin] ⟨args ++ List.replicate (10 - args.length) .un, []⟩) : Does Go.Proofs.Tryd.prog gp 35 args res :=
  does_intro f35_ok Go.Proofs.Tryd.func35 f35_body f35_tr f35_rs (by rw [f35_nt]; exact h)
theorem f35_tri {gp : Heap} {args : List V} {pre : List Ch} {R : V → List Ch → Prop} (h : G ⟨Go.Proofs.Tryd.prog, gp, pre.length, [(RV.t 4)], R, false⟩ [.code f35_c4, .fin] ⟨args ++ List.replicate (10 - args.length) .un, pre⟩) : Tri Go.Proofs.Tryd.prog gp 35 args pre R :=
  tri_intro Go.Proofs.Tryd.func35 f35_body f35_tr f35_rs (by rw [f35_nt]; exact h)
def f36_r0 : List MO := [
(Qa (Qv 2) (Qd (Qo (Qp (Qq (Qs false))))))]
def f36_c0 : MC := .reg false f36_r0
def f36_r1 : List MO := [
(Qa (Qv 3) (Qd (Qn 0))),
(Qa (Qv 4) (Qd (Qn 0))),
(Qa (Qv 5) (Qe Qt Go.BinOp.neq (Qn 3) (Qn 4))),
(Qa (Qv 2) (Qd (Qn 5)))]
def f36_c1 : MC := .reg false f36_r1
def f36_c2 : MC := MC.ret
def f36_c3 : MC := .seq f36_c1 f36_c2
def f36_c4 : MC := .seq f36_c0 f36_c3
noncomputable def f36_code : Code := (Go.Proofs.Tryd.f36.body).getD .skip
theorem f36_body : Go.Proofs.Tryd.f36.body = Qv f36_code := by kernel_rfl
theorem f36_tr : trC Go.Proofs.Tryd.prog [] f36_code = Qv f36_c4 := by kernel_rfl
theorem f36_rs : rsOf Go.Proofs.Tryd.prog Go.Proofs.Tryd.f36.results.toList = Qv [(RV.t 2)] := by kernel_rfl
theorem f36_nt : Go.Proofs.Tryd.f36.ntmps = 6 := by kernel_rfl
theorem f36_ok : callable Go.Proofs.Tryd.prog 36 = true := by kernel_rfl
theorem f36_in {gp : Heap} {args : List V} {res : V} (h : G ⟨Go.Proofs.Tryd.prog, gp, 0, [(RV.t 2)], fun r c => r = res ∧ c = [], false⟩ [.code f36_c4, .fin] ⟨args ++ List.replicate (6 - args.length) .un, []⟩) : Does Go.Proofs.Tryd.prog gp 36 args res :=
  does_intro f36_ok Go.Proofs.Tryd.func36 f36_body f36_tr f36_rs (by rw [f36_nt]; exact h)
theorem f36_tri {gp : Heap} {args : List V} {pre : List Ch} {R : V → List Ch → Prop} (h : G ⟨Go.Proofs.Tryd.prog, gp, pre.length, [(RV.t 2)], R, false⟩ [.code f36_c4, .fin] ⟨args ++ List.replicate (6 - args.length) .un, pre⟩) : Tri Go.Proofs.Tryd.prog gp 36 args pre R :=
  tri_intro Go.Proofs.Tryd.func36 f36_body f36_tr f36_rs (by rw [f36_nt]; exact h)
def f37_r0 : List MO := [
(Qa (Qv 2) (Qd (Qo (Qp (Qq (Qs false))))))]
def f37_c0 : MC := .reg false f37_r0
def f37_r1 : List MO := [
(Qa (Qv 3) (Qd (Qn 0))),
(Qa (Qv 4) (Qd (Qn 0))),
(Qa (Qv 5) (Qe Leaf.s Go.BinOp.neq (Qn 3) (Qn 4))),
(Qa (Qv 2) (Qd (Qn 5)))]
def f37_c1 : MC := .reg false f37_r1
def f37_c2 : MC := MC.ret
def f37_c3 : MC := .seq f37_c1 f37_c2
def f37_c4 : MC := .seq f37_c0 f37_c3
noncomputable def f37_code : Code := (Go.Proofs.Tryd.f37.body).getD .skip
theorem f37_body : Go.Proofs.Tryd.f37.body = Qv f37_code := by kernel_rfl
theorem f37_tr : trC Go.Proofs.Tryd.prog [] f37_code = Qv f37_c4 := by kernel_rfl
theorem f37_rs : rsOf Go.Proofs.Tryd.prog Go.Proofs.Tryd.f37.results.toList = Qv [(RV.t 2)] := by kernel_rfl
theorem f37_nt : Go.Proofs.Tryd.f37.ntmps = 6 := by kernel_rfl
theorem f37_ok : callable Go.Proofs.Tryd.prog 37 = true := by kernel_rfl
theorem f37_in {gp : Heap} {args : List V} {res : V} (h : G ⟨Go.Proofs.Tryd.prog, gp, 0, [(RV.t 2)], fun r c => r = res ∧ c = [], false⟩ [.code f37_c4, .fin] ⟨args ++ List.replicate (6 - args.length) .un, []⟩) : Does Go.Proofs.Tryd.prog gp 37 args res :=
  does_intro f37_ok Go.Proofs.Tryd.func37 f37_body f37_tr f37_rs (by rw [f37_nt]; exact h)
theorem f37_tri {gp : Heap} {args : List V} {pre : List Ch} {R : V → List Ch → Prop} (h : G ⟨Go.Proofs.Tryd.prog, gp, pre.length, [(RV.t 2)], R, false⟩ [.code f37_c4, .fin] ⟨args ++ List.replicate (6 - args.length) .un, pre⟩) : Tri Go.Proofs.Tryd.prog gp 37 args pre R :=
  tri_intro Go.Proofs.Tryd.func37 f37_body f37_tr f37_rs (by rw [f37_nt]; exact h)
-- f38: no body
-- f39: no body
-- f40: no body
-- f41: trC none
def f42_c0 : MC := MC.skip
def f42_r1 : List MO := [
(Qa (Qv 5) (Qg 1 (Qn 1))),
(Qa (Qv 6) (Qf 1 false (Qn 5))),
(Qa (Qv 7) (Qk Qt (Qn 6))),
(Qa (Qv 8) (Qd (Qo (Qp (Qq (Qr Qu 0))))))]
def f42_c1 : MC := .reg false f42_r1
def f42_r2 : List MO := [
(Qa (Qv 9) (Qe Qt Go.BinOp.lss (Qn 8) (Qn 7)))]
def f42_c2 : MC := .reg false f42_r2
def f42_c3 : MC := MC.skip
def f42_c4 : MC := (MC.exit 0)
def f42_c5 : MC := .cond (Qn 9) f42_c3 f42_c4
def f42_r6 : List MO := [
(Qa (Qv 10) (Qd (Qn 8))),
(Qa (Qv 11) (Qj 6 (Qn 6) (Qn 8))),
(Qa (Qv 12) (Qf 6 true (Qn 11))),
(Qa (Qv 4) (MOp.alloc [(Qr Qu 0), (Qr Qu 0), (Qr Qu 0), (D.str (ByteArray.mk #[])), (D.sl []), (D.sl [])])),
(Qa (Qv 3) (Qd (Qn 10))),
(Qa none (Ql 6 (Qn 4) (Qn 12)))]
def f42_c6 : MC := .reg false f42_r6
def f42_r7 : List MO := [
(Qa (Qv 13) (Qd (Qn 0))),
(Qa (Qv 14) (Qd (Qn 3))),
(Qa (Qv 15) (Qf 6 true (Qn 4))),
(Qa (Qv 16) (Qg 1 (Qn 1))),
(Qa (Qv 17) (Qf 1 false (Qn 16))),
(Qa (Qv 18) (Qk Qt (Qn 17))),
(Qa (Qv 19) (MOp.build [(Qr Qu 0), (Qr Qu 0), (Qr Qu 0), (D.str (ByteArray.mk #[])), (D.sl []), (D.sl []), (Qr Qu 0)] [(0, (6, (Qn 15))), (6, (1, (Qn 18)))])),
(Qa (Qv 20) (MOp.callv (Qn 13) [(Qn 14), (Qn 19)])),
(Qa (Qv 21) (MOp.not (Qn 20)))]
def f42_c7 : MC := .reg false f42_r7
def f42_c8 : MC := (MC.exit 0)
def f42_c9 : MC := MC.skip
def f42_c10 : MC := .cond (Qn 21) f42_c8 f42_c9
def f42_c11 : MC := .seq f42_c7 f42_c10
def f42_c12 : MC := .seq f42_c6 f42_c11
def f42_c13 : MC := .blk 1 f42_c12
def f42_r14 : List MO := [
(Qa (Qv 22) (Qe Qt Go.BinOp.add (Qn 8) (Qo (Qp (Qq (Qr Qu 1)))))),
(Qa (Qv 8) (Qd (Qn 22)))]
def f42_c14 : MC := .reg false f42_r14
def f42_c15 : MC := .seq f42_c13 f42_c14
def f42_c16 : MC := .seq f42_c5 f42_c15
def f42_c17 : MC := .seq f42_c2 f42_c16
def f42_c18 : MC := .loop f42_c17
def f42_c19 : MC := .blk 0 f42_c18
def f42_c20 : MC := .seq f42_c1 f42_c19
def f42_c21 : MC := .seq f42_c0 f42_c20
def f42_c22 : MC := .scope f42_c21
noncomputable def f42_code : Code := (Go.Proofs.Tryd.f42.body).getD .skip
theorem f42_body : Go.Proofs.Tryd.f42.body = Qv f42_code := by kernel_rfl
theorem f42_tr : trC Go.Proofs.Tryd.prog [] f42_code = Qv f42_c22 := by kernel_rfl
theorem f42_rs : rsOf Go.Proofs.Tryd.prog Go.Proofs.Tryd.f42.results.toList = Qv [] := by kernel_rfl
theorem f42_nt : Go.Proofs.Tryd.f42.ntmps = 23 := by kernel_rfl
theorem f42_ok : callable Go.Proofs.Tryd.prog 42 = true := by kernel_rfl
theorem f42_in {gp : Heap} {args : List V} {res : V} (h : G ⟨Go.Proofs.Tryd.prog, gp, 0, [], fun r c => r = res ∧ c = [], false⟩ [.code f42_c22, .fin] ⟨args ++ List.replicate (23 - args.length) .un, []⟩) : Does Go.Proofs.Tryd.prog gp 42 args res :=
  does_intro f42_ok Go.Proofs.Tryd.func42 f42_body f42_tr f42_rs (by rw [f42_nt]; exact h)
theorem f42_tri {gp : Heap} {args : List V} {pre : List Ch} {R : V → List Ch → Prop} (h : G ⟨Go.Proofs.Tryd.prog, gp, pre.length, [], R, false⟩ [.code f42_c22, .fin] ⟨args ++ List.replicate (23 - args.length) .un, pre⟩) : Tri Go.Proofs.Tryd.prog gp 42 args pre R :=
  tri_intro Go.Proofs.Tryd.func42 f42_body f42_tr f42_rs (by rw [f42_nt]; exact h)
def f43_r0 : List MO := [
(Qa (Qv 1) (MOp.ibox (Qn 0))),
(Qa (Qv 2) (Qd (Qo (Qp (Qq (Qs false))))))]
def f43_c0 : MC := .reg false f43_r0
def f43_r1 : List MO := [
(Qa (Qv 3) (Qg 0 (Qn 1))),
(Qa (Qv 4) (Qg 1 (Qn 3))),
(Qa (Qv 5) (Qf 3 true (Qn 4))),
(Qa (Qv 6) (Qh 51 [(Qn 5)])),
(Qa (Qv 7) (Qg 0 (Qn 1))),
(Qa (Qv 8) (Qg 4 (Qn 7))),
(Qa (Qv 9) (Qf 1 false (Qn 8))),
(Qa (Qv 10) (Qk Qt (Qn 9))),
(Qa (Qv 11) (Qe Qt Go.BinOp.eql (Qn 10) (Qo (Qp (Qq (Qr Qu 0)))))),
(Qa (Qv 12) (Qg 0 (Qn 1))),
(Qa (Qv 13) (Qg 5 (Qn 12))),
(Qa (Qv 14) (Qf 1 false (Qn 13))),
(Qa (Qv 15) (Qk Qt (Qn 14))),
(Qa (Qv 16) (Qe Qt Go.BinOp.eql (Qn 15) (Qo (Qp (Qq (Qr Qu 0)))))),
(Qa (Qv 17) (MOp.bslice 1 [(Qs false)] 3 [(0, (Qn 6)), (1, (Qn 11)), (2, (Qn 16))])),
(Qc (Qv 18) (Qh 50 [(Qn 17)])),
(Qa (Qv 2) (Qd (Qn 18)))]
def f43_c1 : MC := .reg true f43_r1
def f43_c2 : MC := MC.ret
def f43_c3 : MC := .seq f43_c1 f43_c2
def f43_c4 : MC := .seq f43_c0 f43_c3
noncomputable def f43_code : Code := (Go.Proofs.Tryd.f43.body).getD .skip
theorem f43_body : Go.Proofs.Tryd.f43.body = Qv f43_code := by kernel_rfl
theorem f43_tr : trC Go.Proofs.Tryd.prog [1] f43_code = Qv f43_c4 := by kernel_rfl
theorem f43_rs : rsOf Go.Proofs.Tryd.prog Go.Proofs.Tryd.f43.results.toList = Qv [(RV.t 2)] := by kernel_rfl
theorem f43_nt : Go.Proofs.Tryd.f43.ntmps = 19 := by kernel_rfl
theorem f43_ok : callable Go.Proofs.Tryd.prog 43 = true := by kernel_rfl
theorem f43_in {gp : Heap} {args : List V} {res : V} (h : G ⟨Go.Proofs.Tryd.prog, gp, 0, [(RV.t 2)], fun r c => r = res ∧ c = [], false⟩ [.code f43_c4, .fin] ⟨args ++ List.replicate (19 - args.length) .un, []⟩) : Does Go.Proofs.Tryd.prog gp 43 args res :=
  does_intro f43_ok Go.Proofs.Tryd.func43 f43_body f43_tr f43_rs (by rw [f43_nt]; exact h)
theorem f43_tri {gp : Heap} {args : List V} {pre : List Ch} {R : V → List Ch → Prop} (h : G ⟨Go.Proofs.Tryd.prog, gp, pre.length, [(RV.t 2)], R, false⟩ [.code f43_c4, .fin] ⟨args ++ List.replicate (19 - args.length) .un, pre⟩) : Tri Go.Proofs.Tryd.prog gp 43 args pre R :=
  tri_intro Go.Proofs.Tryd.func43 f43_body f43_tr f43_rs (by rw [f43_nt]; exact h)
def f44_r0 : List MO := [
(Qa (Qv 1) (MOp.ibox (Qn 0))),
(Qa (Qv 2) (Qd (Qo (Qp (Qq (Qs false))))))]
def f44_c0 : MC := .reg false f44_r0
def f44_r1 : List MO := [
(Qa (Qv 3) (Qg 0 (Qn 1))),
(Qa (Qv 4) (Qg 1 (Qn 3))),
(Qa (Qv 5) (Qf 3 true (Qn 4))),
(Qa (Qv 6) (MOp.build [(Qr Qu 0), (Qr Qu 0), (D.str (ByteArray.mk #[]))] [])),
(Qa (Qv 7) (MOp.eqs false [Qt, Qt, Leaf.s] (Qn 5) (Qn 6))),
(Qa (Qv 8) (Qg 0 (Qn 1))),
(Qa (Qv 9) (Qg 4 (Qn 8))),
(Qa (Qv 10) (Qf 1 false (Qn 9))),
(Qa (Qv 11) (Qk Qt (Qn 10))),
(Qa (Qv 12) (Qe Qt Go.BinOp.eql (Qn 11) (Qo (Qp (Qq (Qr Qu 0)))))),
(Qa (Qv 13) (Qf 7 true (Qn 1))),
(Qa (Qv 14) (Qh 52 [(Qn 13)])),
(Qa (Qv 15) (MOp.bslice 1 [(Qs false)] 3 [(0, (Qn 7)), (1, (Qn 12)), (2, (Qn 14))])),
(Qc (Qv 16) (Qh 50 [(Qn 15)])),
(Qa (Qv 2) (Qd (Qn 16)))]
def f44_c1 : MC := .reg true f44_r1
def f44_c2 : MC := MC.ret
def f44_c3 : MC := .seq f44_c1 f44_c2
def f44_c4 : MC := .seq f44_c0 f44_c3
noncomputable def f44_code : Code := (Go.Proofs.Tryd.f44.body).getD .skip
theorem f44_body : Go.Proofs.Tryd.f44.body = Qv f44_code := by kernel_rfl
theorem f44_tr : trC Go.Proofs.Tryd.prog [1] f44_code = Qv f44_c4 := by kernel_rfl
theorem f44_rs : rsOf Go.Proofs.Tryd.prog Go.Proofs.Tryd.f44.results.toList = Qv [(RV.t 2)] := by kernel_rfl
theorem f44_nt : Go.Proofs.Tryd.f44.ntmps = 17 := by kernel_rfl
theorem f44_ok : callable Go.Proofs.Tryd.prog 44 = true := by kernel_rfl
theorem f44_in {gp : Heap} {args : List V} {res : V} (h : G ⟨Go.Proofs.Tryd.prog, gp, 0, [(RV.t 2)], fun r c => r = res ∧ c = [], false⟩ [.code f44_c4, .fin] ⟨args ++ List.replicate (17 - args.length) .un, []⟩) : Does Go.Proofs.Tryd.prog gp 44 args res :=
  does_intro f44_ok Go.Proofs.Tryd.func44 f44_body f44_tr f44_rs (by rw [f44_nt]; exact h)
theorem f44_tri {gp : Heap} {args : List V} {pre : List Ch} {R : V → List Ch → Prop} (h : G ⟨Go.Proofs.Tryd.prog, gp, pre.length, [(RV.t 2)], R, false⟩ [.code f44_c4, .fin] ⟨args ++ List.replicate (17 - args.length) .un, pre⟩) : Tri Go.Proofs.Tryd.prog gp 44 args pre R :=
  tri_intro Go.Proofs.Tryd.func44 f44_body f44_tr f44_rs (by rw [f44_nt]; exact h)
def f45_r0 : List MO := [
(Qa (Qv 1) (MOp.ibox (Qn 0))),
(Qa (Qv 2) (Qd (Qo (Qp (Qq (Qs false))))))]
def f45_c0 : MC := .reg false f45_r0
def f45_r1 : List MO := [
(Qa (Qv 3) (Qg 0 (Qn 1))),
(Qa (Qv 4) (Qg 1 (Qn 3))),
(Qa (Qv 5) (Qf 3 true (Qn 4))),
(Qa (Qv 6) (MOp.build [(Qr Qu 0), (Qr Qu 0), (D.str (ByteArray.mk #[]))] [])),
(Qa (Qv 7) (MOp.eqs false [Qt, Qt, Leaf.s] (Qn 5) (Qn 6))),
(Qa (Qv 8) (Qf 7 true (Qn 1))),
(Qa (Qv 9) (Qh 33 [(Qn 8)])),
(Qa (Qv 10) (Qf 7 true (Qn 1))),
(Qa (Qv 11) (Qh 53 [(Qn 10)])),
(Qa (Qv 12) (Qf 7 true (Qn 1))),
(Qa (Qv 13) (Qh 52 [(Qn 12)])),
(Qa (Qv 14) (MOp.bslice 1 [(Qs false)] 4 [(0, (Qn 7)), (1, (Qn 9)), (2, (Qn 11)), (3, (Qn 13))])),
(Qc (Qv 15) (Qh 50 [(Qn 14)])),
(Qa (Qv 2) (Qd (Qn 15)))]
def f45_c1 : MC := .reg true f45_r1
def f45_c2 : MC := MC.ret
def f45_c3 : MC := .seq f45_c1 f45_c2
def f45_c4 : MC := .seq f45_c0 f45_c3
noncomputable def f45_code : Code := (Go.Proofs.Tryd.f45.body).getD .skip
theorem f45_body : Go.Proofs.Tryd.f45.body = Qv f45_code := by kernel_rfl
theorem f45_tr : trC Go.Proofs.Tryd.prog [1] f45_code = Qv f45_c4 := by kernel_rfl
theorem f45_rs : rsOf Go.Proofs.Tryd.prog Go.Proofs.Tryd.f45.results.toList = Qv [(RV.t 2)] := by kernel_rfl
theorem f45_nt : Go.Proofs.Tryd.f45.ntmps = 16 := by kernel_rfl
theorem f45_ok : callable Go.Proofs.Tryd.prog 45 = true := by kernel_rfl
theorem f45_in {gp : Heap} {args : List V} {res : V} (h : G ⟨Go.Proofs.Tryd.prog, gp, 0, [(RV.t 2)], fun r c => r = res ∧ c = [], false⟩ [.code f45_c4, .fin] ⟨args ++ List.replicate (16 - args.length) .un, []⟩) : Does Go.Proofs.Tryd.prog gp 45 args res :=
  does_intro f45_ok Go.Proofs.Tryd.func45 f45_body f45_tr f45_rs (by rw [f45_nt]; exact h)
theorem f45_tri {gp : Heap} {args : List V} {pre : List Ch} {R : V → List Ch → Prop} (h : G ⟨Go.Proofs.Tryd.prog, gp, pre.length, [(RV.t 2)], R, false⟩ [.code f45_c4, .fin] ⟨args ++ List.replicate (16 - args.length) .un, pre⟩) : Tri Go.Proofs.Tryd.prog gp 45 args pre R :=
  tri_intro Go.Proofs.Tryd.func45 f45_body f45_tr f45_rs (by rw [f45_nt]; exact h)
def f46_r0 : List MO := [
(Qa (Qv 6) (Qd (Qo (Qp (Qq (Qr Qu 20))))))]
def f46_c0 : MC := .reg false f46_r0
def f46_r1 : List MO := [
(Qa (Qv 10) (Qd (Qn 6))),
(Qa (Qv 7) (Qd (Qo (Qp (Qq (Qr Qu 0)))))),
(Qa (Qv 8) (Qd (Qn 10)))]
def f46_c1 : MC := .reg false f46_r1
def f46_r2 : List MO := [
(Qa (Qv 11) (Qd (Qn 8))),
(Qa (Qv 12) (Qd (Qn 1))),
(Qa (Qv 13) (Qe Qt Go.BinOp.leq (Qn 11) (Qn 12)))]
def f46_c2 : MC := .reg false f46_r2
def f46_c3 : MC := MC.skip
def f46_c4 : MC := (MC.exit 0)
def f46_c5 : MC := .cond (Qn 13) f46_c3 f46_c4
def f46_c6 : MC := .seq f46_c2 f46_c5
def f46_r7 : List MO := [
(Qa (Qv 14) (Qd (Qn 0))),
(Qa (Qv 15) (Qd (Qn 7))),
(Qa (Qv 16) (Qd (Qn 8))),
(Qa (Qv 17) (Qd (Qn 2))),
(Qa (Qv 18) (Qh 54 [(Qn 14), (Qn 15), (Qn 16), (Qn 17)]))]
def f46_c7 : MC := .reg false f46_r7
def f46_r8 : List MO := [
(Qa (Qv 19) (Qd (Qn 8))),
(Qa (Qv 7) (Qd (Qn 19)))]
def f46_c8 : MC := .reg false f46_r8
def f46_r9 : List MO := [
(Qa (Qv 20) (Qd (Qn 8))),
(Qa (Qv 21) (Qd (Qn 6))),
(Qa (Qv 22) (Qe Qt Go.BinOp.add (Qn 20) (Qn 21))),
(Qa (Qv 8) (Qd (Qn 22)))]
def f46_c9 : MC := .reg false f46_r9
def f46_c10 : MC := .seq f46_c8 f46_c9
def f46_c11 : MC := .seq f46_c7 f46_c10
def f46_c12 : MC := .blk 1 f46_c11
def f46_c13 : MC := .seq f46_c6 f46_c12
def f46_c14 : MC := .loop f46_c13
def f46_c15 : MC := .blk 0 f46_c14
def f46_r16 : List MO := [
(Qa (Qv 23) (Qd (Qn 0))),
(Qa (Qv 24) (Qd (Qn 7))),
(Qa (Qv 25) (Qd (Qn 1))),
(Qa (Qv 26) (Qd (Qn 2))),
(Qa (Qv 27) (Qh 54 [(Qn 23), (Qn 24), (Qn 25), (Qn 26)]))]
def f46_c16 : MC := .reg false f46_r16
def f46_r17 : List MO := [
(Qa (Qv 28) (Qd (Qn 6))),
(Qa (Qv 29) (Qd (Qn 1))),
(Qa (Qv 30) (Qe Qt Go.BinOp.lss (Qn 28) (Qn 29)))]
def f46_c17 : MC := .reg false f46_r17
def f46_c18 : MC := MC.skip
def f46_c19 : MC := (MC.exit 2)
def f46_c20 : MC := .cond (Qn 30) f46_c18 f46_c19
def f46_c21 : MC := .seq f46_c17 f46_c20
def f46_r22 : List MO := [
(Qa (Qv 31) (Qd (Qn 6))),
(Qa (Qv 32) (Qe Qt Go.BinOp.mul (Qo (Qp (Qq (Qr Qu 2)))) (Qn 31))),
(Qa (Qv 7) (Qd (Qo (Qp (Qq (Qr Qu 0)))))),
(Qa (Qv 8) (Qd (Qn 32)))]
def f46_c22 : MC := .reg false f46_r22
def f46_r23 : List MO := [
(Qa (Qv 33) (Qd (Qn 8))),
(Qa (Qv 34) (Qd (Qn 1))),
(Qa (Qv 35) (Qe Qt Go.BinOp.leq (Qn 33) (Qn 34)))]
def f46_c23 : MC := .reg false f46_r23
def f46_c24 : MC := MC.skip
def f46_c25 : MC := (MC.exit 4)
def f46_c26 : MC := .cond (Qn 35) f46_c24 f46_c25
def f46_c27 : MC := .seq f46_c23 f46_c26
def f46_r28 : List MO := [
(Qa (Qv 36) (Qd (Qn 0))),
(Qa (Qv 37) (Qd (Qn 7))),
(Qa (Qv 38) (Qd (Qn 7))),
(Qa (Qv 39) (Qd (Qn 6))),
(Qa (Qv 40) (Qe Qt Go.BinOp.add (Qn 38) (Qn 39))),
(Qa (Qv 41) (Qd (Qn 8))),
(Qa (Qv 42) (Qd (Qn 2))),
(Qa (Qv 43) (Qh 55 [(Qn 36), (Qn 37), (Qn 40), (Qn 41), (Qn 42)]))]
def f46_c28 : MC := .reg false f46_r28
def f46_r29 : List MO := [
(Qa (Qv 44) (Qd (Qn 8))),
(Qa (Qv 7) (Qd (Qn 44)))]
def f46_c29 : MC := .reg false f46_r29
def f46_r30 : List MO := [
(Qa (Qv 45) (Qd (Qn 8))),
(Qa (Qv 46) (Qd (Qn 6))),
(Qa (Qv 47) (Qe Qt Go.BinOp.mul (Qo (Qp (Qq (Qr Qu 2)))) (Qn 46))),
(Qa (Qv 48) (Qe Qt Go.BinOp.add (Qn 45) (Qn 47))),
(Qa (Qv 8) (Qd (Qn 48)))]
def f46_c30 : MC := .reg false f46_r30
def f46_c31 : MC := .seq f46_c29 f46_c30
def f46_c32 : MC := .seq f46_c28 f46_c31
def f46_c33 : MC := .blk 5 f46_c32
def f46_c34 : MC := .seq f46_c27 f46_c33
def f46_c35 : MC := .loop f46_c34
def f46_c36 : MC := .blk 4 f46_c35
def f46_r37 : List MO := [
(Qa (Qv 49) (Qd (Qn 7))),
(Qa (Qv 50) (Qd (Qn 6))),
(Qa (Qv 51) (Qe Qt Go.BinOp.add (Qn 49) (Qn 50))),
(Qa (Qv 9) (Qd (Qn 51)))]
def f46_c37 : MC := .reg false f46_r37
def f46_r38 : List MO := [
(Qa (Qv 52) (Qd (Qn 9))),
(Qa (Qv 53) (Qd (Qn 1))),
(Qa (Qv 54) (Qe Qt Go.BinOp.lss (Qn 52) (Qn 53)))]
def f46_c38 : MC := .reg false f46_r38
def f46_r39 : List MO := [
(Qa (Qv 55) (Qd (Qn 0))),
(Qa (Qv 56) (Qd (Qn 7))),
(Qa (Qv 57) (Qd (Qn 9))),
(Qa (Qv 58) (Qd (Qn 1))),
(Qa (Qv 59) (Qd (Qn 2))),
(Qa (Qv 60) (Qh 55 [(Qn 55), (Qn 56), (Qn 57), (Qn 58), (Qn 59)]))]
def f46_c39 : MC := .reg false f46_r39
def f46_c40 : MC := MC.skip
def f46_c41 : MC := .cond (Qn 54) f46_c39 f46_c40
def f46_c42 : MC := .seq f46_c38 f46_c41
def f46_c43 : MC := .seq f46_c37 f46_c42
def f46_r44 : List MO := [
(Qa (Qv 61) (Qd (Qn 6))),
(Qa (Qv 62) (Qe Qt Go.BinOp.mul (Qn 61) (Qo (Qp (Qq (Qr Qu 2)))))),
(Qa (Qv 6) (Qd (Qn 62)))]
def f46_c44 : MC := .reg false f46_r44
def f46_c45 : MC := .seq f46_c43 f46_c44
def f46_c46 : MC := .seq f46_c36 f46_c45
def f46_c47 : MC := .seq f46_c22 f46_c46
def f46_c48 : MC := .blk 3 f46_c47
def f46_c49 : MC := .seq f46_c21 f46_c48
def f46_c50 : MC := .loop f46_c49
def f46_c51 : MC := .blk 2 f46_c50
def f46_c52 : MC := .seq f46_c16 f46_c51
def f46_c53 : MC := .seq f46_c15 f46_c52
def f46_c54 : MC := .seq f46_c1 f46_c53
def f46_c55 : MC := .seq f46_c0 f46_c54
noncomputable def f46_code : Code := (Go.Proofs.Tryd.f46.body).getD .skip
theorem f46_body : Go.Proofs.Tryd.f46.body = Qv f46_code := by kernel_rfl
theorem f46_tr : trC Go.Proofs.Tryd.prog [] f46_code = Qv f46_c55 := by kernel_rfl
theorem f46_rs : rsOf Go.Proofs.Tryd.prog Go.Proofs.Tryd.f46.results.toList = Qv [] := by kernel_rfl
theorem f46_nt : Go.Proofs.Tryd.f46.ntmps = 63 := by kernel_rfl
theorem f46_ok : callable Go.Proofs.Tryd.prog 46 = true := by kernel_rfl
theorem f46_in {gp : Heap} {args : List V} {res : V} (h : G ⟨Go.Proofs.Tryd.prog, gp, 0, [], fun r c => r = res ∧ c = [], false⟩ [.code f46_c55, .fin] ⟨args ++ List.replicate (63 - args.length) .un, []⟩) : Does Go.Proofs.Tryd.prog gp 46 args res :=
  does_intro f46_ok Go.Proofs.Tryd.func46 f46_body f46_tr f46_rs (by rw [f46_nt]; exact h)
theorem f46_tri {gp : Heap} {args : List V} {pre : List Ch} {R : V → List Ch → Prop} (h : G ⟨Go.Proofs.Tryd.prog, gp, pre.length, [], R, false⟩ [.code f46_c55, .fin] ⟨args ++ List.replicate (63 - args.length) .un, pre⟩) : Tri Go.Proofs.Tryd.prog gp 46 args pre R :=
  tri_intro Go.Proofs.Tryd.func46 f46_body f46_tr f46_rs (by rw [f46_nt]; exact h)
-- f47: no body
-- f48: no body
-- f49: no body
def f50_r0 : List MO := [
(Qa (Qv 2) (Qd (Qo (Qp (Qq (Qs false))))))]
def f50_c0 : MC := .reg false f50_r0
def f50_r1 : List MO := [
(Qa (Qv 3) (Qd (Qn 0))),
(Qa (Qv 4) (Qh 56 [(Qn 3), (Qo (Qp (Qq (Qs false))))])),
(Qa (Qv 5) (MOp.not (Qn 4))),
(Qa (Qv 2) (Qd (Qn 5)))]
def f50_c1 : MC := .reg false f50_r1
def f50_c2 : MC := MC.ret
def f50_c3 : MC := .seq f50_c1 f50_c2
def f50_c4 : MC := .seq f50_c0 f50_c3
noncomputable def f50_code : Code := (Go.Proofs.Tryd.f50.body).getD .skip
theorem f50_body : Go.Proofs.Tryd.f50.body = Qv f50_code := by kernel_rfl
theorem f50_tr : trC Go.Proofs.Tryd.prog [] f50_code = Qv f50_c4 := by kernel_rfl
theorem f50_rs : rsOf Go.Proofs.Tryd.prog Go.Proofs.Tryd.f50.results.toList = Qv [(RV.t 2)] := by kernel_rfl
theorem f50_nt : Go.Proofs.Tryd.f50.ntmps = 6 := by kernel_rfl
theorem f50_ok : callable Go.Proofs.Tryd.prog 50 = true := by kernel_rfl
theorem f50_in {gp : Heap} {args : List V} {res : V} (h : G ⟨Go.Proofs.Tryd.prog, gp, 0, [(RV.t 2)], fun r c => r = res ∧ c = [], false⟩ [.code f50_c4, .fin] ⟨args ++ List.replicate (6 - args.length) .un, []⟩) : Does Go.Proofs.Tryd.prog gp 50 args res :=
  does_intro f50_ok Go.Proofs.Tryd.func50 f50_body f50_tr f50_rs (by rw [f50_nt]; exact h)
theorem f50_tri {gp : Heap} {args : List V} {pre : List Ch} {R : V → List Ch → Prop} (h : G ⟨Go.Proofs.Tryd.prog, gp, pre.length, [(RV.t 2)], R, false⟩ [.code f50_c4, .fin] ⟨args ++ List.replicate (6 - args.length) .un, pre⟩) : Tri Go.Proofs.Tryd.prog gp 50 args pre R :=
  tri_intro Go.Proofs.Tryd.func50 f50_body f50_tr f50_rs (by rw [f50_nt]; exact h)
def f51_r0 : List MO := [
(Qa (Qv 1) (MOp.ibox (Qn 0))),
(Qa (Qv 2) (Qd (Qo (Qp (Qq (Qs false))))))]
def f51_c0 : MC := .reg false f51_r0
def f51_r1 : List MO := [
(Qa (Qv 3) (Qg 0 (Qn 1))),
(Qa (Qv 4) (Qf 1 false (Qn 3)))]
def f51_c1 : MC := .reg false f51_r1
def f51_r2 : List MO := [
(Qa (Qv 6) (Qe Qt Go.BinOp.eql (Qn 4) (Qo (Qp (Qq (Qr Qu 0)))))),
(Qa (Qv 5) (Qd (Qn 6)))]
def f51_c2 : MC := .reg false f51_r2
def f51_r3 : List MO := [
(Qa (Qv 7) (Qf 3 true (Qn 1))),
(Qa (Qv 8) (MOp.build [(Qr Qu 0), (Qr Qu 0), (D.str (ByteArray.mk #[]))] [])),
(Qa (Qv 9) (MOp.eqs false [Qt, Qt, Leaf.s] (Qn 7) (Qn 8))),
(Qa (Qv 2) (Qd (Qn 9)))]
def f51_c3 : MC := .reg false f51_r3
def f51_c4 : MC := MC.ret
def f51_c5 : MC := .seq f51_c3 f51_c4
def f51_r6 : List MO := [
(Qa (Qv 11) (Qe Qt Go.BinOp.eql (Qn 4) (Qo (Qp (Qq (Qr Qu 1)))))),
(Qa (Qv 10) (Qd (Qn 11)))]
def f51_c6 : MC := .reg false f51_r6
def f51_r7 : List MO := [
(Qa (Qv 12) (Qg 2 (Qn 1))),
(Qa (Qv 13) (Qf 1 false (Qn 12))),
(Qa (Qv 14) (Qe Leaf.s Go.BinOp.eql (Qn 13) (Qo (Qp (Qq (D.str (ByteArray.mk #[]))))))),
(Qa (Qv 15) (Qd (Qn 14))),
(Qb 15 true (Qv 16)),
(Qa (Qv 16) (Qg 1 (Qn 1))),
(Qb 15 true (Qv 17)),
(Qa (Qv 17) (Qf 1 false (Qn 16))),
(Qb 15 true (Qv 18)),
(Qa (Qv 18) (Qe Qt Go.BinOp.eql (Qn 17) (Qo (Qp (Qq (Qr Qu 0)))))),
(Qb 15 true (Qv 19)),
(Qa (Qv 19) (Qd (Qn 18))),
(Qb 19 false (Qv 20)),
(Qa (Qv 20) (Qg 1 (Qn 1))),
(Qb 19 false (Qv 21)),
(Qa (Qv 21) (Qf 1 false (Qn 20))),
(Qb 19 false (Qv 22)),
(Qa (Qv 22) (Qe Qt Go.BinOp.eql (Qn 21) (Qo (Qp (Qq (Qr Qu 1)))))),
(Qb 15 true (Qv 23)),
(Qa (Qv 23) (Qm (Qn 19) (Qo (Qp (Qq (Qs true)))) (Qn 22))),
(Qa (Qv 24) (Qm (Qn 15) (Qn 23) (Qo (Qp (Qq (Qs false)))))),
(Qa (Qv 2) (Qd (Qn 24)))]
def f51_c7 : MC := .reg false f51_r7
def f51_c8 : MC := MC.ret
def f51_c9 : MC := .seq f51_c7 f51_c8
def f51_r10 : List MO := [
(Qa (Qv 26) (Qe Qt Go.BinOp.eql (Qn 4) (Qo (Qp (Qq (Qr Qu 2)))))),
(Qa (Qv 25) (Qd (Qn 26)))]
def f51_c10 : MC := .reg false f51_r10
def f51_r11 : List MO := [
(Qa (Qv 27) (Qg 2 (Qn 1))),
(Qa (Qv 28) (Qf 1 false (Qn 27))),
(Qa (Qv 29) (Qe Leaf.s Go.BinOp.eql (Qn 28) (Qo (Qp (Qq (D.str (ByteArray.mk #[]))))))),
(Qa (Qv 30) (Qd (Qn 29))),
(Qb 30 true (Qv 31)),
(Qa (Qv 31) (Qg 1 (Qn 1))),
(Qb 30 true (Qv 32)),
(Qa (Qv 32) (Qf 1 false (Qn 31))),
(Qb 30 true (Qv 33)),
(Qa (Qv 33) (Qe Qt Go.BinOp.geq (Qn 32) (Qo (Qp (Qq (Qr Qu (-999999999999999))))))),
(Qa (Qv 34) (Qm (Qn 30) (Qn 33) (Qo (Qp (Qq (Qs false)))))),
(Qa (Qv 35) (Qd (Qn 34))),
(Qb 35 true (Qv 36)),
(Qa (Qv 36) (Qg 1 (Qn 1))),
(Qb 35 true (Qv 37)),
(Qa (Qv 37) (Qf 1 false (Qn 36))),
(Qb 35 true (Qv 38)),
(Qa (Qv 38) (Qe Qt Go.BinOp.leq (Qn 37) (Qo (Qp (Qq (Qr Qu 999999999999999)))))),
(Qa (Qv 39) (Qm (Qn 35) (Qn 38) (Qo (Qp (Qq (Qs false)))))),
(Qa (Qv 2) (Qd (Qn 39)))]
def f51_c11 : MC := .reg false f51_r11
def f51_c12 : MC := MC.ret
def f51_c13 : MC := .seq f51_c11 f51_c12
def f51_r14 : List MO := [
(Qa (Qv 41) (Qe Qt Go.BinOp.eql (Qn 4) (Qo (Qp (Qq (Qr Qu 3)))))),
(Qa (Qv 40) (Qd (Qn 41)))]
def f51_c14 : MC := .reg false f51_r14
def f51_r15 : List MO := [
(Qa (Qv 42) (Qg 1 (Qn 1))),
(Qa (Qv 43) (Qf 1 false (Qn 42))),
(Qa (Qv 44) (Qe Qt Go.BinOp.eql (Qn 43) (Qo (Qp (Qq (Qr Qu 0)))))),
(Qa (Qv 45) (Qd (Qn 44))),
(Qb 45 true (Qv 46)),
(Qa (Qv 46) (Qg 2 (Qn 1))),
(Qb 45 true (Qv 47)),
(Qa (Qv 47) (Qf 1 false (Qn 46))),
(Qb 45 true (Qv 48)),
(Qa (Qv 48) (Qh 57 [(Qn 47)])),
(Qa (Qv 49) (Qm (Qn 45) (Qn 48) (Qo (Qp (Qq (Qs false)))))),
(Qa (Qv 2) (Qd (Qn 49)))]
def f51_c15 : MC := .reg false f51_r15
def f51_c16 : MC := MC.ret
def f51_c17 : MC := .seq f51_c15 f51_c16
def f51_c18 : MC := MC.skip
def f51_c19 : MC := .cond (Qn 40) f51_c17 f51_c18
def f51_c20 : MC := .seq f51_c14 f51_c19
def f51_c21 : MC := .cond (Qn 25) f51_c13 f51_c20
def f51_c22 : MC := .seq f51_c10 f51_c21
def f51_c23 : MC := .cond (Qn 10) f51_c9 f51_c22
def f51_c24 : MC := .seq f51_c6 f51_c23
def f51_c25 : MC := .cond (Qn 5) f51_c5 f51_c24
def f51_c26 : MC := .seq f51_c2 f51_c25
def f51_c27 : MC := .blk 0 f51_c26
def f51_c28 : MC := .seq f51_c1 f51_c27
def f51_r29 : List MO := [
(Qa (Qv 2) (Qd (Qo (Qp (Qq (Qs false))))))]
def f51_c29 : MC := .reg false f51_r29
def f51_c30 : MC := MC.ret
def f51_c31 : MC := .seq f51_c29 f51_c30
def f51_c32 : MC := .seq f51_c28 f51_c31
def f51_c33 : MC := .seq f51_c0 f51_c32
noncomputable def f51_code : Code := (Go.Proofs.Tryd.f51.body).getD .skip
theorem f51_body : Go.Proofs.Tryd.f51.body = Qv f51_code := by kernel_rfl
theorem f51_tr : trC Go.Proofs.Tryd.prog [1] f51_code = Qv f51_c33 := by kernel_rfl
theorem f51_rs : rsOf Go.Proofs.Tryd.prog Go.Proofs.Tryd.f51.results.toList = Qv [(RV.t 2)] := by kernel_rfl
theorem f51_nt : Go.Proofs.Tryd.f51.ntmps = 50 := by kernel_rfl
theorem f51_ok : callable Go.Proofs.Tryd.prog 51 = true := by kernel_rfl
theorem f51_in {gp : Heap} {args : List V} {res : V} (h : G ⟨Go.Proofs.Tryd.prog, gp, 0, [(RV.t 2)], fun r c => r = res ∧ c = [], false⟩ [.code f51_c33, .fin] ⟨args ++ List.replicate (50 - args.length) .un, []⟩) : Does Go.Proofs.Tryd.prog gp 51 args res :=
  does_intro f51_ok Go.Proofs.Tryd.func51 f51_body f51_tr f51_rs (by rw [f51_nt]; exact h)
theorem f51_tri {gp : Heap} {args : List V} {pre : List Ch} {R : V → List Ch → Prop} (h : G ⟨Go.Proofs.Tryd.prog, gp, pre.length, [(RV.t 2)], R, false⟩ [.code f51_c33, .fin] ⟨args ++ List.replicate (50 - args.length) .un, pre⟩) : Tri Go.Proofs.Tryd.prog gp 51 args pre R :=
  tri_intro Go.Proofs.Tryd.func51 f51_body f51_tr f51_rs (by rw [f51_nt]; exact h)
def f52_r0 : List MO := [
(Qa (Qv 1) (MOp.ibox (Qn 0))),
(Qa (Qv 2) (Qd (Qo (Qp (Qq (Qs false))))))]
def f52_c0 : MC := .reg false f52_r0
def f52_r1 : List MO := [
(Qa (Qv 4) (MOp.mkF (Go.Fn.func 58) [(Qn 1)])),
(Qa (Qv 3) (Qd (Qn 4)))]
def f52_c1 : MC := .reg false f52_r1
def f52_r2 : List MO := [
(Qa (Qv 5) (Qg 0 (Qn 1))),
(Qa (Qv 6) (Qg 5 (Qn 5))),
(Qa (Qv 7) (Qf 1 false (Qn 6))),
(Qa (Qv 8) (Qd (Qn 3))),
(Qa (Qv 9) (Qh 59 [(Qn 7), (Qn 8)])),
(Qa (Qv 10) (MOp.not (Qn 9))),
(Qa (Qv 2) (Qd (Qn 10)))]
def f52_c2 : MC := .reg false f52_r2
def f52_c3 : MC := MC.ret
def f52_c4 : MC := .seq f52_c2 f52_c3
def f52_c5 : MC := .seq f52_c1 f52_c4
def f52_c6 : MC := .seq f52_c0 f52_c5
noncomputable def f52_code : Code := (Go.Proofs.Tryd.f52.body).getD .skip
theorem f52_body : Go.Proofs.Tryd.f52.body = Qv f52_code := by kernel_rfl
theorem f52_tr : trC Go.Proofs.Tryd.prog [1] f52_code = Qv f52_c6 := by kernel_rfl
theorem f52_rs : rsOf Go.Proofs.Tryd.prog Go.Proofs.Tryd.f52.results.toList = Qv [(RV.t 2)] := by kernel_rfl
theorem f52_nt : Go.Proofs.Tryd.f52.ntmps = 11 := by kernel_rfl
theorem f52_ok : callable Go.Proofs.Tryd.prog 52 = true := by kernel_rfl
theorem f52_in {gp : Heap} {args : List V} {res : V} (h : G ⟨Go.Proofs.Tryd.prog, gp, 0, [(RV.t 2)], fun r c => r = res ∧ c = [], false⟩ [.code f52_c6, .fin] ⟨args ++ List.replicate (11 - args.length) .un, []⟩) : Does Go.Proofs.Tryd.prog gp 52 args res :=
  does_intro f52_ok Go.Proofs.Tryd.func52 f52_body f52_tr f52_rs (by rw [f52_nt]; exact h)
theorem f52_tri {gp : Heap} {args : List V} {pre : List Ch} {R : V → List Ch → Prop} (h : G ⟨Go.Proofs.Tryd.prog, gp, pre.length, [(RV.t 2)], R, false⟩ [.code f52_c6, .fin] ⟨args ++ List.replicate (11 - args.length) .un, pre⟩) : Tri Go.Proofs.Tryd.prog gp 52 args pre R :=
  tri_intro Go.Proofs.Tryd.func52 f52_body f52_tr f52_rs (by rw [f52_nt]; exact h)
def f53_r0 : List MO := [
(Qa (Qv 1) (MOp.ibox (Qn 0))),
(Qa (Qv 2) (Qd (Qo (Qp (Qq (Qs false))))))]
def f53_c0 : MC := .reg false f53_r0
def f53_r1 : List MO := [
(Qa (Qv 3) (Qd (Qo (Qp (Qq (D.fn (Go.Fn.func 60) []))))))]
def f53_c1 : MC := .reg false f53_r1
def f53_r2 : List MO := [
(Qa (Qv 4) (Qg 0 (Qn 1))),
(Qa (Qv 5) (Qg 4 (Qn 4))),
(Qa (Qv 6) (Qf 1 false (Qn 5))),
(Qa (Qv 7) (Qd (Qn 3))),
(Qa (Qv 8) (Qh 61 [(Qn 6), (Qn 7)])),
(Qa (Qv 9) (MOp.not (Qn 8))),
(Qa (Qv 10) (Qd (Qn 9))),
(Qb 10 true (Qv 11)),
(Qa (Qv 11) (Qg 0 (Qn 1))),
(Qb 10 true (Qv 12)),
(Qa (Qv 12) (Qg 4 (Qn 11))),
(Qb 10 true (Qv 13)),
(Qa (Qv 13) (Qf 1 false (Qn 12))),
(Qb 10 true (Qv 14)),
(Qa (Qv 14) (Qh 62 [(Qn 13)])),
(Qb 10 true (Qv 15)),
(Qa (Qv 15) (MOp.not (Qn 14))),
(Qa (Qv 16) (Qm (Qn 10) (Qn 15) (Qo (Qp (Qq (Qs false)))))),
(Qa (Qv 2) (Qd (Qn 16)))]
def f53_c2 : MC := .reg false f53_r2
def f53_c3 : MC := MC.ret
def f53_c4 : MC := .seq f53_c2 f53_c3
def f53_c5 : MC := .seq f53_c1 f53_c4
def f53_c6 : MC := .seq f53_c0 f53_c5
noncomputable def f53_code : Code := (Go.Proofs.Tryd.f53.body).getD .skip
theorem f53_body : Go.Proofs.Tryd.f53.body = Qv f53_code := by kernel_rfl
theorem f53_tr : trC Go.Proofs.Tryd.prog [1] f53_code = Qv f53_c6 := by kernel_rfl
theorem f53_rs : rsOf Go.Proofs.Tryd.prog Go.Proofs.Tryd.f53.results.toList = Qv [(RV.t 2)] := by kernel_rfl
theorem f53_nt : Go.Proofs.Tryd.f53.ntmps = 17 := by kernel_rfl
theorem f53_ok : callable Go.Proofs.Tryd.prog 53 = true := by kernel_rfl
theorem f53_in {gp : Heap} {args : List V} {res : V} (h : G ⟨Go.Proofs.Tryd.prog, gp, 0, [(RV.t 2)], fun r c => r = res ∧ c = [], false⟩ [.code f53_c6, .fin] ⟨args ++ List.replicate (17 - args.length) .un, []⟩) : Does Go.Proofs.Tryd.prog gp 53 args res :=
  does_intro f53_ok Go.Proofs.Tryd.func53 f53_body f53_tr f53_rs (by rw [f53_nt]; exact h)
theorem f53_tri {gp : Heap} {args : List V} {pre : List Ch} {R : V → List Ch → Prop} (h : G ⟨Go.Proofs.Tryd.prog, gp, pre.length, [(RV.t 2)], R, false⟩ [.code f53_c6, .fin] ⟨args ++ List.replicate (17 - args.length) .un, pre⟩) : Tri Go.Proofs.Tryd.prog gp 53 args pre R :=
  tri_intro Go.Proofs.Tryd.func53 f53_body f53_tr f53_rs (by rw [f53_nt]; exact h)
def f54_r0 : List MO := [
(Qa (Qv 10) (Qd (Qn 1))),
(Qa (Qv 11) (Qe Qt Go.BinOp.add (Qn 10) (Qo (Qp (Qq (Qr Qu 1)))))),
(Qa (Qv 8) (Qd (Qn 11)))]
def f54_c0 : MC := .reg false f54_r0
def f54_r1 : List MO := [
(Qa (Qv 12) (Qd (Qn 8))),
(Qa (Qv 13) (Qd (Qn 2))),
(Qa (Qv 14) (Qe Qt Go.BinOp.lss (Qn 12) (Qn 13)))]
def f54_c1 : MC := .reg false f54_r1
def f54_c2 : MC := MC.skip
def f54_c3 : MC := (MC.exit 0)
def f54_c4 : MC := .cond (Qn 14) f54_c2 f54_c3
def f54_c5 : MC := .seq f54_c1 f54_c4
def f54_r6 : List MO := [
(Qa (Qv 17) (Qd (Qn 8))),
(Qa (Qv 9) (Qd (Qn 17)))]
def f54_c6 : MC := .reg false f54_r6
def f54_r7 : List MO := [
(Qa (Qv 18) (Qd (Qn 9))),
(Qa (Qv 19) (Qd (Qn 1))),
(Qa (Qv 20) (Qe Qt Go.BinOp.gtr (Qn 18) (Qn 19))),
(Qa (Qv 21) (Qd (Qn 20))),
(Qb 21 true (Qv 22)),
(Qa (Qv 22) (Qd (Qn 3))),
(Qb 21 true (Qv 23)),
(Qa (Qv 23) (Qd (Qn 0))),
(Qb 21 true (Qv 24)),
(Qa (Qv 24) (Qd (Qn 9))),
(Qb 21 true (Qv 25)),
(Qa (Qv 25) (Qj 4 (Qn 23) (Qn 24))),
(Qb 21 true (Qv 26)),
(Qa (Qv 26) (Qf 4 true (Qn 25))),
(Qb 21 true (Qv 27)),
(Qa (Qv 27) (Qd (Qn 0))),
(Qb 21 true (Qv 28)),
(Qa (Qv 28) (Qd (Qn 9))),
(Qb 21 true (Qv 29)),
(Qa (Qv 29) (Qe Qt Go.BinOp.sub (Qn 28) (Qo (Qp (Qq (Qr Qu 1)))))),
(Qb 21 true (Qv 30)),
(Qa (Qv 30) (Qj 4 (Qn 27) (Qn 29))),
(Qb 21 true (Qv 31)),
(Qa (Qv 31) (Qf 4 true (Qn 30))),
(Qb 21 true (Qv 32)),
(Qc (Qv 32) (MOp.callv (Qn 22) [(Qn 26), (Qn 31)])),
(Qb 21 true (Qv 33)),
(Qa (Qv 33) (Qe Qt Go.BinOp.lss (Qn 32) (Qo (Qp (Qq (Qr Qu 0)))))),
(Qa (Qv 34) (Qm (Qn 21) (Qn 33) (Qo (Qp (Qq (Qs false))))))]
def f54_c7 : MC := .reg true f54_r7
def f54_c8 : MC := MC.skip
def f54_c9 : MC := (MC.exit 2)
def f54_c10 : MC := .cond (Qn 34) f54_c8 f54_c9
def f54_c11 : MC := .seq f54_c7 f54_c10
def f54_r12 : List MO := [
(Qa (Qv 37) (Qd (Qn 0))),
(Qa (Qv 38) (Qd (Qn 9))),
(Qa (Qv 39) (Qd (Qn 0))),
(Qa (Qv 40) (Qd (Qn 9))),
(Qa (Qv 41) (Qe Qt Go.BinOp.sub (Qn 40) (Qo (Qp (Qq (Qr Qu 1)))))),
(Qa (Qv 42) (Qd (Qn 0))),
(Qa (Qv 43) (Qd (Qn 9))),
(Qa (Qv 44) (Qe Qt Go.BinOp.sub (Qn 43) (Qo (Qp (Qq (Qr Qu 1)))))),
(Qa (Qv 45) (Qj 4 (Qn 42) (Qn 44))),
(Qa (Qv 46) (Qf 4 true (Qn 45))),
(Qa (Qv 47) (Qd (Qn 0))),
(Qa (Qv 48) (Qd (Qn 9))),
(Qa (Qv 49) (Qj 4 (Qn 47) (Qn 48))),
(Qa (Qv 50) (Qf 4 true (Qn 49))),
(Qa (Qv 51) (Qj 4 (Qn 37) (Qn 38))),
(Qa none (Ql 4 (Qn 51) (Qn 46))),
(Qa (Qv 52) (Qj 4 (Qn 39) (Qn 41))),
(Qa none (Ql 4 (Qn 52) (Qn 50)))]
def f54_c12 : MC := .reg true f54_r12
def f54_c13 : MC := .blk 3 f54_c12
def f54_r14 : List MO := [
(Qa (Qv 35) (Qd (Qn 9))),
(Qa (Qv 36) (Qe Qt Go.BinOp.sub (Qn 35) (Qo (Qp (Qq (Qr Qu 1)))))),
(Qa (Qv 9) (Qd (Qn 36)))]
def f54_c14 : MC := .reg false f54_r14
def f54_c15 : MC := .seq f54_c13 f54_c14
def f54_c16 : MC := .seq f54_c11 f54_c15
def f54_c17 : MC := .loop f54_c16
def f54_c18 : MC := .blk 2 f54_c17
def f54_c19 : MC := .seq f54_c6 f54_c18
def f54_c20 : MC := .blk 1 f54_c19
def f54_r21 : List MO := [
(Qa (Qv 15) (Qd (Qn 8))),
(Qa (Qv 16) (Qe Qt Go.BinOp.add (Qn 15) (Qo (Qp (Qq (Qr Qu 1)))))),
(Qa (Qv 8) (Qd (Qn 16)))]
def f54_c21 : MC := .reg false f54_r21
def f54_c22 : MC := .seq f54_c20 f54_c21
def f54_c23 : MC := .seq f54_c5 f54_c22
def f54_c24 : MC := .loop f54_c23
def f54_c25 : MC := .blk 0 f54_c24
def f54_c26 : MC := .seq f54_c0 f54_c25
noncomputable def f54_code : Code := (Go.Proofs.Tryd.f54.body).getD .skip
theorem f54_body : Go.Proofs.Tryd.f54.body = Qv f54_code := by kernel_rfl
theorem f54_tr : trC Go.Proofs.Tryd.prog [] f54_code = Qv f54_c26 := by kernel_rfl
theorem f54_rs : rsOf Go.Proofs.Tryd.prog Go.Proofs.Tryd.f54.results.toList = Qv [] := by kernel_rfl
theorem f54_nt : Go.Proofs.Tryd.f54.ntmps = 53 := by kernel_rfl
theorem f54_ok : callable Go.Proofs.Tryd.prog 54 = true := by kernel_rfl
theorem f54_in {gp : Heap} {args : List V} {res : V} (h : G ⟨Go.Proofs.Tryd.prog, gp, 0, [], fun r c => r = res ∧ c = [], false⟩ [.code f54_c26, .fin] ⟨args ++ List.replicate (53 - args.length) .un, []⟩) : Does Go.Proofs.Tryd.prog gp 54 args res :=
  does_intro f54_ok Go.Proofs.Tryd.func54 f54_body f54_tr f54_rs (by rw [f54_nt]; exact h)
theorem f54_tri {gp : Heap} {args : List V} {pre : List Ch} {R : V → List Ch → Prop} (h : G ⟨Go.Proofs.Tryd.prog, gp, pre.length, [], R, false⟩ [.code f54_c26, .fin] ⟨args ++ List.replicate (53 - args.length) .un, pre⟩) : Tri Go.Proofs.Tryd.prog gp 54 args pre R :=
  tri_intro Go.Proofs.Tryd.func54 f54_body f54_tr f54_rs (by rw [f54_nt]; exact h)
def f56_r0 : List MO := [
(Qa (Qv 4) (Qd (Qo (Qp (Qq (Qs false))))))]
def f56_c0 : MC := .reg false f56_r0
def f56_r1 : List MO := [
(Qa (Qv 5) (Qd (Qn 0))),
(Qa (Qv 6) (Qd (Qn 1))),
(Qa (Qv 7) (Qh 64 [(Qn 5), (Qn 6)])),
(Qa (Qv 8) (Qe Qt Go.BinOp.geq (Qn 7) (Qo (Qp (Qq (Qr Qu 0)))))),
(Qa (Qv 4) (Qd (Qn 8)))]
def f56_c1 : MC := .reg false f56_r1
def f56_c2 : MC := MC.ret
def f56_c3 : MC := .seq f56_c1 f56_c2
def f56_c4 : MC := .seq f56_c0 f56_c3
noncomputable def f56_code : Code := (Go.Proofs.Tryd.f56.body).getD .skip
theorem f56_body : Go.Proofs.Tryd.f56.body = Qv f56_code := by kernel_rfl
theorem f56_tr : trC Go.Proofs.Tryd.prog [] f56_code = Qv f56_c4 := by kernel_rfl
theorem f56_rs : rsOf Go.Proofs.Tryd.prog Go.Proofs.Tryd.f56.results.toList = Qv [(RV.t 4)] := by kernel_rfl
theorem f56_nt : Go.Proofs.Tryd.f56.ntmps = 9 := by kernel_rfl
theorem f56_ok : callable Go.Proofs.Tryd.prog 56 = true := by kernel_rfl
theorem f56_in {gp : Heap} {args : List V} {res : V} (h : G ⟨Go.Proofs.Tryd.prog, gp, 0, [(RV.t 4)], fun r c => r = res ∧ c = [], false⟩ [.code f56_c4, .fin] ⟨args ++ List.replicate (9 - args.length) .un, []⟩) : Does Go.Proofs.Tryd.prog gp 56 args res :=
  does_intro f56_ok Go.Proofs.Tryd.func56 f56_body f56_tr f56_rs (by rw [f56_nt]; exact h)
theorem f56_tri {gp : Heap} {args : List V} {pre : List Ch} {R : V → List Ch → Prop} (h : G ⟨Go.Proofs.Tryd.prog, gp, pre.length, [(RV.t 4)], R, false⟩ [.code f56_c4, .fin] ⟨args ++ List.replicate (9 - args.length) .un, pre⟩) : Tri Go.Proofs.Tryd.prog gp 56 args pre R :=
  tri_intro Go.Proofs.Tryd.func56 f56_body f56_tr f56_rs (by rw [f56_nt]; exact h)
def f57_r0 : List MO := [
(Qa (Qv 2) (Qd (Qo (Qp (Qq (Qs false))))))]
def f57_c0 : MC := .reg false f57_r0
def f57_r1 : List MO := [
(Qa (Qv 7) (Qd (Qn 0))),
(Qa (Qv 8) (MOp.rng (Qn 7)))]
def f57_c1 : MC := .reg false f57_r1
def f57_r2 : List MO := [
(Qa (Qv 9) (MOp.nxt (Qn 8))),
(Qa (Qv 10) (Qi (Qn 9) 0))]
def f57_c2 : MC := .reg false f57_r2
def f57_c3 : MC := MC.skip
def f57_c4 : MC := (MC.exit 0)
def f57_c5 : MC := .cond (Qn 10) f57_c3 f57_c4
def f57_r6 : List MO := [
(Qa (Qv 11) (Qi (Qn 9) 1)),
(Qa (Qv 12) (Qi (Qn 9) 2)),
(Qa (Qv 3) (Qd (Qn 11))),
(Qa (Qv 4) (Qd (Qn 12)))]
def f57_c6 : MC := .reg false f57_r6
def f57_r7 : List MO := [
(Qa (Qv 14) (Qd (Qn 0))),
(Qa (Qv 15) (Qd (Qn 3))),
(Qa (Qv 16) (MOp.slcS (Qn 14) (Qv (Qn 15)) none)),
(Qa (Qv 17) (Qh 65 [(Qn 16)])),
(Qa (Qv 13) (Qd (Qn 17))),
(Qa (Qv 18) (Qi (Qn 13) 0)),
(Qa (Qv 19) (Qi (Qn 13) 1)),
(Qa (Qv 5) (Qd (Qn 18))),
(Qa (Qv 6) (Qd (Qn 19)))]
def f57_c7 : MC := .reg false f57_r7
def f57_r8 : List MO := [
(Qa (Qv 20) (Qd (Qn 4))),
(Qa (Qv 21) (Qe Qt Go.BinOp.eql (Qn 20) (Qo (Qp (Qq (Qr Go.IntKind.i32 65533)))))),
(Qa (Qv 22) (Qd (Qn 21))),
(Qb 22 true (Qv 23)),
(Qa (Qv 23) (Qd (Qn 6))),
(Qb 22 true (Qv 24)),
(Qa (Qv 24) (Qe Qt Go.BinOp.eql (Qn 23) (Qo (Qp (Qq (Qr Qu 1)))))),
(Qa (Qv 25) (Qm (Qn 22) (Qn 24) (Qo (Qp (Qq (Qs false))))))]
def f57_c8 : MC := .reg false f57_r8
def f57_r9 : List MO := [
(Qa (Qv 2) (Qd (Qo (Qp (Qq (Qs false))))))]
def f57_c9 : MC := .reg false f57_r9
def f57_c10 : MC := MC.ret
def f57_c11 : MC := .seq f57_c9 f57_c10
def f57_c12 : MC := MC.skip
def f57_c13 : MC := .cond (Qn 25) f57_c11 f57_c12
def f57_c14 : MC := .seq f57_c8 f57_c13
def f57_c15 : MC := .seq f57_c7 f57_c14
def f57_c16 : MC := .seq f57_c6 f57_c15
def f57_c17 : MC := .blk 1 f57_c16
def f57_c18 : MC := .seq f57_c5 f57_c17
def f57_c19 : MC := .seq f57_c2 f57_c18
def f57_c20 : MC := .loop f57_c19
def f57_c21 : MC := .blk 0 f57_c20
def f57_c22 : MC := .seq f57_c1 f57_c21
def f57_r23 : List MO := [
(Qa (Qv 2) (Qd (Qo (Qp (Qq (Qs true))))))]
def f57_c23 : MC := .reg false f57_r23
def f57_c24 : MC := MC.ret
def f57_c25 : MC := .seq f57_c23 f57_c24
def f57_c26 : MC := .seq f57_c22 f57_c25
def f57_c27 : MC := .seq f57_c0 f57_c26
noncomputable def f57_code : Code := (Go.Proofs.Tryd.f57.body).getD .skip
theorem f57_body : Go.Proofs.Tryd.f57.body = Qv f57_code := by kernel_rfl
theorem f57_tr : trC Go.Proofs.Tryd.prog [] f57_code = Qv f57_c27 := by kernel_rfl
theorem f57_rs : rsOf Go.Proofs.Tryd.prog Go.Proofs.Tryd.f57.results.toList = Qv [(RV.t 2)] := by kernel_rfl
theorem f57_nt : Go.Proofs.Tryd.f57.ntmps = 26 := by kernel_rfl
theorem f57_ok : callable Go.Proofs.Tryd.prog 57 = true := by kernel_rfl
theorem f57_in {gp : Heap} {args : List V} {res : V} (h : G ⟨Go.Proofs.Tryd.prog, gp, 0, [(RV.t 2)], fun r c => r = res ∧ c = [], false⟩ [.code f57_c27, .fin] ⟨args ++ List.replicate (26 - args.length) .un, []⟩) : Does Go.Proofs.Tryd.prog gp 57 args res :=
  does_intro f57_ok Go.Proofs.Tryd.func57 f57_body f57_tr f57_rs (by rw [f57_nt]; exact h)
theorem f57_tri {gp : Heap} {args : List V} {pre : List Ch} {R : V → List Ch → Prop} (h : G ⟨Go.Proofs.Tryd.prog, gp, pre.length, [(RV.t 2)], R, false⟩ [.code f57_c27, .fin] ⟨args ++ List.replicate (26 - args.length) .un, pre⟩) : Tri Go.Proofs.Tryd.prog gp 57 args pre R :=
  tri_intro Go.Proofs.Tryd.func57 f57_body f57_tr f57_rs (by rw [f57_nt]; exact h)
def f58_r0 : List MO := [
(Qa (Qv 3) (Qd (Qo (Qp (Qq (Qs false))))))]
def f58_c0 : MC := .reg false f58_r0
def f58_r1 : List MO := [
(Qa (Qv 4) (Qd (Qn 0))),
(Qa (Qv 5) (Qe Qt Go.BinOp.lss (Qn 4) (Qo (Qp (Qq (Qr Qu 0)))))),
(Qa (Qv 6) (Qd (Qn 5))),
(Qb 6 false (Qv 7)),
(Qa (Qv 7) (Qd (Qn 0))),
(Qb 6 false (Qv 8)),
(Qa (Qv 8) (Qg 6 (Qn 1))),
(Qb 6 false (Qv 9)),
(Qa (Qv 9) (Qf 1 false (Qn 8))),
(Qb 6 false (Qv 10)),
(Qa (Qv 10) (Qe Qt Go.BinOp.geq (Qn 7) (Qn 9))),
(Qa (Qv 11) (Qm (Qn 6) (Qo (Qp (Qq (Qs true)))) (Qn 10))),
(Qa (Qv 3) (Qd (Qn 11)))]
def f58_c1 : MC := .reg false f58_r1
def f58_c2 : MC := MC.ret
def f58_c3 : MC := .seq f58_c1 f58_c2
def f58_c4 : MC := .seq f58_c0 f58_c3
noncomputable def f58_code : Code := (Go.Proofs.Tryd.f58.body).getD .skip
theorem f58_body : Go.Proofs.Tryd.f58.body = Qv f58_code := by kernel_rfl
theorem f58_tr : trC Go.Proofs.Tryd.prog [] f58_code = Qv f58_c4 := by kernel_rfl
theorem f58_rs : rsOf Go.Proofs.Tryd.prog Go.Proofs.Tryd.f58.results.toList = Qv [(RV.t 3)] := by kernel_rfl
theorem f58_nt : Go.Proofs.Tryd.f58.ntmps = 12 := by kernel_rfl
theorem f58_ok : callable Go.Proofs.Tryd.prog 58 = true := by kernel_rfl
theorem f58_in {gp : Heap} {args : List V} {res : V} (h : G ⟨Go.Proofs.Tryd.prog, gp, 0, [(RV.t 3)], fun r c => r = res ∧ c = [], false⟩ [.code f58_c4, .fin] ⟨args ++ List.replicate (12 - args.length) .un, []⟩) : Does Go.Proofs.Tryd.prog gp 58 args res :=
  does_intro f58_ok Go.Proofs.Tryd.func58 f58_body f58_tr f58_rs (by rw [f58_nt]; exact h)
theorem f58_tri {gp : Heap} {args : List V} {pre : List Ch} {R : V → List Ch → Prop} (h : G ⟨Go.Proofs.Tryd.prog, gp, pre.length, [(RV.t 3)], R, false⟩ [.code f58_c4, .fin] ⟨args ++ List.replicate (12 - args.length) .un, pre⟩) : Tri Go.Proofs.Tryd.prog gp 58 args pre R :=
  tri_intro Go.Proofs.Tryd.func58 f58_body f58_tr f58_rs (by rw [f58_nt]; exact h)
def f59_r0 : List MO := [
(Qa (Qv 4) (Qd (Qo (Qp (Qq (Qs false))))))]
def f59_c0 : MC := .reg false f59_r0
def f59_r1 : List MO := [
(Qa (Qv 5) (Qd (Qn 0))),
(Qa (Qv 6) (Qd (Qn 1))),
(Qa (Qv 7) (Qh 66 [(Qn 5), (Qn 6)])),
(Qa (Qv 8) (Qe Qt Go.BinOp.geq (Qn 7) (Qo (Qp (Qq (Qr Qu 0)))))),
(Qa (Qv 4) (Qd (Qn 8)))]
def f59_c1 : MC := .reg false f59_r1
def f59_c2 : MC := MC.ret
def f59_c3 : MC := .seq f59_c1 f59_c2
def f59_c4 : MC := .seq f59_c0 f59_c3
noncomputable def f59_code : Code := (Go.Proofs.Tryd.f59.body).getD .skip
theorem f59_body : Go.Proofs.Tryd.f59.body = Qv f59_code := by kernel_rfl
theorem f59_tr : trC Go.Proofs.Tryd.prog [] f59_code = Qv f59_c4 := by kernel_rfl
theorem f59_rs : rsOf Go.Proofs.Tryd.prog Go.Proofs.Tryd.f59.results.toList = Qv [(RV.t 4)] := by kernel_rfl
theorem f59_nt : Go.Proofs.Tryd.f59.ntmps = 9 := by kernel_rfl
theorem f59_ok : callable Go.Proofs.Tryd.prog 59 = true := by kernel_rfl
theorem f59_in {gp : Heap} {args : List V} {res : V} (h : G ⟨Go.Proofs.Tryd.prog, gp, 0, [(RV.t 4)], fun r c => r = res ∧ c = [], false⟩ [.code f59_c4, .fin] ⟨args ++ List.replicate (9 - args.length) .un, []⟩) : Does Go.Proofs.Tryd.prog gp 59 args res :=
  does_intro f59_ok Go.Proofs.Tryd.func59 f59_body f59_tr f59_rs (by rw [f59_nt]; exact h)
theorem f59_tri {gp : Heap} {args : List V} {pre : List Ch} {R : V → List Ch → Prop} (h : G ⟨Go.Proofs.Tryd.prog, gp, pre.length, [(RV.t 4)], R, false⟩ [.code f59_c4, .fin] ⟨args ++ List.replicate (9 - args.length) .un, pre⟩) : Tri Go.Proofs.Tryd.prog gp 59 args pre R :=
  tri_intro Go.Proofs.Tryd.func59 f59_body f59_tr f59_rs (by rw [f59_nt]; exact h)
def f60_r0 : List MO := [
(Qa (Qv 1) (MOp.ibox (Qn 0))),
(Qa (Qv 2) (Qd (Qo (Qp (Qq (Qs false))))))]
def f60_c0 : MC := .reg false f60_r0
def f60_r1 : List MO := [
(Qa (Qv 3) (Qf 3 true (Qn 1))),
(Qa (Qv 4) (Qh 51 [(Qn 3)])),
(Qa (Qv 5) (MOp.not (Qn 4))),
(Qa (Qv 2) (Qd (Qn 5)))]
def f60_c1 : MC := .reg false f60_r1
def f60_c2 : MC := MC.ret
def f60_c3 : MC := .seq f60_c1 f60_c2
def f60_c4 : MC := .seq f60_c0 f60_c3
noncomputable def f60_code : Code := (Go.Proofs.Tryd.f60.body).getD .skip
theorem f60_body : Go.Proofs.Tryd.f60.body = Qv f60_code := by kernel_rfl
theorem f60_tr : trC Go.Proofs.Tryd.prog [1] f60_code = Qv f60_c4 := by kernel_rfl
theorem f60_rs : rsOf Go.Proofs.Tryd.prog Go.Proofs.Tryd.f60.results.toList = Qv [(RV.t 2)] := by kernel_rfl
theorem f60_nt : Go.Proofs.Tryd.f60.ntmps = 6 := by kernel_rfl
theorem f60_ok : callable Go.Proofs.Tryd.prog 60 = true := by kernel_rfl
theorem f60_in {gp : Heap} {args : List V} {res : V} (h : G ⟨Go.Proofs.Tryd.prog, gp, 0, [(RV.t 2)], fun r c => r = res ∧ c = [], false⟩ [.code f60_c4, .fin] ⟨args ++ List.replicate (6 - args.length) .un, []⟩) : Does Go.Proofs.Tryd.prog gp 60 args res :=
  does_intro f60_ok Go.Proofs.Tryd.func60 f60_body f60_tr f60_rs (by rw [f60_nt]; exact h)
theorem f60_tri {gp : Heap} {args : List V} {pre : List Ch} {R : V → List Ch → Prop} (h : G ⟨Go.Proofs.Tryd.prog, gp, pre.length, [(RV.t 2)], R, false⟩ [.code f60_c4, .fin] ⟨args ++ List.replicate (6 - args.length) .un, pre⟩) : Tri Go.Proofs.Tryd.prog gp 60 args pre R :=
  tri_intro Go.Proofs.Tryd.func60 f60_body f60_tr f60_rs (by rw [f60_nt]; exact h)
def f61_r0 : List MO := [
(Qa (Qv 4) (Qd (Qo (Qp (Qq (Qs false))))))]
def f61_c0 : MC := .reg false f61_r0
def f61_r1 : List MO := [
(Qa (Qv 5) (Qd (Qn 0))),
(Qa (Qv 6) (Qd (Qn 1))),
(Qa (Qv 7) (Qh 67 [(Qn 5), (Qn 6)])),
(Qa (Qv 8) (Qe Qt Go.BinOp.geq (Qn 7) (Qo (Qp (Qq (Qr Qu 0)))))),
(Qa (Qv 4) (Qd (Qn 8)))]
def f61_c1 : MC := .reg false f61_r1
def f61_c2 : MC := MC.ret
def f61_c3 : MC := .seq f61_c1 f61_c2
def f61_c4 : MC := .seq f61_c0 f61_c3
noncomputable def f61_code : Code := (Go.Proofs.Tryd.f61.body).getD .skip
theorem f61_body : Go.Proofs.Tryd.f61.body = Qv f61_code := by kernel_rfl
theorem f61_tr : trC Go.Proofs.Tryd.prog [] f61_code = Qv f61_c4 := by kernel_rfl
theorem f61_rs : rsOf Go.Proofs.Tryd.prog Go.Proofs.Tryd.f61.results.toList = Qv [(RV.t 4)] := by kernel_rfl
theorem f61_nt : Go.Proofs.Tryd.f61.ntmps = 9 := by kernel_rfl
theorem f61_ok : callable Go.Proofs.Tryd.prog 61 = true := by kernel_rfl
theorem f61_in {gp : Heap} {args : List V} {res : V} (h : G ⟨Go.Proofs.Tryd.prog, gp, 0, [(RV.t 4)], fun r c => r = res ∧ c = [], false⟩ [.code f61_c4, .fin] ⟨args ++ List.replicate (9 - args.length) .un, []⟩) : Does Go.Proofs.Tryd.prog gp 61 args res :=
  does_intro f61_ok Go.Proofs.Tryd.func61 f61_body f61_tr f61_rs (by rw [f61_nt]; exact h)
theorem f61_tri {gp : Heap} {args : List V} {pre : List Ch} {R : V → List Ch → Prop} (h : G ⟨Go.Proofs.Tryd.prog, gp, pre.length, [(RV.t 4)], R, false⟩ [.code f61_c4, .fin] ⟨args ++ List.replicate (9 - args.length) .un, pre⟩) : Tri Go.Proofs.Tryd.prog gp 61 args pre R :=
  tri_intro Go.Proofs.Tryd.func61 f61_body f61_tr f61_rs (by rw [f61_nt]; exact h)
def f62_r0 : List MO := [
(Qa (Qv 2) (Qd (Qo (Qp (Qq (Qs false))))))]
def f62_c0 : MC := .reg false f62_r0
def f62_r1 : List MO := [
(Qa (Qv 3) (MOp.alloc [(Qr Qu 0)])),
(Qa none (Ql 1 (Qn 3) (Qo (Qp (Qq (Qr Qu 0))))))]
def f62_c1 : MC := .reg false f62_r1
def f62_r2 : List MO := [
(Qa (Qv 4) (Qd (Qn 0))),
(Qa (Qv 5) (Qh 68 [(Qn 4)]))]
def f62_c2 : MC := .reg false f62_r2
def f62_c3 : MC := MC.skip
def f62_r4 : List MO := [
(Qa (Qv 7) (Qf 1 false (Qn 3))),
(Qa (Qv 8) (Qe Qt Go.BinOp.add (Qn 7) (Qo (Qp (Qq (Qr Qu 1)))))),
(Qa none (Ql 1 (Qn 3) (Qn 8)))]
def f62_c4 : MC := .reg false f62_r4
def f62_c5 : MC := .blk 1 f62_c4
def f62_c6 : MC := .rf (Qn 5) [6] f62_c3 f62_c5
def f62_c7 : MC := .blk 0 f62_c6
def f62_c8 : MC := .seq f62_c2 f62_c7
def f62_r9 : List MO := [
(Qa (Qv 9) (Qf 1 false (Qn 3))),
(Qa (Qv 10) (Qd (Qn 0))),
(Qa (Qv 11) (Qk Qt (Qn 10))),
(Qa (Qv 12) (Qe Qt Go.BinOp.lss (Qn 9) (Qn 11))),
(Qa (Qv 2) (Qd (Qn 12)))]
def f62_c9 : MC := .reg false f62_r9
def f62_c10 : MC := MC.ret
def f62_c11 : MC := .seq f62_c9 f62_c10
def f62_c12 : MC := .seq f62_c8 f62_c11
def f62_c13 : MC := .seq f62_c1 f62_c12
def f62_c14 : MC := .seq f62_c0 f62_c13
noncomputable def f62_code : Code := (Go.Proofs.Tryd.f62.body).getD .skip
theorem f62_body : Go.Proofs.Tryd.f62.body = Qv f62_code := by kernel_rfl
theorem f62_tr : trC Go.Proofs.Tryd.prog [] f62_code = Qv f62_c14 := by kernel_rfl
theorem f62_rs : rsOf Go.Proofs.Tryd.prog Go.Proofs.Tryd.f62.results.toList = Qv [(RV.t 2)] := by kernel_rfl
theorem f62_nt : Go.Proofs.Tryd.f62.ntmps = 13 := by kernel_rfl
theorem f62_ok : callable Go.Proofs.Tryd.prog 62 = true := by kernel_rfl
theorem f62_in {gp : Heap} {args : List V} {res : V} (h : G ⟨Go.Proofs.Tryd.prog, gp, 0, [(RV.t 2)], fun r c => r = res ∧ c = [], false⟩ [.code f62_c14, .fin] ⟨args ++ List.replicate (13 - args.length) .un, []⟩) : Does Go.Proofs.Tryd.prog gp 62 args res :=
  does_intro f62_ok Go.Proofs.Tryd.func62 f62_body f62_tr f62_rs (by rw [f62_nt]; exact h)
theorem f62_tri {gp : Heap} {args : List V} {pre : List Ch} {R : V → List Ch → Prop} (h : G ⟨Go.Proofs.Tryd.prog, gp, pre.length, [(RV.t 2)], R, false⟩ [.code f62_c14, .fin] ⟨args ++ List.replicate (13 - args.length) .un, pre⟩) : Tri Go.Proofs.Tryd.prog gp 62 args pre R :=
  tri_intro Go.Proofs.Tryd.func62 f62_body f62_tr f62_rs (by rw [f62_nt]; exact h)
def f64_r0 : List MO := [
(Qa (Qv 4) (Qd (Qo (Qp (Qq (Qr Qu 0))))))]
def f64_c0 : MC := .reg false f64_r0
def f64_r1 : List MO := [
(Qa (Qv 6) (Qd (Qn 0))),
(Qa (Qv 7) (Qk Qt (Qn 6))),
(Qa (Qv 8) (Qd (Qo (Qp (Qq (Qr Qu 0))))))]
def f64_c1 : MC := .reg false f64_r1
def f64_r2 : List MO := [
(Qa (Qv 9) (Qe Qt Go.BinOp.lss (Qn 8) (Qn 7)))]
def f64_c2 : MC := .reg false f64_r2
def f64_c3 : MC := MC.skip
def f64_c4 : MC := (MC.exit 0)
def f64_c5 : MC := .cond (Qn 9) f64_c3 f64_c4
def f64_r6 : List MO := [
(Qa (Qv 10) (Qd (Qn 8))),
(Qa (Qv 5) (Qd (Qn 10)))]
def f64_c6 : MC := .reg false f64_r6
def f64_r7 : List MO := [
(Qa (Qv 11) (Qd (Qn 1))),
(Qa (Qv 12) (Qd (Qn 0))),
(Qa (Qv 13) (Qd (Qn 5))),
(Qa (Qv 14) (Qj 1 (Qn 12) (Qn 13))),
(Qa (Qv 15) (Qf 1 false (Qn 14))),
(Qa (Qv 16) (Qe Leaf.b Go.BinOp.eql (Qn 11) (Qn 15)))]
def f64_c7 : MC := .reg false f64_r7
def f64_r8 : List MO := [
(Qa (Qv 17) (Qd (Qn 5))),
(Qa (Qv 4) (Qd (Qn 17)))]
def f64_c8 : MC := .reg false f64_r8
def f64_c9 : MC := MC.ret
def f64_c10 : MC := .seq f64_c8 f64_c9
def f64_c11 : MC := MC.skip
def f64_c12 : MC := .cond (Qn 16) f64_c10 f64_c11
def f64_c13 : MC := .seq f64_c7 f64_c12
def f64_c14 : MC := .seq f64_c6 f64_c13
def f64_c15 : MC := .blk 1 f64_c14
def f64_r16 : List MO := [
(Qa (Qv 18) (Qe Qt Go.BinOp.add (Qn 8) (Qo (Qp (Qq (Qr Qu 1)))))),
(Qa (Qv 8) (Qd (Qn 18)))]
def f64_c16 : MC := .reg false f64_r16
def f64_c17 : MC := .seq f64_c15 f64_c16
def f64_c18 : MC := .seq f64_c5 f64_c17
def f64_c19 : MC := .seq f64_c2 f64_c18
def f64_c20 : MC := .loop f64_c19
def f64_c21 : MC := .blk 0 f64_c20
def f64_c22 : MC := .seq f64_c1 f64_c21
def f64_r23 : List MO := [
(Qa (Qv 4) (Qd (Qo (Qp (Qq (Qr Qu (-1)))))))]
def f64_c23 : MC := .reg false f64_r23
def f64_c24 : MC := MC.ret
def f64_c25 : MC := .seq f64_c23 f64_c24
def f64_c26 : MC := .seq f64_c22 f64_c25
def f64_c27 : MC := .seq f64_c0 f64_c26
noncomputable def f64_code : Code := (Go.Proofs.Tryd.f64.body).getD .skip
theorem f64_body : Go.Proofs.Tryd.f64.body = Qv f64_code := by kernel_rfl
theorem f64_tr : trC Go.Proofs.Tryd.prog [] f64_code = Qv f64_c27 := by kernel_rfl
theorem f64_rs : rsOf Go.Proofs.Tryd.prog Go.Proofs.Tryd.f64.results.toList = Qv [(RV.t 4)] := by kernel_rfl
theorem f64_nt : Go.Proofs.Tryd.f64.ntmps = 19 := by kernel_rfl
theorem f64_ok : callable Go.Proofs.Tryd.prog 64 = true := by kernel_rfl
theorem f64_in {gp : Heap} {args : List V} {res : V} (h : G ⟨Go.Proofs.Tryd.prog, gp, 0, [(RV.t 4)], fun r c => r = res ∧ c = [], false⟩ [.code f64_c27, .fin] ⟨args ++ List.replicate (19 - args.length) .un, []⟩) : Does Go.Proofs.Tryd.prog gp 64 args res :=
  does_intro f64_ok Go.Proofs.Tryd.func64 f64_body f64_tr f64_rs (by rw [f64_nt]; exact h)
theorem f64_tri {gp : Heap} {args : List V} {pre : List Ch} {R : V → List Ch → Prop} (h : G ⟨Go.Proofs.Tryd.prog, gp, pre.length, [(RV.t 4)], R, false⟩ [.code f64_c27, .fin] ⟨args ++ List.replicate (19 - args.length) .un, pre⟩) : Tri Go.Proofs.Tryd.prog gp 64 args pre R :=
  tri_intro Go.Proofs.Tryd.func64 f64_body f64_tr f64_rs (by rw [f64_nt]; exact h)
def f66_r0 : List MO := [
(Qa (Qv 4) (Qd (Qo (Qp (Qq (Qr Qu 0))))))]
def f66_c0 : MC := .reg false f66_r0
def f66_r1 : List MO := [
(Qa (Qv 6) (Qd (Qn 0))),
(Qa (Qv 7) (Qk Qt (Qn 6))),
(Qa (Qv 8) (Qd (Qo (Qp (Qq (Qr Qu 0))))))]
def f66_c1 : MC := .reg false f66_r1
def f66_r2 : List MO := [
(Qa (Qv 9) (Qe Qt Go.BinOp.lss (Qn 8) (Qn 7)))]
def f66_c2 : MC := .reg false f66_r2
def f66_c3 : MC := MC.skip
def f66_c4 : MC := (MC.exit 0)
def f66_c5 : MC := .cond (Qn 9) f66_c3 f66_c4
def f66_r6 : List MO := [
(Qa (Qv 10) (Qd (Qn 8))),
(Qa (Qv 5) (Qd (Qn 10)))]
def f66_c6 : MC := .reg false f66_r6
def f66_r7 : List MO := [
(Qa (Qv 11) (Qd (Qn 1))),
(Qa (Qv 12) (Qd (Qn 0))),
(Qa (Qv 13) (Qd (Qn 5))),
(Qa (Qv 14) (Qj 1 (Qn 12) (Qn 13))),
(Qa (Qv 15) (Qf 1 false (Qn 14))),
(Qa (Qv 16) (MOp.callv (Qn 11) [(Qn 15)]))]
def f66_c7 : MC := .reg false f66_r7
def f66_r8 : List MO := [
(Qa (Qv 17) (Qd (Qn 5))),
(Qa (Qv 4) (Qd (Qn 17)))]
def f66_c8 : MC := .reg false f66_r8
def f66_c9 : MC := MC.ret
def f66_c10 : MC := .seq f66_c8 f66_c9
def f66_c11 : MC := MC.skip
def f66_c12 : MC := .cond (Qn 16) f66_c10 f66_c11
def f66_c13 : MC := .seq f66_c7 f66_c12
def f66_c14 : MC := .seq f66_c6 f66_c13
def f66_c15 : MC := .blk 1 f66_c14
def f66_r16 : List MO := [
(Qa (Qv 18) (Qe Qt Go.BinOp.add (Qn 8) (Qo (Qp (Qq (Qr Qu 1)))))),
(Qa (Qv 8) (Qd (Qn 18)))]
def f66_c16 : MC := .reg false f66_r16
def f66_c17 : MC := .seq f66_c15 f66_c16
def f66_c18 : MC := .seq f66_c5 f66_c17
def f66_c19 : MC := .seq f66_c2 f66_c18
def f66_c20 : MC := .loop f66_c19
def f66_c21 : MC := .blk 0 f66_c20
def f66_c22 : MC := .seq f66_c1 f66_c21
def f66_r23 : List MO := [
(Qa (Qv 4) (Qd (Qo (Qp (Qq (Qr Qu (-1)))))))]
def f66_c23 : MC := .reg false f66_r23
def f66_c24 : MC := MC.ret
def f66_c25 : MC := .seq f66_c23 f66_c24
def f66_c26 : MC := .seq f66_c22 f66_c25
def f66_c27 : MC := .seq f66_c0 f66_c26
noncomputable def f66_code : Code := (Go.Proofs.Tryd.f66.body).getD .skip
theorem f66_body : Go.Proofs.Tryd.f66.body = Qv f66_code := by kernel_rfl
theorem f66_tr : trC Go.Proofs.Tryd.prog [] f66_code = Qv f66_c27 := by kernel_rfl
theorem f66_rs : rsOf Go.Proofs.Tryd.prog Go.Proofs.Tryd.f66.results.toList = Qv [(RV.t 4)] := by kernel_rfl
theorem f66_nt : Go.Proofs.Tryd.f66.ntmps = 19 := by kernel_rfl
theorem f66_ok : callable Go.Proofs.Tryd.prog 66 = true := by kernel_rfl
theorem f66_in {gp : Heap} {args : List V} {res : V} (h : G ⟨Go.Proofs.Tryd.prog, gp, 0, [(RV.t 4)], fun r c => r = res ∧ c = [], false⟩ [.code f66_c27, .fin] ⟨args ++ List.replicate (19 - args.length) .un, []⟩) : Does Go.Proofs.Tryd.prog gp 66 args res :=
  does_intro f66_ok Go.Proofs.Tryd.func66 f66_body f66_tr f66_rs (by rw [f66_nt]; exact h)
theorem f66_tri {gp : Heap} {args : List V} {pre : List Ch} {R : V → List Ch → Prop} (h : G ⟨Go.Proofs.Tryd.prog, gp, pre.length, [(RV.t 4)], R, false⟩ [.code f66_c27, .fin] ⟨args ++ List.replicate (19 - args.length) .un, pre⟩) : Tri Go.Proofs.Tryd.prog gp 66 args pre R :=
  tri_intro Go.Proofs.Tryd.func66 f66_body f66_tr f66_rs (by rw [f66_nt]; exact h)
def f67_r0 : List MO := [
(Qa (Qv 4) (Qd (Qo (Qp (Qq (Qr Qu 0))))))]
def f67_c0 : MC := .reg false f67_r0
def f67_r1 : List MO := [
(Qa (Qv 6) (Qd (Qn 0))),
(Qa (Qv 7) (Qk Qt (Qn 6))),
(Qa (Qv 8) (Qd (Qo (Qp (Qq (Qr Qu 0))))))]
def f67_c1 : MC := .reg false f67_r1
def f67_r2 : List MO := [
(Qa (Qv 9) (Qe Qt Go.BinOp.lss (Qn 8) (Qn 7)))]
def f67_c2 : MC := .reg false f67_r2
def f67_c3 : MC := MC.skip
def f67_c4 : MC := (MC.exit 0)
def f67_c5 : MC := .cond (Qn 9) f67_c3 f67_c4
def f67_r6 : List MO := [
(Qa (Qv 10) (Qd (Qn 8))),
(Qa (Qv 5) (Qd (Qn 10)))]
def f67_c6 : MC := .reg false f67_r6
def f67_r7 : List MO := [
(Qa (Qv 11) (Qd (Qn 1))),
(Qa (Qv 12) (Qd (Qn 0))),
(Qa (Qv 13) (Qd (Qn 5))),
(Qa (Qv 14) (Qj 3 (Qn 12) (Qn 13))),
(Qa (Qv 15) (Qf 3 true (Qn 14))),
(Qa (Qv 16) (MOp.callv (Qn 11) [(Qn 15)]))]
def f67_c7 : MC := .reg false f67_r7
def f67_r8 : List MO := [
(Qa (Qv 17) (Qd (Qn 5))),
(Qa (Qv 4) (Qd (Qn 17)))]
def f67_c8 : MC := .reg false f67_r8
def f67_c9 : MC := MC.ret
def f67_c10 : MC := .seq f67_c8 f67_c9
def f67_c11 : MC := MC.skip
def f67_c12 : MC := .cond (Qn 16) f67_c10 f67_c11
def f67_c13 : MC := .seq f67_c7 f67_c12
def f67_c14 : MC := .seq f67_c6 f67_c13
def f67_c15 : MC := .blk 1 f67_c14
def f67_r16 : List MO := [
(Qa (Qv 18) (Qe Qt Go.BinOp.add (Qn 8) (Qo (Qp (Qq (Qr Qu 1)))))),
(Qa (Qv 8) (Qd (Qn 18)))]
def f67_c16 : MC := .reg false f67_r16
def f67_c17 : MC := .seq f67_c15 f67_c16
def f67_c18 : MC := .seq f67_c5 f67_c17
def f67_c19 : MC := .seq f67_c2 f67_c18
def f67_c20 : MC := .loop f67_c19
def f67_c21 : MC := .blk 0 f67_c20
def f67_c22 : MC := .seq f67_c1 f67_c21
def f67_r23 : List MO := [
(Qa (Qv 4) (Qd (Qo (Qp (Qq (Qr Qu (-1)))))))]
def f67_c23 : MC := .reg false f67_r23
def f67_c24 : MC := MC.ret
def f67_c25 : MC := .seq f67_c23 f67_c24
def f67_c26 : MC := .seq f67_c22 f67_c25
def f67_c27 : MC := .seq f67_c0 f67_c26
noncomputable def f67_code : Code := (Go.Proofs.Tryd.f67.body).getD .skip
theorem f67_body : Go.Proofs.Tryd.f67.body = Qv f67_code := by kernel_rfl
theorem f67_tr : trC Go.Proofs.Tryd.prog [] f67_code = Qv f67_c27 := by kernel_rfl
theorem f67_rs : rsOf Go.Proofs.Tryd.prog Go.Proofs.Tryd.f67.results.toList = Qv [(RV.t 4)] := by kernel_rfl
theorem f67_nt : Go.Proofs.Tryd.f67.ntmps = 19 := by kernel_rfl
theorem f67_ok : callable Go.Proofs.Tryd.prog 67 = true := by kernel_rfl
theorem f67_in {gp : Heap} {args : List V} {res : V} (h : G ⟨Go.Proofs.Tryd.prog, gp, 0, [(RV.t 4)], fun r c => r = res ∧ c = [], false⟩ [.code f67_c27, .fin] ⟨args ++ List.replicate (19 - args.length) .un, []⟩) : Does Go.Proofs.Tryd.prog gp 67 args res :=
  does_intro f67_ok Go.Proofs.Tryd.func67 f67_body f67_tr f67_rs (by rw [f67_nt]; exact h)
theorem f67_tri {gp : Heap} {args : List V} {pre : List Ch} {R : V → List Ch → Prop} (h : G ⟨Go.Proofs.Tryd.prog, gp, pre.length, [(RV.t 4)], R, false⟩ [.code f67_c27, .fin] ⟨args ++ List.replicate (19 - args.length) .un, pre⟩) : Tri Go.Proofs.Tryd.prog gp 67 args pre R :=
  tri_intro Go.Proofs.Tryd.func67 f67_body f67_tr f67_rs (by rw [f67_nt]; exact h)
def f68_r0 : List MO := [
(Qa (Qv 1) (MOp.ibox (Qn 0))),
(Qa (Qv 2) (Qd (Qo (Qp (Qq D.nilF)))))]
def f68_c0 : MC := .reg false f68_r0
def f68_r1 : List MO := [
(Qa (Qv 3) (MOp.mkF (Go.Fn.func 71) [(Qn 1)])),
(Qa (Qv 2) (Qd (Qn 3)))]
def f68_c1 : MC := .reg false f68_r1
def f68_c2 : MC := MC.ret
def f68_c3 : MC := .seq f68_c1 f68_c2
def f68_c4 : MC := .seq f68_c0 f68_c3
noncomputable def f68_code : Code := (Go.Proofs.Tryd.f68.body).getD .skip
theorem f68_body : Go.Proofs.Tryd.f68.body = Qv f68_code := by kernel_rfl
theorem f68_tr : trC Go.Proofs.Tryd.prog [1] f68_code = Qv f68_c4 := by kernel_rfl
theorem f68_rs : rsOf Go.Proofs.Tryd.prog Go.Proofs.Tryd.f68.results.toList = Qv [(RV.t 2)] := by kernel_rfl
theorem f68_nt : Go.Proofs.Tryd.f68.ntmps = 4 := by kernel_rfl
theorem f68_ok : callable Go.Proofs.Tryd.prog 68 = true := by kernel_rfl
theorem f68_in {gp : Heap} {args : List V} {res : V} (h : G ⟨Go.Proofs.Tryd.prog, gp, 0, [(RV.t 2)], fun r c => r = res ∧ c = [], false⟩ [.code f68_c4, .fin] ⟨args ++ List.replicate (4 - args.length) .un, []⟩) : Does Go.Proofs.Tryd.prog gp 68 args res :=
  does_intro f68_ok Go.Proofs.Tryd.func68 f68_body f68_tr f68_rs (by rw [f68_nt]; exact h)
theorem f68_tri {gp : Heap} {args : List V} {pre : List Ch} {R : V → List Ch → Prop} (h : G ⟨Go.Proofs.Tryd.prog, gp, pre.length, [(RV.t 2)], R, false⟩ [.code f68_c4, .fin] ⟨args ++ List.replicate (4 - args.length) .un, pre⟩) : Tri Go.Proofs.Tryd.prog gp 68 args pre R :=
  tri_intro Go.Proofs.Tryd.func68 f68_body f68_tr f68_rs (by rw [f68_nt]; exact h)
def f71_r0 : List MO := [
(Qa (Qv 6) MOp.mkM),
(Qa (Qv 3) (Qd (Qn 6)))]
def f71_c0 : MC := .reg false f71_r0
def f71_c1 : MC := MC.skip
def f71_r2 : List MO := [
(Qa (Qv 7) (Qf 1 false (Qn 1))),
(Qa (Qv 8) (Qk Qt (Qn 7))),
(Qa (Qv 9) (Qd (Qo (Qp (Qq (Qr Qu 0))))))]
def f71_c2 : MC := .reg false f71_r2
def f71_r3 : List MO := [
(Qa (Qv 10) (Qe Qt Go.BinOp.lss (Qn 9) (Qn 8)))]
def f71_c3 : MC := .reg false f71_r3
def f71_c4 : MC := MC.skip
def f71_c5 : MC := (MC.exit 0)
def f71_c6 : MC := .cond (Qn 10) f71_c4 f71_c5
def f71_r7 : List MO := [
(Qa (Qv 11) (Qj 3 (Qn 7) (Qn 9))),
(Qa (Qv 12) (Qf 3 true (Qn 11))),
(Qa (Qv 5) (MOp.alloc [(Qr Qu 0), (Qr Qu 0), (D.str (ByteArray.mk #[]))])),
(Qa none (Ql 3 (Qn 5) (Qn 12)))]
def f71_c7 : MC := .reg false f71_r7
def f71_r8 : List MO := [
(Qa (Qv 13) (Qd (Qn 3))),
(Qa (Qv 14) (Qf 3 true (Qn 5))),
(Qa (Qv 15) (MOp.lkp false (Qp (Qq (Qs false))) true [Qt, Qt, Leaf.s] (Qn 13) (Qn 14))),
(Qa (Qv 16) (Qd (Qn 15))),
(Qb 16 false (Qv 17)),
(Qa (Qv 17) (Qd (Qn 0))),
(Qb 16 false (Qv 18)),
(Qa (Qv 18) (Qf 3 true (Qn 5))),
(Qb 16 false (Qv 19)),
(Qa (Qv 19) (MOp.callv (Qn 17) [(Qn 18)])),
(Qb 16 false (Qv 20)),
(Qa (Qv 20) (MOp.not (Qn 19))),
(Qa (Qv 21) (Qm (Qn 16) (Qo (Qp (Qq (Qs true)))) (Qn 20)))]
def f71_c8 : MC := .reg false f71_r8
def f71_c9 : MC := (MC.exit 0)
def f71_c10 : MC := MC.skip
def f71_c11 : MC := .cond (Qn 21) f71_c9 f71_c10
def f71_c12 : MC := .seq f71_c8 f71_c11
def f71_r13 : List MO := [
(Qa (Qv 22) (Qd (Qn 3))),
(Qa (Qv 23) (Qf 3 true (Qn 5))),
(Qa none (MOp.mupd true [Qt, Qt, Leaf.s] (Qn 22) (Qn 23) (Qo (Qp (Qq (Qs true))))))]
def f71_c13 : MC := .reg false f71_r13
def f71_c14 : MC := .seq f71_c12 f71_c13
def f71_c15 : MC := .seq f71_c7 f71_c14
def f71_c16 : MC := .blk 1 f71_c15
def f71_r17 : List MO := [
(Qa (Qv 24) (Qe Qt Go.BinOp.add (Qn 9) (Qo (Qp (Qq (Qr Qu 1)))))),
(Qa (Qv 9) (Qd (Qn 24)))]
def f71_c17 : MC := .reg false f71_r17
def f71_c18 : MC := .seq f71_c16 f71_c17
def f71_c19 : MC := .seq f71_c6 f71_c18
def f71_c20 : MC := .seq f71_c3 f71_c19
def f71_c21 : MC := .loop f71_c20
def f71_c22 : MC := .blk 0 f71_c21
def f71_c23 : MC := .seq f71_c2 f71_c22
def f71_c24 : MC := .seq f71_c1 f71_c23
def f71_c25 : MC := .seq f71_c0 f71_c24
def f71_c26 : MC := .scope f71_c25
noncomputable def f71_code : Code := (Go.Proofs.Tryd.f71.body).getD .skip
theorem f71_body : Go.Proofs.Tryd.f71.body = Qv f71_code := by kernel_rfl
theorem f71_tr : trC Go.Proofs.Tryd.prog [] f71_code = Qv f71_c26 := by kernel_rfl
theorem f71_rs : rsOf Go.Proofs.Tryd.prog Go.Proofs.Tryd.f71.results.toList = Qv [] := by kernel_rfl
theorem f71_nt : Go.Proofs.Tryd.f71.ntmps = 25 := by kernel_rfl
theorem f71_ok : callable Go.Proofs.Tryd.prog 71 = true := by kernel_rfl
theorem f71_in {gp : Heap} {args : List V} {res : V} (h : G ⟨Go.Proofs.Tryd.prog, gp, 0, [], fun r c => r = res ∧ c = [], false⟩ [.code f71_c26, .fin] ⟨args ++ List.replicate (25 - args.length) .un, []⟩) : Does Go.Proofs.Tryd.prog gp 71 args res :=
  does_intro f71_ok Go.Proofs.Tryd.func71 f71_body f71_tr f71_rs (by rw [f71_nt]; exact h)
theorem f71_tri {gp : Heap} {args : List V} {pre : List Ch} {R : V → List Ch → Prop} (h : G ⟨Go.Proofs.Tryd.prog, gp, pre.length, [], R, false⟩ [.code f71_c26, .fin] ⟨args ++ List.replicate (25 - args.length) .un, pre⟩) : Tri Go.Proofs.Tryd.prog gp 71 args pre R :=
  tri_intro Go.Proofs.Tryd.func71 f71_body f71_tr f71_rs (by rw [f71_nt]; exact h)
-- f72: no body
-- f73: no body
-- f74: no body
-- f75: no body
-- f76: no body
-- f77: no body
-- f78: no body
-- f79: no body
-- f80: no body
-- f81: no body
-- f82: no body
-- f83: no body
-- f84: no body
-- f85: no body
-- f86: no body
-- f87: no body
-- f88: no body
-- f89: no body
-- f90: no body
-- f91: no body
-- f92: no body
-- f93: no body
-- f94: no body
-- f95: no body
-- f96: no body
-- f97: no body
-- f98: no body
-- f99: no body
-- f100: no body
-- f101: no body
-- f102: no body
-- f103: no body
-- f104: no body
-- f105: no body
-- f106: no body
-- f107: no body
-- f108: no body
-- f109: no body
-- f110: trC none
end Go.Fw.L07
