/- Small codes. -/
import Derived.Test.YtldjkoidjigjpaaGreatDoorFd
import Derived.Test.YtldjkoidjigjpaaGreatDoorProg
set_option linter.all false
namespace Go.Fw.L07
open Go Go.Fw
open Go.Proofs.Tryz renaming prog -> QP
open Go.Proofs.Tryz (f100 f102 f103 f104 f105 f106 f107 f125 f126 f127 f128 f130 f131 f132 f133 f14 f147 f148 f149 f15 f150 f152 f154 f155 f16 f164 f165 f166 f167 f168 f169 f17 f170 f177 f179 f18 f180 f181 f19 f196 f20 f21 f22 f24 f25 f26 f27 f61 f62 f63 f64 f65 f66 f67 f68 f69 f70 f71 f72 f73 f98 f99 func100 func102 func103 func104 func105 func106 func107 func125 func126 func127 func128 func130 func131 func132 func133 func14 func147 func148 func149 func15 func150 func152 func154 func155 func16 func164 func165 func166 func167 func168 func169 func17 func170 func177 func179 func18 func180 func181 func19 func196 func20 func21 func22 func24 func25 func26 func27 func61 func62 func63 func64 func65 func66 func67 func68 func69 func70 func71 func72 func73 func98 func99)
open Go.Fw.MO renaming op -> Qa,chk -> Qb,opx -> Qc
open Go.Fw.MOp renaming mv -> Qd,bin -> Qe,load -> Qf,fad -> Qg,call -> Qh,ext -> Qi,iad -> Qj,len -> Qk,store -> Ql,pick -> Qm
open Go.Fw.Opd renaming t -> Qn,c -> Qo
open Go.Fw.V renaming one -> Qp
open Go.Fw.A renaming d -> Qq
open Go.Fw.D renaming int -> Qr,bool -> Qs
open Go.Fw.Leaf renaming i -> Qt
open Go.IntKind renaming i64 -> Qu
open Option renaming some -> Qv
def f14_r0:List MO:=[Qa (Qv 1) (MOp.ibox (Qn 0)),Qa (Qv 2) (MOp.alloc [(Qr Qu 0),(D.sl [])])]
def f14_c0:MC:=.reg false f14_r0
def f14_r1:List MO:=[Qa (Qv 9) (Qg 0 (Qn 1)),Qa (Qv 10) (Qf 1 false (Qn 9)),Qa (Qv 11) (MOp.build [(Qr Qu 0),(D.sl [])] [(0,(1,(Qn 10)))]),Qa (Qv 3) (MOp.alloc [(Qr Qu 0),(D.sl [])]),Qa none (Ql 2 (Qn 3) (Qn 11))]
def f14_c1:MC:=.reg false f14_r1
def f14_r2:List MO:=[Qa (Qv 4) (Qd (Qo (Qp (Qq (Qr Qu 0)))))]
def f14_c2:MC:=.reg false f14_r2
def f14_r3:List MO:=[Qa (Qv 12) (Qd (Qn 4)),Qa (Qv 13) (Qg 1 (Qn 1)),Qa (Qv 14) (Qf 1 false (Qn 13)),Qa (Qv 15) (Qk Qt (Qn 14)),Qa (Qv 16) (Qe Qt Go.BinOp.lss (Qn 12) (Qn 15)),Qa (Qv 17) (Qd (Qn 16)),Qb 17 true (Qv 18),Qa (Qv 18) (Qd (Qn 4)),Qb 17 true (Qv 19),Qa (Qv 19) (Qe Qt Go.BinOp.lss (Qn 18) (Qo (Qp (Qq (Qr Qu 201))))),Qa (Qv 20) (Qm (Qn 17) (Qn 19) (Qo (Qp (Qq (Qs false)))))]
def f14_c3:MC:=.reg false f14_r3
def f14_c4:MC:=MC.skip
def f14_c5:MC:=(MC.exit 0)
def f14_c6:MC:=.cond (Qn 20) f14_c4 f14_c5
def f14_c7:MC:=.seq f14_c3 f14_c6
def f14_r8:List MO:=[Qa (Qv 23) (Qg 1 (Qn 1)),Qa (Qv 24) (Qf 1 false (Qn 23)),Qa (Qv 25) (Qd (Qn 4)),Qa (Qv 26) (Qj 6 (Qn 24) (Qn 25)),Qa (Qv 27) (Qf 6 true (Qn 26)),Qa (Qv 5) (MOp.alloc [(Qr Qu 0),(Qr Qu 0),(Qr Qu 0),(D.str (ByteArray.mk #[])),(D.sl []),(D.sl [])]),Qa none (Ql 6 (Qn 5) (Qn 27))]
def f14_c8:MC:=.reg false f14_r8
def f14_r9:List MO:=[Qa (Qv 28) (Qg 0 (Qn 5)),Qa (Qv 29) (Qf 1 false (Qn 28)),Qa (Qv 30) (Qg 1 (Qn 5)),Qa (Qv 31) (Qf 3 true (Qn 30)),Qa (Qv 32) (Qh 15 [(Qn 31)]),Qa (Qv 33) (MOp.build [(Qr Qu 0),(Qr Qu 0),(Qr Qu 0),(D.str (ByteArray.mk #[])),(D.sl []),(D.sl [])] [(0,(1,(Qn 29))),(1,(3,(Qn 32)))]),Qa (Qv 6) (MOp.alloc [(Qr Qu 0),(Qr Qu 0),(Qr Qu 0),(D.str (ByteArray.mk #[])),(D.sl []),(D.sl [])]),Qa none (Ql 6 (Qn 6) (Qn 33))]
def f14_c9:MC:=.reg true f14_r9
def f14_r10:List MO:=[Qa (Qv 7) (Qd (Qo (Qp (Qq (Qr Qu 0)))))]
def f14_c10:MC:=.reg false f14_r10
def f14_r11:List MO:=[Qa (Qv 34) (Qd (Qn 7)),Qa (Qv 35) (Qg 4 (Qn 5)),Qa (Qv 36) (Qf 1 false (Qn 35)),Qa (Qv 37) (Qk Qt (Qn 36)),Qa (Qv 38) (Qe Qt Go.BinOp.lss (Qn 34) (Qn 37)),Qa (Qv 39) (Qd (Qn 38)),Qb 39 true (Qv 40),Qa (Qv 40) (Qd (Qn 7)),Qb 39 true (Qv 41),Qa (Qv 41) (Qe Qt Go.BinOp.lss (Qn 40) (Qo (Qp (Qq (Qr Qu 12))))),Qa (Qv 42) (Qm (Qn 39) (Qn 41) (Qo (Qp (Qq (Qs false)))))]
def f14_c11:MC:=.reg false f14_r11
def f14_c12:MC:=MC.skip
def f14_c13:MC:=(MC.exit 2)
def f14_c14:MC:=.cond (Qn 42) f14_c12 f14_c13
def f14_c15:MC:=.seq f14_c11 f14_c14
def f14_r16:List MO:=[Qa (Qv 45) (Qg 4 (Qn 6)),Qa (Qv 46) (Qf 1 false (Qn 45)),Qa (Qv 47) (Qg 4 (Qn 5)),Qa (Qv 48) (Qf 1 false (Qn 47)),Qa (Qv 49) (Qd (Qn 7)),Qa (Qv 50) (Qj 3 (Qn 48) (Qn 49)),Qa (Qv 51) (Qf 3 true (Qn 50)),Qa (Qv 52) (Qh 15 [(Qn 51)]),Qa (Qv 53) (MOp.bslice 3 [(Qr Qu 0),(Qr Qu 0),(D.str (ByteArray.mk #[]))] 1 [(0,(Qn 52))]),Qa (Qv 54) (MOp.app 26 3 32 (Qn 46) (Qn 53)),Qa (Qv 55) (Qg 4 (Qn 6)),Qa none (Ql 1 (Qn 55) (Qn 54))]
def f14_c16:MC:=.reg true f14_r16
def f14_c17:MC:=.blk 3 f14_c16
def f14_r18:List MO:=[Qa (Qv 43) (Qd (Qn 7)),Qa (Qv 44) (Qe Qt Go.BinOp.add (Qn 43) (Qo (Qp (Qq (Qr Qu 1))))),Qa (Qv 7) (Qd (Qn 44))]
def f14_c18:MC:=.reg false f14_r18
def f14_c19:MC:=.seq f14_c17 f14_c18
def f14_c20:MC:=.seq f14_c15 f14_c19
def f14_c21:MC:=.loop f14_c20
def f14_c22:MC:=.blk 2 f14_c21
def f14_c23:MC:=.seq f14_c10 f14_c22
def f14_r24:List MO:=[Qa (Qv 8) (Qd (Qo (Qp (Qq (Qr Qu 0)))))]
def f14_c24:MC:=.reg false f14_r24
def f14_r25:List MO:=[Qa (Qv 56) (Qd (Qn 8)),Qa (Qv 57) (Qg 5 (Qn 5)),Qa (Qv 58) (Qf 1 false (Qn 57)),Qa (Qv 59) (Qk Qt (Qn 58)),Qa (Qv 60) (Qe Qt Go.BinOp.lss (Qn 56) (Qn 59)),Qa (Qv 61) (Qd (Qn 60)),Qb 61 true (Qv 62),Qa (Qv 62) (Qd (Qn 8)),Qb 61 true (Qv 63),Qa (Qv 63) (Qe Qt Go.BinOp.lss (Qn 62) (Qo (Qp (Qq (Qr Qu 12))))),Qa (Qv 64) (Qm (Qn 61) (Qn 63) (Qo (Qp (Qq (Qs false)))))]
def f14_c25:MC:=.reg false f14_r25
def f14_c26:MC:=MC.skip
def f14_c27:MC:=(MC.exit 4)
def f14_c28:MC:=.cond (Qn 64) f14_c26 f14_c27
def f14_c29:MC:=.seq f14_c25 f14_c28
def f14_r30:List MO:=[Qa (Qv 67) (Qg 5 (Qn 6)),Qa (Qv 68) (Qf 1 false (Qn 67)),Qa (Qv 69) (Qg 5 (Qn 5)),Qa (Qv 70) (Qf 1 false (Qn 69)),Qa (Qv 71) (Qd (Qn 8)),Qa (Qv 72) (Qj 1 (Qn 70) (Qn 71)),Qa (Qv 73) (Qf 1 false (Qn 72)),Qa (Qv 74) (MOp.bslice 1 [(Qr Qu 0)] 1 [(0,(Qn 73))]),Qa (Qv 75) (MOp.app 3 1 8 (Qn 68) (Qn 74)),Qa (Qv 76) (Qg 5 (Qn 6)),Qa none (Ql 1 (Qn 76) (Qn 75))]
def f14_c30:MC:=.reg true f14_r30
def f14_c31:MC:=.blk 5 f14_c30
def f14_r32:List MO:=[Qa (Qv 65) (Qd (Qn 8)),Qa (Qv 66) (Qe Qt Go.BinOp.add (Qn 65) (Qo (Qp (Qq (Qr Qu 1))))),Qa (Qv 8) (Qd (Qn 66))]
def f14_c32:MC:=.reg false f14_r32
def f14_c33:MC:=.seq f14_c31 f14_c32
def f14_c34:MC:=.seq f14_c29 f14_c33
def f14_c35:MC:=.loop f14_c34
def f14_c36:MC:=.blk 4 f14_c35
def f14_c37:MC:=.seq f14_c24 f14_c36
def f14_r38:List MO:=[Qa (Qv 77) (Qg 1 (Qn 3)),Qa (Qv 78) (Qf 1 false (Qn 77)),Qa (Qv 79) (Qf 6 true (Qn 6)),Qa (Qv 80) (MOp.bslice 6 [(Qr Qu 0),(Qr Qu 0),(Qr Qu 0),(D.str (ByteArray.mk #[])),(D.sl []),(D.sl [])] 1 [(0,(Qn 79))]),Qa (Qv 81) (MOp.app 66 6 88 (Qn 78) (Qn 80)),Qa (Qv 82) (Qg 1 (Qn 3)),Qa none (Ql 1 (Qn 82) (Qn 81))]
def f14_c38:MC:=.reg false f14_r38
def f14_c39:MC:=.seq f14_c37 f14_c38
def f14_c40:MC:=.seq f14_c23 f14_c39
def f14_c41:MC:=.seq f14_c9 f14_c40
def f14_c42:MC:=.seq f14_c8 f14_c41
def f14_c43:MC:=.blk 1 f14_c42
def f14_r44:List MO:=[Qa (Qv 21) (Qd (Qn 4)),Qa (Qv 22) (Qe Qt Go.BinOp.add (Qn 21) (Qo (Qp (Qq (Qr Qu 1))))),Qa (Qv 4) (Qd (Qn 22))]
def f14_c44:MC:=.reg false f14_r44
def f14_c45:MC:=.seq f14_c43 f14_c44
def f14_c46:MC:=.seq f14_c7 f14_c45
def f14_c47:MC:=.loop f14_c46
def f14_c48:MC:=.blk 0 f14_c47
def f14_c49:MC:=.seq f14_c2 f14_c48
def f14_r50:List MO:=[Qa (Qv 83) (Qf 2 true (Qn 3)),Qa none (Ql 2 (Qn 2) (Qn 83))]
def f14_c50:MC:=.reg false f14_r50
def f14_c51:MC:=MC.ret
def f14_c52:MC:=.seq f14_c50 f14_c51
def f14_c53:MC:=.seq f14_c49 f14_c52
def f14_c54:MC:=.seq f14_c1 f14_c53
def f14_c55:MC:=.seq f14_c0 f14_c54
attribute [go_sem] f14_r0 f14_r1 f14_r2 f14_r3 f14_r8 f14_r9 f14_r10 f14_r11 f14_r16 f14_r18 f14_r24 f14_r25 f14_r30 f14_r32 f14_r38 f14_r44 f14_r50
noncomputable def f14_code : Code := (f14.body).getD .skip
theorem f14_body : f14.body = Qv f14_code := by kernel_rfl
theorem f14_tr : trC QP [1] f14_code = Qv f14_c55 := by kernel_rfl
theorem f14_rs : rsOf QP f14.results.toList = Qv [(RV.cell 2 2 true)] := by kernel_rfl
theorem f14_nt : f14.ntmps = 84 := by kernel_rfl
theorem f14_ok : callable QP 14 = true := by kernel_rfl
theorem f14_in {gp : Heap} {args : List V} {res : V} (h : G ⟨QP,gp,0,[(RV.cell 2 2 true)],fun r c => r = res /\ c = [],false⟩ [.code f14_c55,.fin] ⟨args ++ List.replicate (84 - args.length) .un,[]⟩) : Does QP gp 14 args res :=
 does_intro f14_ok func14 f14_body f14_tr f14_rs (by rw [f14_nt]; exact h)
def f15_r0:List MO:=[Qa (Qv 1) (MOp.ibox (Qn 0)),Qa (Qv 2) (MOp.alloc [(Qr Qu 0),(Qr Qu 0),(D.str (ByteArray.mk #[]))])]
def f15_c0:MC:=.reg false f15_r0
def f15_r1:List MO:=[Qa (Qv 3) (Qg 0 (Qn 1)),Qa (Qv 4) (Qf 1 false (Qn 3)),Qa (Qv 5) (Qg 1 (Qn 1)),Qa (Qv 6) (Qf 1 false (Qn 5)),Qa (Qv 7) (Qg 2 (Qn 1)),Qa (Qv 8) (Qf 1 false (Qn 7)),Qa (Qv 9) (Qh 61 [(Qn 8)]),Qa (Qv 10) (MOp.build [(Qr Qu 0),(Qr Qu 0),(D.str (ByteArray.mk #[]))] [(0,(1,(Qn 4))),(1,(1,(Qn 6))),(2,(1,(Qn 9)))]),Qa none (Ql 3 (Qn 2) (Qn 10))]
def f15_c1:MC:=.reg true f15_r1
def f15_c2:MC:=MC.ret
def f15_c3:MC:=.seq f15_c1 f15_c2
def f15_c4:MC:=.seq f15_c0 f15_c3
attribute [go_sem] f15_r0 f15_r1
noncomputable def f15_code : Code := (f15.body).getD .skip
theorem f15_body : f15.body = Qv f15_code := by kernel_rfl
theorem f15_tr : trC QP [1] f15_code = Qv f15_c4 := by kernel_rfl
theorem f15_rs : rsOf QP f15.results.toList = Qv [(RV.cell 2 3 true)] := by kernel_rfl
theorem f15_nt : f15.ntmps = 11 := by kernel_rfl
theorem f15_ok : callable QP 15 = true := by kernel_rfl
theorem f15_in {gp : Heap} {args : List V} {res : V} (h : G ⟨QP,gp,0,[(RV.cell 2 3 true)],fun r c => r = res /\ c = [],false⟩ [.code f15_c4,.fin] ⟨args ++ List.replicate (11 - args.length) .un,[]⟩) : Does QP gp 15 args res :=
 does_intro f15_ok func15 f15_body f15_tr f15_rs (by rw [f15_nt]; exact h)
def f16_r0:List MO:=[Qa (Qv 1) (MOp.ibox (Qn 0)),Qa (Qv 2) (Qd (Qo (Qp (Qq (Qr Qu 0))))),Qa (Qv 3) (Qd (Qo (Qp (Qq (Qr Qu 0)))))]
def f16_c0:MC:=.reg false f16_r0
def f16_r1:List MO:=[Qa (Qv 4) (Qf 2 true (Qn 1)),Qa (Qv 5) (Qh 63 [(Qn 4)]),Qa (Qv 6) (Qh 62 [(Qn 5)]),Qa (Qv 7) (Qi (Qn 6) 0),Qa (Qv 8) (Qi (Qn 6) 1),Qa (Qv 2) (Qd (Qn 7)),Qa (Qv 3) (Qd (Qn 8))]
def f16_c1:MC:=.reg false f16_r1
def f16_c2:MC:=MC.ret
def f16_c3:MC:=.seq f16_c1 f16_c2
def f16_c4:MC:=.seq f16_c0 f16_c3
attribute [go_sem] f16_r0 f16_r1
noncomputable def f16_code : Code := (f16.body).getD .skip
theorem f16_body : f16.body = Qv f16_code := by kernel_rfl
theorem f16_tr : trC QP [1] f16_code = Qv f16_c4 := by kernel_rfl
theorem f16_rs : rsOf QP f16.results.toList = Qv [(RV.t 2),(RV.t 3)] := by kernel_rfl
theorem f16_nt : f16.ntmps = 9 := by kernel_rfl
theorem f16_ok : callable QP 16 = true := by kernel_rfl
theorem f16_in {gp : Heap} {args : List V} {res : V} (h : G ⟨QP,gp,0,[(RV.t 2),(RV.t 3)],fun r c => r = res /\ c = [],false⟩ [.code f16_c4,.fin] ⟨args ++ List.replicate (9 - args.length) .un,[]⟩) : Does QP gp 16 args res :=
 does_intro f16_ok func16 f16_body f16_tr f16_rs (by rw [f16_nt]; exact h)
def f17_r0:List MO:=[Qa (Qv 1) (MOp.ibox (Qn 0)),Qa (Qv 2) (Qd (Qo (Qp (Qq (Qr Qu 0))))),Qa (Qv 3) (Qd (Qo (Qp (Qq (Qr Qu 0)))))]
def f17_c0:MC:=.reg false f17_r0
def f17_r1:List MO:=[Qa (Qv 5) (Qg 1 (Qn 1)),Qa (Qv 6) (Qf 1 false (Qn 5)),Qa (Qv 7) (Qk Qt (Qn 6)),Qa (Qv 8) (Qe Qt Go.BinOp.gtr (Qn 7) (Qo (Qp (Qq (Qr Qu 200)))))]
def f17_c1:MC:=.reg false f17_r1
def f17_r2:List MO:=[Qa (Qv 2) (Qd (Qo (Qp (Qq (Qr Qu 0))))),Qa (Qv 3) (Qd (Qo (Qp (Qq (Qr Qu 71)))))]
def f17_c2:MC:=.reg false f17_r2
def f17_c3:MC:=MC.ret
def f17_c4:MC:=.seq f17_c2 f17_c3
def f17_c5:MC:=MC.skip
def f17_c6:MC:=.cond (Qn 8) f17_c4 f17_c5
def f17_c7:MC:=.seq f17_c1 f17_c6
def f17_r8:List MO:=[Qa (Qv 9) (Qg 0 (Qn 1)),Qa (Qv 10) (Qf 1 false (Qn 9)),Qa (Qv 11) (Qe Qt Go.BinOp.lss (Qn 10) (Qo (Qp (Qq (Qr Qu 0))))),Qa (Qv 12) (Qd (Qn 11)),Qb 12 false (Qv 13),Qa (Qv 13) (Qg 0 (Qn 1)),Qb 12 false (Qv 14),Qa (Qv 14) (Qf 1 false (Qn 13)),Qb 12 false (Qv 15),Qa (Qv 15) (Qg 1 (Qn 1)),Qb 12 false (Qv 16),Qa (Qv 16) (Qf 1 false (Qn 15)),Qb 12 false (Qv 17),Qa (Qv 17) (Qk Qt (Qn 16)),Qb 12 false (Qv 18),Qa (Qv 18) (Qe Qt Go.BinOp.geq (Qn 14) (Qn 17)),Qa (Qv 19) (Qm (Qn 12) (Qo (Qp (Qq (Qs true)))) (Qn 18))]
def f17_c8:MC:=.reg false f17_r8
def f17_r9:List MO:=[Qa (Qv 2) (Qd (Qo (Qp (Qq (Qr Qu (-1)))))),Qa (Qv 3) (Qd (Qo (Qp (Qq (Qr Qu 70)))))]
def f17_c9:MC:=.reg false f17_r9
def f17_c10:MC:=MC.ret
def f17_c11:MC:=.seq f17_c9 f17_c10
def f17_c12:MC:=MC.skip
def f17_c13:MC:=.cond (Qn 19) f17_c11 f17_c12
def f17_c14:MC:=.seq f17_c8 f17_c13
def f17_r15:List MO:=[Qa (Qv 4) (Qd (Qo (Qp (Qq (Qr Qu 0)))))]
def f17_c15:MC:=.reg false f17_r15
def f17_r16:List MO:=[Qa (Qv 20) (Qd (Qn 4)),Qa (Qv 21) (Qg 1 (Qn 1)),Qa (Qv 22) (Qf 1 false (Qn 21)),Qa (Qv 23) (Qk Qt (Qn 22)),Qa (Qv 24) (Qe Qt Go.BinOp.lss (Qn 20) (Qn 23))]
def f17_c16:MC:=.reg false f17_r16
def f17_c17:MC:=MC.skip
def f17_c18:MC:=(MC.exit 0)
def f17_c19:MC:=.cond (Qn 24) f17_c17 f17_c18
def f17_c20:MC:=.seq f17_c16 f17_c19
def f17_r21:List MO:=[Qa (Qv 27) (Qg 1 (Qn 1)),Qa (Qv 28) (Qf 1 false (Qn 27)),Qa (Qv 29) (Qd (Qn 4)),Qa (Qv 30) (Qj 6 (Qn 28) (Qn 29)),Qa (Qv 31) (Qf 6 true (Qn 30)),Qa (Qv 32) (Qg 1 (Qn 1)),Qa (Qv 33) (Qf 1 false (Qn 32)),Qa (Qv 34) (Qk Qt (Qn 33)),Qc (Qv 35) (Qh 64 [(Qn 31),(Qn 34)]),Qa (Qv 36) (MOp.not (Qn 35))]
def f17_c21:MC:=.reg true f17_r21
def f17_r22:List MO:=[Qa (Qv 37) (Qd (Qn 4)),Qa (Qv 2) (Qd (Qn 37)),Qa (Qv 3) (Qd (Qo (Qp (Qq (Qr Qu 70)))))]
def f17_c22:MC:=.reg false f17_r22
def f17_c23:MC:=MC.ret
def f17_c24:MC:=.seq f17_c22 f17_c23
def f17_c25:MC:=MC.skip
def f17_c26:MC:=.cond (Qn 36) f17_c24 f17_c25
def f17_c27:MC:=.seq f17_c21 f17_c26
def f17_c28:MC:=.blk 1 f17_c27
def f17_r29:List MO:=[Qa (Qv 25) (Qd (Qn 4)),Qa (Qv 26) (Qe Qt Go.BinOp.add (Qn 25) (Qo (Qp (Qq (Qr Qu 1))))),Qa (Qv 4) (Qd (Qn 26))]
def f17_c29:MC:=.reg false f17_r29
def f17_c30:MC:=.seq f17_c28 f17_c29
def f17_c31:MC:=.seq f17_c20 f17_c30
def f17_c32:MC:=.loop f17_c31
def f17_c33:MC:=.blk 0 f17_c32
def f17_c34:MC:=.seq f17_c15 f17_c33
def f17_r35:List MO:=[Qa (Qv 2) (Qd (Qo (Qp (Qq (Qr Qu 0))))),Qa (Qv 3) (Qd (Qo (Qp (Qq (Qr Qu 0)))))]
def f17_c35:MC:=.reg false f17_r35
def f17_c36:MC:=MC.ret
def f17_c37:MC:=.seq f17_c35 f17_c36
def f17_c38:MC:=.seq f17_c34 f17_c37
def f17_c39:MC:=.seq f17_c14 f17_c38
def f17_c40:MC:=.seq f17_c7 f17_c39
def f17_c41:MC:=.seq f17_c0 f17_c40
attribute [go_sem] f17_r0 f17_r1 f17_r2 f17_r8 f17_r9 f17_r15 f17_r16 f17_r21 f17_r22 f17_r29 f17_r35
noncomputable def f17_code : Code := (f17.body).getD .skip
theorem f17_body : f17.body = Qv f17_code := by kernel_rfl
theorem f17_tr : trC QP [1] f17_code = Qv f17_c41 := by kernel_rfl
theorem f17_rs : rsOf QP f17.results.toList = Qv [(RV.t 2),(RV.t 3)] := by kernel_rfl
theorem f17_nt : f17.ntmps = 38 := by kernel_rfl
theorem f17_ok : callable QP 17 = true := by kernel_rfl
theorem f17_in {gp : Heap} {args : List V} {res : V} (h : G ⟨QP,gp,0,[(RV.t 2),(RV.t 3)],fun r c => r = res /\ c = [],false⟩ [.code f17_c41,.fin] ⟨args ++ List.replicate (38 - args.length) .un,[]⟩) : Does QP gp 17 args res :=
 does_intro f17_ok func17 f17_body f17_tr f17_rs (by rw [f17_nt]; exact h)
def f18_r0:List MO:=[Qa (Qv 2) (MOp.ibox (Qn 0)),Qa (Qv 4) (Qd (Qo (Qp A.nil))),Qa (Qv 5) (Qd (Qo (Qp (Qq (Qr Qu 0)))))]
def f18_c0:MC:=.reg false f18_r0
def f18_r1:List MO:=[Qa (Qv 12) (Qf 2 true (Qn 2)),Qa (Qv 13) (Qd (Qn 1)),Qa (Qv 14) (Qh 65 [(Qn 12),(Qn 13)]),Qa (Qv 11) (Qd (Qn 14)),Qa (Qv 15) (Qi (Qn 11) 0),Qa (Qv 16) (Qi (Qn 11) 1),Qa (Qv 6) (MOp.alloc [(Qr Qu 0),(Qr Qu 0),(Qr Qu 0),(D.str (ByteArray.mk #[])),(D.sl []),(D.sl []),(Qr Qu 0)]),Qa none (Ql 7 (Qn 6) (Qn 15)),Qa (Qv 7) (Qd (Qn 16))]
def f18_c1:MC:=.reg false f18_r1
def f18_r2:List MO:=[Qa (Qv 17) (Qd (Qn 7)),Qa (Qv 18) (Qe Qt Go.BinOp.eql (Qn 17) (Qo (Qp (Qq (Qr Qu 0))))),Qa (Qv 19) (Qd (Qn 18)),Qb 19 true (Qv 20),Qa (Qv 20) (Qg 0 (Qn 6)),Qb 19 true (Qv 21),Qa (Qv 21) (Qg 0 (Qn 20)),Qb 19 true (Qv 22),Qa (Qv 22) (Qf 1 false (Qn 21)),Qb 19 true (Qv 23),Qa (Qv 23) (Qe Qt Go.BinOp.eql (Qn 22) (Qo (Qp (Qq (Qr Qu 1))))),Qa (Qv 24) (Qm (Qn 19) (Qn 23) (Qo (Qp (Qq (Qs false)))))]
def f18_c2:MC:=.reg false f18_r2
def f18_r3:List MO:=[Qa (Qv 25) (Qg 0 (Qn 6)),Qa (Qv 26) (Qg 5 (Qn 25)),Qa (Qv 27) (Qf 1 false (Qn 26)),Qa (Qv 28) (Qh 66 [(Qn 27)]),Qa (Qv 29) (Qd (Qn 7)),Qa (Qv 4) (Qd (Qn 28)),Qa (Qv 5) (Qd (Qn 29))]
def f18_c3:MC:=.reg false f18_r3
def f18_c4:MC:=MC.ret
def f18_c5:MC:=.seq f18_c3 f18_c4
def f18_c6:MC:=MC.skip
def f18_c7:MC:=.cond (Qn 24) f18_c5 f18_c6
def f18_c8:MC:=.seq f18_c2 f18_c7
def f18_r9:List MO:=[Qa (Qv 8) (Qd (Qo (Qp A.nil)))]
def f18_c9:MC:=.reg false f18_r9
def f18_r10:List MO:=[Qa (Qv 30) (Qf 7 true (Qn 6)),Qa (Qv 31) (Qh 67 [(Qn 30)]),Qa (Qv 32) (Qk Qt (Qn 31)),Qa (Qv 33) (Qd (Qo (Qp (Qq (Qr Qu 0)))))]
def f18_c10:MC:=.reg false f18_r10
def f18_r11:List MO:=[Qa (Qv 34) (Qe Qt Go.BinOp.lss (Qn 33) (Qn 32))]
def f18_c11:MC:=.reg false f18_r11
def f18_c12:MC:=MC.skip
def f18_c13:MC:=(MC.exit 0)
def f18_c14:MC:=.cond (Qn 34) f18_c12 f18_c13
def f18_r15:List MO:=[Qa (Qv 35) (Qj 4 (Qn 31) (Qn 33)),Qa (Qv 36) (Qf 4 true (Qn 35)),Qa (Qv 10) (MOp.alloc [(Qr Qu 0),(Qr Qu 0),(D.str (ByteArray.mk #[])),(Qr Qu 0)]),Qa none (Ql 4 (Qn 10) (Qn 36))]
def f18_c15:MC:=.reg false f18_r15
def f18_r16:List MO:=[Qa (Qv 37) (Qd (Qn 8)),Qa (Qv 38) (Qg 3 (Qn 10)),Qa (Qv 39) (Qf 1 false (Qn 38)),Qa (Qv 40) (MOp.bslice 1 [(Qr Qu 0)] 1 [(0,(Qn 39))]),Qa (Qv 41) (MOp.app 3 1 8 (Qn 37) (Qn 40)),Qa (Qv 8) (Qd (Qn 41))]
def f18_c16:MC:=.reg false f18_r16
def f18_c17:MC:=.seq f18_c15 f18_c16
def f18_c18:MC:=.blk 1 f18_c17
def f18_r19:List MO:=[Qa (Qv 42) (Qe Qt Go.BinOp.add (Qn 33) (Qo (Qp (Qq (Qr Qu 1))))),Qa (Qv 33) (Qd (Qn 42))]
def f18_c19:MC:=.reg false f18_r19
def f18_c20:MC:=.seq f18_c18 f18_c19
def f18_c21:MC:=.seq f18_c14 f18_c20
def f18_c22:MC:=.seq f18_c11 f18_c21
def f18_c23:MC:=.loop f18_c22
def f18_c24:MC:=.blk 0 f18_c23
def f18_c25:MC:=.seq f18_c10 f18_c24
def f18_r26:List MO:=[Qa (Qv 43) (Qd (Qn 8)),Qa (Qv 44) (Qd (Qn 7)),Qa (Qv 4) (Qd (Qn 43)),Qa (Qv 5) (Qd (Qn 44))]
def f18_c26:MC:=.reg false f18_r26
def f18_c27:MC:=MC.ret
def f18_c28:MC:=.seq f18_c26 f18_c27
def f18_c29:MC:=.seq f18_c25 f18_c28
def f18_c30:MC:=.seq f18_c9 f18_c29
def f18_c31:MC:=.seq f18_c8 f18_c30
def f18_c32:MC:=.seq f18_c1 f18_c31
def f18_c33:MC:=.seq f18_c0 f18_c32
noncomputable def f18_code : Code := (f18.body).getD .skip
theorem f18_body : f18.body = Qv f18_code := by kernel_rfl
theorem f18_tr : trC QP [2] f18_code = Qv f18_c33 := by kernel_rfl
theorem f18_rs : rsOf QP f18.results.toList = Qv [(RV.t 4),(RV.t 5)] := by kernel_rfl
theorem f18_nt : f18.ntmps = 45 := by kernel_rfl
theorem f18_ok : callable QP 18 = true := by kernel_rfl
theorem f18_in {gp : Heap} {args : List V} {res : V} (h : G ⟨QP,gp,0,[(RV.t 4),(RV.t 5)],fun r c => r = res /\ c = [],false⟩ [.code f18_c33,.fin] ⟨args ++ List.replicate (45 - args.length) .un,[]⟩) : Does QP gp 18 args res :=
 does_intro f18_ok func18 f18_body f18_tr f18_rs (by rw [f18_nt]; exact h)
def f19_r0:List MO:=[Qa (Qv 2) (MOp.ibox (Qn 0)),Qa (Qv 4) (Qd (Qo (Qp A.nil))),Qa (Qv 5) (Qd (Qo (Qp (Qq (Qr Qu 0)))))]
def f19_c0:MC:=.reg false f19_r0
def f19_r1:List MO:=[Qa (Qv 10) (Qd (Qn 1)),Qa (Qv 11) (Qe Qt Go.BinOp.lss (Qn 10) (Qo (Qp (Qq (Qr Qu 0))))),Qa (Qv 12) (Qd (Qn 11)),Qb 12 false (Qv 13),Qa (Qv 13) (Qd (Qn 1)),Qb 12 false (Qv 14),Qa (Qv 14) (Qg 1 (Qn 2)),Qb 12 false (Qv 15),Qa (Qv 15) (Qf 1 false (Qn 14)),Qb 12 false (Qv 16),Qa (Qv 16) (Qk Qt (Qn 15)),Qb 12 false (Qv 17),Qa (Qv 17) (Qe Qt Go.BinOp.geq (Qn 13) (Qn 16)),Qa (Qv 18) (Qm (Qn 12) (Qo (Qp (Qq (Qs true)))) (Qn 17))]
def f19_c1:MC:=.reg false f19_r1
def f19_r2:List MO:=[Qa (Qv 4) (Qd (Qo (Qp A.nil))),Qa (Qv 5) (Qd (Qo (Qp (Qq (Qr Qu 2)))))]
def f19_c2:MC:=.reg false f19_r2
def f19_c3:MC:=MC.ret
def f19_c4:MC:=.seq f19_c2 f19_c3
def f19_c5:MC:=MC.skip
def f19_c6:MC:=.cond (Qn 18) f19_c4 f19_c5
def f19_c7:MC:=.seq f19_c1 f19_c6
def f19_r8:List MO:=[Qa (Qv 19) (Qg 1 (Qn 2)),Qa (Qv 20) (Qf 1 false (Qn 19)),Qa (Qv 21) (Qd (Qn 1)),Qa (Qv 22) (Qj 6 (Qn 20) (Qn 21)),Qa (Qv 23) (Qf 6 true (Qn 22)),Qa (Qv 6) (MOp.alloc [(Qr Qu 0),(Qr Qu 0),(Qr Qu 0),(D.str (ByteArray.mk #[])),(D.sl []),(D.sl [])]),Qa none (Ql 6 (Qn 6) (Qn 23))]
def f19_c8:MC:=.reg false f19_r8
def f19_r9:List MO:=[Qa (Qv 7) (Qd (Qo (Qp A.nil)))]
def f19_c9:MC:=.reg false f19_r9
def f19_r10:List MO:=[Qa (Qv 24) (Qg 0 (Qn 6)),Qa (Qv 25) (Qf 1 false (Qn 24)),Qa (Qv 26) (Qe Qt Go.BinOp.eql (Qn 25) (Qo (Qp (Qq (Qr Qu 1)))))]
def f19_c10:MC:=.reg false f19_r10
def f19_r11:List MO:=[Qa (Qv 27) (Qd (Qn 7)),Qa (Qv 28) (Qg 5 (Qn 6)),Qa (Qv 29) (Qf 1 false (Qn 28)),Qa (Qv 30) (MOp.app 3 1 8 (Qn 27) (Qn 29)),Qa (Qv 4) (Qd (Qn 30)),Qa (Qv 5) (Qd (Qo (Qp (Qq (Qr Qu 0)))))]
def f19_c11:MC:=.reg false f19_r11
def f19_c12:MC:=MC.ret
def f19_c13:MC:=.seq f19_c11 f19_c12
def f19_c14:MC:=MC.skip
def f19_c15:MC:=.cond (Qn 26) f19_c13 f19_c14
def f19_c16:MC:=.seq f19_c10 f19_c15
def f19_r17:List MO:=[Qa (Qv 31) (Qf 6 true (Qn 6)),Qa (Qv 32) (Qh 68 [(Qn 31)])]
def f19_c17:MC:=.reg false f19_r17
def f19_r18:List MO:=[Qa (Qv 33) (Qf 6 true (Qn 6)),Qa (Qv 34) (Qh 69 [(Qn 33)]),Qa (Qv 8) (Qd (Qn 34))]
def f19_c18:MC:=.reg false f19_r18
def f19_r19:List MO:=[Qa (Qv 9) (Qd (Qo (Qp (Qq (Qr Qu 0)))))]
def f19_c19:MC:=.reg false f19_r19
def f19_r20:List MO:=[Qa (Qv 35) (Qd (Qn 9)),Qa (Qv 36) (Qd (Qn 8)),Qa (Qv 37) (Qk Qt (Qn 36)),Qa (Qv 38) (Qe Qt Go.BinOp.lss (Qn 35) (Qn 37))]
def f19_c20:MC:=.reg false f19_r20
def f19_c21:MC:=MC.skip
def f19_c22:MC:=(MC.exit 0)
def f19_c23:MC:=.cond (Qn 38) f19_c21 f19_c22
def f19_c24:MC:=.seq f19_c20 f19_c23
def f19_r25:List MO:=[Qa (Qv 41) (Qd (Qn 7)),Qa (Qv 42) (Qg 5 (Qn 6)),Qa (Qv 43) (Qf 1 false (Qn 42)),Qa (Qv 44) (Qd (Qn 8)),Qa (Qv 45) (Qd (Qn 9)),Qa (Qv 46) (Qj 1 (Qn 44) (Qn 45)),Qa (Qv 47) (Qf 1 false (Qn 46)),Qa (Qv 48) (Qj 1 (Qn 43) (Qn 47)),Qa (Qv 49) (Qf 1 false (Qn 48)),Qa (Qv 50) (MOp.bslice 1 [(Qr Qu 0)] 1 [(0,(Qn 49))]),Qa (Qv 51) (MOp.app 3 1 8 (Qn 41) (Qn 50)),Qa (Qv 7) (Qd (Qn 51))]
def f19_c25:MC:=.reg true f19_r25
def f19_c26:MC:=.blk 1 f19_c25
def f19_r27:List MO:=[Qa (Qv 39) (Qd (Qn 9)),Qa (Qv 40) (Qe Qt Go.BinOp.add (Qn 39) (Qo (Qp (Qq (Qr Qu 1))))),Qa (Qv 9) (Qd (Qn 40))]
def f19_c27:MC:=.reg false f19_r27
def f19_c28:MC:=.seq f19_c26 f19_c27
def f19_c29:MC:=.seq f19_c24 f19_c28
def f19_c30:MC:=.loop f19_c29
def f19_c31:MC:=.blk 0 f19_c30
def f19_c32:MC:=.seq f19_c19 f19_c31
def f19_c33:MC:=.seq f19_c18 f19_c32
def f19_c34:MC:=MC.skip
def f19_c35:MC:=.cond (Qn 32) f19_c33 f19_c34
def f19_c36:MC:=.seq f19_c17 f19_c35
def f19_r37:List MO:=[Qa (Qv 52) (Qd (Qn 7)),Qa (Qv 4) (Qd (Qn 52)),Qa (Qv 5) (Qd (Qo (Qp (Qq (Qr Qu 0)))))]
def f19_c37:MC:=.reg false f19_r37
def f19_c38:MC:=MC.ret
def f19_c39:MC:=.seq f19_c37 f19_c38
def f19_c40:MC:=.seq f19_c36 f19_c39
def f19_c41:MC:=.seq f19_c16 f19_c40
def f19_c42:MC:=.seq f19_c9 f19_c41
def f19_c43:MC:=.seq f19_c8 f19_c42
def f19_c44:MC:=.seq f19_c7 f19_c43
def f19_c45:MC:=.seq f19_c0 f19_c44
noncomputable def f19_code : Code := (f19.body).getD .skip
theorem f19_body : f19.body = Qv f19_code := by kernel_rfl
theorem f19_tr : trC QP [2] f19_code = Qv f19_c45 := by kernel_rfl
theorem f19_rs : rsOf QP f19.results.toList = Qv [(RV.t 4),(RV.t 5)] := by kernel_rfl
theorem f19_nt : f19.ntmps = 53 := by kernel_rfl
theorem f19_ok : callable QP 19 = true := by kernel_rfl
theorem f19_in {gp : Heap} {args : List V} {res : V} (h : G ⟨QP,gp,0,[(RV.t 4),(RV.t 5)],fun r c => r = res /\ c = [],false⟩ [.code f19_c45,.fin] ⟨args ++ List.replicate (53 - args.length) .un,[]⟩) : Does QP gp 19 args res :=
 does_intro f19_ok func19 f19_body f19_tr f19_rs (by rw [f19_nt]; exact h)
def f20_r0:List MO:=[Qa (Qv 2) (MOp.ibox (Qn 0)),Qa (Qv 4) (Qd (Qo (Qp A.nil))),Qa (Qv 5) (Qd (Qo (Qp (Qq (Qr Qu 0)))))]
def f20_c0:MC:=.reg false f20_r0
def f20_r1:List MO:=[Qa (Qv 12) (Qf 2 true (Qn 2)),Qa (Qv 13) (Qd (Qn 1)),Qa (Qv 14) (Qh 65 [(Qn 12),(Qn 13)]),Qa (Qv 11) (Qd (Qn 14)),Qa (Qv 15) (Qi (Qn 11) 0),Qa (Qv 16) (Qi (Qn 11) 1),Qa (Qv 6) (MOp.alloc [(Qr Qu 0),(Qr Qu 0),(Qr Qu 0),(D.str (ByteArray.mk #[])),(D.sl []),(D.sl []),(Qr Qu 0)]),Qa none (Ql 7 (Qn 6) (Qn 15)),Qa (Qv 7) (Qd (Qn 16))]
def f20_c1:MC:=.reg false f20_r1
def f20_r2:List MO:=[Qa (Qv 8) (Qd (Qo (Qp A.nil)))]
def f20_c2:MC:=.reg false f20_r2
def f20_r3:List MO:=[Qa (Qv 17) (Qf 7 true (Qn 6)),Qa (Qv 18) (Qh 67 [(Qn 17)]),Qa (Qv 19) (Qk Qt (Qn 18)),Qa (Qv 20) (Qd (Qo (Qp (Qq (Qr Qu 0)))))]
def f20_c3:MC:=.reg false f20_r3
def f20_r4:List MO:=[Qa (Qv 21) (Qe Qt Go.BinOp.lss (Qn 20) (Qn 19))]
def f20_c4:MC:=.reg false f20_r4
def f20_c5:MC:=MC.skip
def f20_c6:MC:=(MC.exit 0)
def f20_c7:MC:=.cond (Qn 21) f20_c5 f20_c6
def f20_r8:List MO:=[Qa (Qv 22) (Qj 4 (Qn 18) (Qn 20)),Qa (Qv 23) (Qf 4 true (Qn 22)),Qa (Qv 10) (MOp.alloc [(Qr Qu 0),(Qr Qu 0),(D.str (ByteArray.mk #[])),(Qr Qu 0)]),Qa none (Ql 4 (Qn 10) (Qn 23))]
def f20_c8:MC:=.reg false f20_r8
def f20_r9:List MO:=[Qa (Qv 24) (Qd (Qn 8)),Qa (Qv 25) (Qg 0 (Qn 10)),Qa (Qv 26) (Qf 3 true (Qn 25)),Qa (Qv 27) (MOp.bslice 3 [(Qr Qu 0),(Qr Qu 0),(D.str (ByteArray.mk #[]))] 1 [(0,(Qn 26))]),Qa (Qv 28) (MOp.app 26 3 32 (Qn 24) (Qn 27)),Qa (Qv 8) (Qd (Qn 28))]
def f20_c9:MC:=.reg false f20_r9
def f20_c10:MC:=.seq f20_c8 f20_c9
def f20_c11:MC:=.blk 1 f20_c10
def f20_r12:List MO:=[Qa (Qv 29) (Qe Qt Go.BinOp.add (Qn 20) (Qo (Qp (Qq (Qr Qu 1))))),Qa (Qv 20) (Qd (Qn 29))]
def f20_c12:MC:=.reg false f20_r12
def f20_c13:MC:=.seq f20_c11 f20_c12
def f20_c14:MC:=.seq f20_c7 f20_c13
def f20_c15:MC:=.seq f20_c4 f20_c14
def f20_c16:MC:=.loop f20_c15
def f20_c17:MC:=.blk 0 f20_c16
def f20_c18:MC:=.seq f20_c3 f20_c17
def f20_r19:List MO:=[Qa (Qv 30) (Qd (Qn 8)),Qa (Qv 31) (Qd (Qn 7)),Qa (Qv 4) (Qd (Qn 30)),Qa (Qv 5) (Qd (Qn 31))]
def f20_c19:MC:=.reg false f20_r19
def f20_c20:MC:=MC.ret
def f20_c21:MC:=.seq f20_c19 f20_c20
def f20_c22:MC:=.seq f20_c18 f20_c21
def f20_c23:MC:=.seq f20_c2 f20_c22
def f20_c24:MC:=.seq f20_c1 f20_c23
def f20_c25:MC:=.seq f20_c0 f20_c24
noncomputable def f20_code : Code := (f20.body).getD .skip
theorem f20_body : f20.body = Qv f20_code := by kernel_rfl
theorem f20_tr : trC QP [2] f20_code = Qv f20_c25 := by kernel_rfl
theorem f20_rs : rsOf QP f20.results.toList = Qv [(RV.t 4),(RV.t 5)] := by kernel_rfl
theorem f20_nt : f20.ntmps = 32 := by kernel_rfl
theorem f20_ok : callable QP 20 = true := by kernel_rfl
theorem f20_in {gp : Heap} {args : List V} {res : V} (h : G ⟨QP,gp,0,[(RV.t 4),(RV.t 5)],fun r c => r = res /\ c = [],false⟩ [.code f20_c25,.fin] ⟨args ++ List.replicate (32 - args.length) .un,[]⟩) : Does QP gp 20 args res :=
 does_intro f20_ok func20 f20_body f20_tr f20_rs (by rw [f20_nt]; exact h)
def f21_r0:List MO:=[Qa (Qv 2) (MOp.ibox (Qn 0)),Qa (Qv 4) (Qd (Qo (Qp A.nil))),Qa (Qv 5) (Qd (Qo (Qp (Qq (Qr Qu 0)))))]
def f21_c0:MC:=.reg false f21_r0
def f21_r1:List MO:=[Qa (Qv 9) (Qd (Qn 1)),Qa (Qv 10) (Qe Qt Go.BinOp.lss (Qn 9) (Qo (Qp (Qq (Qr Qu 0))))),Qa (Qv 11) (Qd (Qn 10)),Qb 11 false (Qv 12),Qa (Qv 12) (Qd (Qn 1)),Qb 11 false (Qv 13),Qa (Qv 13) (Qg 1 (Qn 2)),Qb 11 false (Qv 14),Qa (Qv 14) (Qf 1 false (Qn 13)),Qb 11 false (Qv 15),Qa (Qv 15) (Qk Qt (Qn 14)),Qb 11 false (Qv 16),Qa (Qv 16) (Qe Qt Go.BinOp.geq (Qn 12) (Qn 15)),Qa (Qv 17) (Qm (Qn 11) (Qo (Qp (Qq (Qs true)))) (Qn 16))]
def f21_c1:MC:=.reg false f21_r1
def f21_r2:List MO:=[Qa (Qv 4) (Qd (Qo (Qp A.nil))),Qa (Qv 5) (Qd (Qo (Qp (Qq (Qr Qu 2)))))]
def f21_c2:MC:=.reg false f21_r2
def f21_c3:MC:=MC.ret
def f21_c4:MC:=.seq f21_c2 f21_c3
def f21_c5:MC:=MC.skip
def f21_c6:MC:=.cond (Qn 17) f21_c4 f21_c5
def f21_c7:MC:=.seq f21_c1 f21_c6
def f21_r8:List MO:=[Qa (Qv 6) (Qd (Qo (Qp A.nil)))]
def f21_c8:MC:=.reg false f21_r8
def f21_r9:List MO:=[Qa (Qv 18) (Qg 1 (Qn 2)),Qa (Qv 19) (Qf 1 false (Qn 18)),Qa (Qv 20) (Qd (Qn 1)),Qa (Qv 21) (Qj 6 (Qn 19) (Qn 20)),Qa (Qv 22) (Qf 6 true (Qn 21)),Qa (Qv 23) (Qh 68 [(Qn 22)])]
def f21_c9:MC:=.reg false f21_r9
def f21_r10:List MO:=[Qa (Qv 24) (Qg 1 (Qn 2)),Qa (Qv 25) (Qf 1 false (Qn 24)),Qa (Qv 26) (Qd (Qn 1)),Qa (Qv 27) (Qj 6 (Qn 25) (Qn 26)),Qa (Qv 28) (Qf 6 true (Qn 27)),Qa (Qv 29) (Qh 69 [(Qn 28)]),Qa (Qv 7) (Qd (Qn 29))]
def f21_c10:MC:=.reg false f21_r10
def f21_r11:List MO:=[Qa (Qv 8) (Qd (Qo (Qp (Qq (Qr Qu 0)))))]
def f21_c11:MC:=.reg false f21_r11
def f21_r12:List MO:=[Qa (Qv 30) (Qd (Qn 8)),Qa (Qv 31) (Qd (Qn 7)),Qa (Qv 32) (Qk Qt (Qn 31)),Qa (Qv 33) (Qe Qt Go.BinOp.lss (Qn 30) (Qn 32))]
def f21_c12:MC:=.reg false f21_r12
def f21_c13:MC:=MC.skip
def f21_c14:MC:=(MC.exit 0)
def f21_c15:MC:=.cond (Qn 33) f21_c13 f21_c14
def f21_c16:MC:=.seq f21_c12 f21_c15
def f21_r17:List MO:=[Qa (Qv 36) (Qd (Qn 6)),Qa (Qv 37) (Qg 1 (Qn 2)),Qa (Qv 38) (Qf 1 false (Qn 37)),Qa (Qv 39) (Qd (Qn 1)),Qa (Qv 40) (Qj 6 (Qn 38) (Qn 39)),Qa (Qv 41) (Qg 4 (Qn 40)),Qa (Qv 42) (Qf 1 false (Qn 41)),Qa (Qv 43) (Qd (Qn 7)),Qa (Qv 44) (Qd (Qn 8)),Qa (Qv 45) (Qj 1 (Qn 43) (Qn 44)),Qa (Qv 46) (Qf 1 false (Qn 45)),Qa (Qv 47) (Qj 3 (Qn 42) (Qn 46)),Qa (Qv 48) (Qf 3 true (Qn 47)),Qa (Qv 49) (MOp.bslice 3 [(Qr Qu 0),(Qr Qu 0),(D.str (ByteArray.mk #[]))] 1 [(0,(Qn 48))]),Qa (Qv 50) (MOp.app 26 3 32 (Qn 36) (Qn 49)),Qa (Qv 6) (Qd (Qn 50))]
def f21_c17:MC:=.reg true f21_r17
def f21_c18:MC:=.blk 1 f21_c17
def f21_r19:List MO:=[Qa (Qv 34) (Qd (Qn 8)),Qa (Qv 35) (Qe Qt Go.BinOp.add (Qn 34) (Qo (Qp (Qq (Qr Qu 1))))),Qa (Qv 8) (Qd (Qn 35))]
def f21_c19:MC:=.reg false f21_r19
def f21_c20:MC:=.seq f21_c18 f21_c19
def f21_c21:MC:=.seq f21_c16 f21_c20
def f21_c22:MC:=.loop f21_c21
def f21_c23:MC:=.blk 0 f21_c22
def f21_c24:MC:=.seq f21_c11 f21_c23
def f21_c25:MC:=.seq f21_c10 f21_c24
def f21_c26:MC:=MC.skip
def f21_c27:MC:=.cond (Qn 23) f21_c25 f21_c26
def f21_c28:MC:=.seq f21_c9 f21_c27
def f21_r29:List MO:=[Qa (Qv 51) (Qd (Qn 6)),Qa (Qv 4) (Qd (Qn 51)),Qa (Qv 5) (Qd (Qo (Qp (Qq (Qr Qu 0)))))]
def f21_c29:MC:=.reg false f21_r29
def f21_c30:MC:=MC.ret
def f21_c31:MC:=.seq f21_c29 f21_c30
def f21_c32:MC:=.seq f21_c28 f21_c31
def f21_c33:MC:=.seq f21_c8 f21_c32
def f21_c34:MC:=.seq f21_c7 f21_c33
def f21_c35:MC:=.seq f21_c0 f21_c34
attribute [go_sem] f21_r0 f21_r1 f21_r2 f21_r8 f21_r9 f21_r10 f21_r11 f21_r12 f21_r17 f21_r19
noncomputable def f21_code : Code := (f21.body).getD .skip
theorem f21_body : f21.body = Qv f21_code := by kernel_rfl
theorem f21_tr : trC QP [2] f21_code = Qv f21_c35 := by kernel_rfl
theorem f21_rs : rsOf QP f21.results.toList = Qv [(RV.t 4),(RV.t 5)] := by kernel_rfl
theorem f21_nt : f21.ntmps = 52 := by kernel_rfl
theorem f21_ok : callable QP 21 = true := by kernel_rfl
theorem f21_in {gp : Heap} {args : List V} {res : V} (h : G ⟨QP,gp,0,[(RV.t 4),(RV.t 5)],fun r c => r = res /\ c = [],false⟩ [.code f21_c35,.fin] ⟨args ++ List.replicate (52 - args.length) .un,[]⟩) : Does QP gp 21 args res :=
 does_intro f21_ok func21 f21_body f21_tr f21_rs (by rw [f21_nt]; exact h)
def f22_r0:List MO:=[Qa (Qv 3) (MOp.ibox (Qn 0)),Qa (Qv 5) (MOp.ibox (Qn 2)),Qa (Qv 6) (Qd (Qo (Qp (Qq (Qr Qu 0))))),Qa (Qv 7) (Qd (Qo (Qp (Qq (Qs false)))))]
def f22_c0:MC:=.reg false f22_r0
def f22_r1:List MO:=[Qa (Qv 13) (Qf 2 true (Qn 3)),Qa (Qv 14) (Qd (Qn 1)),Qa (Qv 15) (Qh 65 [(Qn 13),(Qn 14)]),Qa (Qv 12) (Qd (Qn 15)),Qa (Qv 16) (Qi (Qn 12) 0),Qa (Qv 17) (Qi (Qn 12) 1),Qa (Qv 8) (MOp.alloc [(Qr Qu 0),(Qr Qu 0),(Qr Qu 0),(D.str (ByteArray.mk #[])),(D.sl []),(D.sl []),(Qr Qu 0)]),Qa none (Ql 7 (Qn 8) (Qn 16)),Qa (Qv 9) (Qd (Qn 17))]
def f22_c1:MC:=.reg false f22_r1
def f22_r2:List MO:=[Qa (Qv 18) (Qd (Qn 9)),Qa (Qv 19) (Qe Qt Go.BinOp.neq (Qn 18) (Qo (Qp (Qq (Qr Qu 0))))),Qa (Qv 20) (Qd (Qn 19)),Qb 20 false (Qv 21),Qa (Qv 21) (Qg 0 (Qn 8)),Qb 20 false (Qv 22),Qa (Qv 22) (Qg 0 (Qn 21)),Qb 20 false (Qv 23),Qa (Qv 23) (Qf 1 false (Qn 22)),Qb 20 false (Qv 24),Qa (Qv 24) (Qe Qt Go.BinOp.neq (Qn 23) (Qo (Qp (Qq (Qr Qu 2))))),Qa (Qv 25) (Qm (Qn 20) (Qo (Qp (Qq (Qs true)))) (Qn 24))]
def f22_c2:MC:=.reg false f22_r2
def f22_r3:List MO:=[Qa (Qv 6) (Qd (Qo (Qp (Qq (Qr Qu 0))))),Qa (Qv 7) (Qd (Qo (Qp (Qq (Qs false)))))]
def f22_c3:MC:=.reg false f22_r3
def f22_c4:MC:=MC.ret
def f22_c5:MC:=.seq f22_c3 f22_c4
def f22_c6:MC:=MC.skip
def f22_c7:MC:=.cond (Qn 25) f22_c5 f22_c6
def f22_c8:MC:=.seq f22_c2 f22_c7
def f22_r9:List MO:=[Qa (Qv 26) (Qg 0 (Qn 8)),Qa (Qv 27) (Qg 4 (Qn 26)),Qa (Qv 28) (Qf 1 false (Qn 27)),Qa (Qv 29) (Qg 0 (Qn 8)),Qa (Qv 30) (Qg 4 (Qn 29)),Qa (Qv 31) (Qf 1 false (Qn 30)),Qa (Qv 32) (Qk Qt (Qn 31)),Qa (Qv 33) (Qg 0 (Qn 8)),Qa (Qv 34) (Qg 5 (Qn 33)),Qa (Qv 35) (Qf 1 false (Qn 34)),Qa (Qv 36) (Qk Qt (Qn 35)),Qa (Qv 37) (MOp.min (Qn 32) (Qn 36)),Qa (Qv 38) (MOp.slc 3 (Qn 28) none (Qv (Qn 37))),Qa (Qv 39) (Qk Qt (Qn 38)),Qa (Qv 40) (Qd (Qo (Qp (Qq (Qr Qu 0)))))]
def f22_c9:MC:=.reg false f22_r9
def f22_r10:List MO:=[Qa (Qv 41) (Qe Qt Go.BinOp.lss (Qn 40) (Qn 39))]
def f22_c10:MC:=.reg false f22_r10
def f22_c11:MC:=MC.skip
def f22_c12:MC:=(MC.exit 0)
def f22_c13:MC:=.cond (Qn 41) f22_c11 f22_c12
def f22_r14:List MO:=[Qa (Qv 42) (Qd (Qn 40)),Qa (Qv 43) (Qj 3 (Qn 38) (Qn 40)),Qa (Qv 44) (Qf 3 true (Qn 43)),Qa (Qv 11) (MOp.alloc [(Qr Qu 0),(Qr Qu 0),(D.str (ByteArray.mk #[]))]),Qa (Qv 10) (Qd (Qn 42)),Qa none (Ql 3 (Qn 11) (Qn 44))]
def f22_c14:MC:=.reg false f22_r14
def f22_r15:List MO:=[Qa (Qv 45) (Qf 3 true (Qn 11)),Qa (Qv 46) (Qf 3 true (Qn 5)),Qa (Qv 47) (MOp.eqs false [Qt,Qt,Leaf.s] (Qn 45) (Qn 46))]
def f22_c15:MC:=.reg false f22_r15
def f22_r16:List MO:=[Qa (Qv 48) (Qg 0 (Qn 8)),Qa (Qv 49) (Qg 5 (Qn 48)),Qa (Qv 50) (Qf 1 false (Qn 49)),Qa (Qv 51) (Qd (Qn 10)),Qa (Qv 52) (Qj 1 (Qn 50) (Qn 51)),Qa (Qv 53) (Qf 1 false (Qn 52)),Qa (Qv 6) (Qd (Qn 53)),Qa (Qv 7) (Qd (Qo (Qp (Qq (Qs true)))))]
def f22_c16:MC:=.reg false f22_r16
def f22_c17:MC:=MC.ret
def f22_c18:MC:=.seq f22_c16 f22_c17
def f22_c19:MC:=MC.skip
def f22_c20:MC:=.cond (Qn 47) f22_c18 f22_c19
def f22_c21:MC:=.seq f22_c15 f22_c20
def f22_c22:MC:=.seq f22_c14 f22_c21
def f22_c23:MC:=.blk 1 f22_c22
def f22_r24:List MO:=[Qa (Qv 54) (Qe Qt Go.BinOp.add (Qn 40) (Qo (Qp (Qq (Qr Qu 1))))),Qa (Qv 40) (Qd (Qn 54))]
def f22_c24:MC:=.reg false f22_r24
def f22_c25:MC:=.seq f22_c23 f22_c24
def f22_c26:MC:=.seq f22_c13 f22_c25
def f22_c27:MC:=.seq f22_c10 f22_c26
def f22_c28:MC:=.loop f22_c27
def f22_c29:MC:=.blk 0 f22_c28
def f22_c30:MC:=.seq f22_c9 f22_c29
def f22_r31:List MO:=[Qa (Qv 6) (Qd (Qo (Qp (Qq (Qr Qu 0))))),Qa (Qv 7) (Qd (Qo (Qp (Qq (Qs false)))))]
def f22_c31:MC:=.reg false f22_r31
def f22_c32:MC:=MC.ret
def f22_c33:MC:=.seq f22_c31 f22_c32
def f22_c34:MC:=.seq f22_c30 f22_c33
def f22_c35:MC:=.seq f22_c8 f22_c34
def f22_c36:MC:=.seq f22_c1 f22_c35
def f22_c37:MC:=.seq f22_c0 f22_c36
attribute [go_sem] f22_r0 f22_r1 f22_r2 f22_r3 f22_r9 f22_r10 f22_r14 f22_r15 f22_r16 f22_r24 f22_r31
noncomputable def f22_code : Code := (f22.body).getD .skip
theorem f22_body : f22.body = Qv f22_code := by kernel_rfl
theorem f22_tr : trC QP [3,5] f22_code = Qv f22_c37 := by kernel_rfl
theorem f22_rs : rsOf QP f22.results.toList = Qv [(RV.t 6),(RV.t 7)] := by kernel_rfl
theorem f22_nt : f22.ntmps = 55 := by kernel_rfl
theorem f22_ok : callable QP 22 = true := by kernel_rfl
theorem f22_in {gp : Heap} {args : List V} {res : V} (h : G ⟨QP,gp,0,[(RV.t 6),(RV.t 7)],fun r c => r = res /\ c = [],false⟩ [.code f22_c37,.fin] ⟨args ++ List.replicate (55 - args.length) .un,[]⟩) : Does QP gp 22 args res :=
 does_intro f22_ok func22 f22_body f22_tr f22_rs (by rw [f22_nt]; exact h)
def f24_r0:List MO:=[Qa (Qv 2) (MOp.ibox (Qn 0)),Qa (Qv 3) (MOp.ibox (Qn 1)),Qa (Qv 4) (Qd (Qo (Qp (Qq (Qs false)))))]
def f24_c0:MC:=.reg false f24_r0
def f24_r1:List MO:=[Qa (Qv 5) (Qd (Qo (Qp (Qq (D.fn (Go.Fn.func 70) [])))))]
def f24_c1:MC:=.reg false f24_r1
def f24_r2:List MO:=[Qa (Qv 6) (Qg 0 (Qn 2)),Qa (Qv 7) (Qf 1 false (Qn 6)),Qa (Qv 8) (Qg 0 (Qn 3)),Qa (Qv 9) (Qf 1 false (Qn 8)),Qa (Qv 10) (Qe Qt Go.BinOp.eql (Qn 7) (Qn 9)),Qa (Qv 11) (Qd (Qn 10)),Qb 11 true (Qv 12),Qa (Qv 12) (Qg 1 (Qn 2)),Qb 11 true (Qv 13),Qa (Qv 13) (Qf 1 false (Qn 12)),Qb 11 true (Qv 14),Qa (Qv 14) (Qg 1 (Qn 3)),Qb 11 true (Qv 15),Qa (Qv 15) (Qf 1 false (Qn 14)),Qb 11 true (Qv 16),Qa (Qv 16) (Qd (Qn 5)),Qb 11 true (Qv 17),Qa (Qv 17) (Qh 73 [(Qn 13),(Qn 15),(Qn 16)]),Qa (Qv 18) (Qm (Qn 11) (Qn 17) (Qo (Qp (Qq (Qs false))))),Qa (Qv 4) (Qd (Qn 18))]
def f24_c2:MC:=.reg false f24_r2
def f24_c3:MC:=MC.ret
def f24_c4:MC:=.seq f24_c2 f24_c3
def f24_c5:MC:=.seq f24_c1 f24_c4
def f24_c6:MC:=.seq f24_c0 f24_c5
attribute [go_sem] f24_r0 f24_r1 f24_r2
noncomputable def f24_code : Code := (f24.body).getD .skip
theorem f24_body : f24.body = Qv f24_code := by kernel_rfl
theorem f24_tr : trC QP [2,3] f24_code = Qv f24_c6 := by kernel_rfl
theorem f24_rs : rsOf QP f24.results.toList = Qv [(RV.t 4)] := by kernel_rfl
theorem f24_nt : f24.ntmps = 19 := by kernel_rfl
theorem f24_ok : callable QP 24 = true := by kernel_rfl
theorem f24_in {gp : Heap} {args : List V} {res : V} (h : G ⟨QP,gp,0,[(RV.t 4)],fun r c => r = res /\ c = [],false⟩ [.code f24_c6,.fin] ⟨args ++ List.replicate (19 - args.length) .un,[]⟩) : Does QP gp 24 args res :=
 does_intro f24_ok func24 f24_body f24_tr f24_rs (by rw [f24_nt]; exact h)
def f25_r0:List MO:=[Qa (Qv 2) (MOp.ibox (Qn 0)),Qa (Qv 3) (MOp.ibox (Qn 1)),Qa (Qv 4) (Qd (Qo (Qp (Qq (Qs false)))))]
def f25_c0:MC:=.reg false f25_r0
def f25_r1:List MO:=[Qa (Qv 8) (Qg 0 (Qn 2)),Qa (Qv 9) (Qf 1 false (Qn 8)),Qa (Qv 10) (Qg 0 (Qn 3)),Qa (Qv 11) (Qf 1 false (Qn 10)),Qa (Qv 12) (Qe Qt Go.BinOp.neq (Qn 9) (Qn 11)),Qa (Qv 13) (Qd (Qn 12)),Qb 13 false (Qv 14),Qa (Qv 14) (Qg 1 (Qn 2)),Qb 13 false (Qv 15),Qa (Qv 15) (Qf 1 false (Qn 14)),Qb 13 false (Qv 16),Qa (Qv 16) (Qk Qt (Qn 15)),Qb 13 false (Qv 17),Qa (Qv 17) (Qg 1 (Qn 3)),Qb 13 false (Qv 18),Qa (Qv 18) (Qf 1 false (Qn 17)),Qb 13 false (Qv 19),Qa (Qv 19) (Qk Qt (Qn 18)),Qb 13 false (Qv 20),Qa (Qv 20) (Qe Qt Go.BinOp.neq (Qn 16) (Qn 19)),Qa (Qv 21) (Qm (Qn 13) (Qo (Qp (Qq (Qs true)))) (Qn 20))]
def f25_c1:MC:=.reg false f25_r1
def f25_r2:List MO:=[Qa (Qv 4) (Qd (Qo (Qp (Qq (Qs false)))))]
def f25_c2:MC:=.reg false f25_r2
def f25_c3:MC:=MC.ret
def f25_c4:MC:=.seq f25_c2 f25_c3
def f25_c5:MC:=MC.skip
def f25_c6:MC:=.cond (Qn 21) f25_c4 f25_c5
def f25_c7:MC:=.seq f25_c1 f25_c6
def f25_r8:List MO:=[Qa (Qv 5) (Qd (Qo (Qp (Qq (Qr Qu 0)))))]
def f25_c8:MC:=.reg false f25_r8
def f25_r9:List MO:=[Qa (Qv 22) (Qd (Qn 5)),Qa (Qv 23) (Qg 1 (Qn 2)),Qa (Qv 24) (Qf 1 false (Qn 23)),Qa (Qv 25) (Qk Qt (Qn 24)),Qa (Qv 26) (Qe Qt Go.BinOp.lss (Qn 22) (Qn 25))]
def f25_c9:MC:=.reg false f25_r9
def f25_c10:MC:=MC.skip
def f25_c11:MC:=(MC.exit 0)
def f25_c12:MC:=.cond (Qn 26) f25_c10 f25_c11
def f25_c13:MC:=.seq f25_c9 f25_c12
def f25_r14:List MO:=[Qa (Qv 29) (Qg 1 (Qn 2)),Qa (Qv 30) (Qf 1 false (Qn 29)),Qa (Qv 31) (Qd (Qn 5)),Qa (Qv 32) (Qj 6 (Qn 30) (Qn 31)),Qa (Qv 33) (Qf 6 true (Qn 32)),Qa (Qv 6) (MOp.alloc [(Qr Qu 0),(Qr Qu 0),(Qr Qu 0),(D.str (ByteArray.mk #[])),(D.sl []),(D.sl [])]),Qa none (Ql 6 (Qn 6) (Qn 33))]
def f25_c14:MC:=.reg false f25_r14
def f25_r15:List MO:=[Qa (Qv 34) (Qg 1 (Qn 3)),Qa (Qv 35) (Qf 1 false (Qn 34)),Qa (Qv 36) (Qd (Qn 5)),Qa (Qv 37) (Qj 6 (Qn 35) (Qn 36)),Qa (Qv 38) (Qf 6 true (Qn 37)),Qa (Qv 7) (MOp.alloc [(Qr Qu 0),(Qr Qu 0),(Qr Qu 0),(D.str (ByteArray.mk #[])),(D.sl []),(D.sl [])]),Qa none (Ql 6 (Qn 7) (Qn 38))]
def f25_c15:MC:=.reg false f25_r15
def f25_r16:List MO:=[Qa (Qv 39) (Qg 0 (Qn 6)),Qa (Qv 40) (Qf 1 false (Qn 39)),Qa (Qv 41) (Qg 0 (Qn 7)),Qa (Qv 42) (Qf 1 false (Qn 41)),Qa (Qv 43) (Qe Qt Go.BinOp.neq (Qn 40) (Qn 42)),Qa (Qv 44) (Qd (Qn 43)),Qb 44 false (Qv 45),Qa (Qv 45) (Qg 1 (Qn 6)),Qb 44 false (Qv 46),Qa (Qv 46) (Qf 3 true (Qn 45)),Qb 44 false (Qv 47),Qa (Qv 47) (Qg 1 (Qn 7)),Qb 44 false (Qv 48),Qa (Qv 48) (Qf 3 true (Qn 47)),Qb 44 false (Qv 49),Qa (Qv 49) (MOp.eqs true [Qt,Qt,Leaf.s] (Qn 46) (Qn 48)),Qa (Qv 50) (Qm (Qn 44) (Qo (Qp (Qq (Qs true)))) (Qn 49)),Qa (Qv 51) (Qd (Qn 50)),Qb 51 false (Qv 52),Qa (Qv 52) (Qg 4 (Qn 6)),Qb 51 false (Qv 53),Qa (Qv 53) (Qf 1 false (Qn 52)),Qb 51 false (Qv 54),Qa (Qv 54) (Qg 4 (Qn 7)),Qb 51 false (Qv 55),Qa (Qv 55) (Qf 1 false (Qn 54)),Qb 51 false (Qv 56),Qa (Qv 56) (Qh 27 [(Qn 53),(Qn 55)]),Qb 51 false (Qv 57),Qa (Qv 57) (MOp.not (Qn 56)),Qa (Qv 58) (Qm (Qn 51) (Qo (Qp (Qq (Qs true)))) (Qn 57)),Qa (Qv 59) (Qd (Qn 58)),Qb 59 false (Qv 60),Qa (Qv 60) (Qg 5 (Qn 6)),Qb 59 false (Qv 61),Qa (Qv 61) (Qf 1 false (Qn 60)),Qb 59 false (Qv 62),Qa (Qv 62) (Qg 5 (Qn 7)),Qb 59 false (Qv 63),Qa (Qv 63) (Qf 1 false (Qn 62)),Qb 59 false (Qv 64),Qa (Qv 64) (Qh 26 [(Qn 61),(Qn 63)]),Qb 59 false (Qv 65),Qa (Qv 65) (MOp.not (Qn 64)),Qa (Qv 66) (Qm (Qn 59) (Qo (Qp (Qq (Qs true)))) (Qn 65))]
def f25_c16:MC:=.reg false f25_r16
def f25_r17:List MO:=[Qa (Qv 4) (Qd (Qo (Qp (Qq (Qs false)))))]
def f25_c17:MC:=.reg false f25_r17
def f25_c18:MC:=MC.ret
def f25_c19:MC:=.seq f25_c17 f25_c18
def f25_c20:MC:=MC.skip
def f25_c21:MC:=.cond (Qn 66) f25_c19 f25_c20
def f25_c22:MC:=.seq f25_c16 f25_c21
def f25_c23:MC:=.seq f25_c15 f25_c22
def f25_c24:MC:=.seq f25_c14 f25_c23
def f25_c25:MC:=.blk 1 f25_c24
def f25_r26:List MO:=[Qa (Qv 27) (Qd (Qn 5)),Qa (Qv 28) (Qe Qt Go.BinOp.add (Qn 27) (Qo (Qp (Qq (Qr Qu 1))))),Qa (Qv 5) (Qd (Qn 28))]
def f25_c26:MC:=.reg false f25_r26
def f25_c27:MC:=.seq f25_c25 f25_c26
def f25_c28:MC:=.seq f25_c13 f25_c27
def f25_c29:MC:=.loop f25_c28
def f25_c30:MC:=.blk 0 f25_c29
def f25_c31:MC:=.seq f25_c8 f25_c30
def f25_r32:List MO:=[Qa (Qv 4) (Qd (Qo (Qp (Qq (Qs true)))))]
def f25_c32:MC:=.reg false f25_r32
def f25_c33:MC:=MC.ret
def f25_c34:MC:=.seq f25_c32 f25_c33
def f25_c35:MC:=.seq f25_c31 f25_c34
def f25_c36:MC:=.seq f25_c7 f25_c35
def f25_c37:MC:=.seq f25_c0 f25_c36
attribute [go_sem] f25_r0 f25_r1 f25_r2 f25_r8 f25_r9 f25_r14 f25_r15 f25_r16 f25_r17 f25_r26 f25_r32
noncomputable def f25_code : Code := (f25.body).getD .skip
theorem f25_body : f25.body = Qv f25_code := by kernel_rfl
theorem f25_tr : trC QP [2,3] f25_code = Qv f25_c37 := by kernel_rfl
theorem f25_rs : rsOf QP f25.results.toList = Qv [(RV.t 4)] := by kernel_rfl
theorem f25_nt : f25.ntmps = 67 := by kernel_rfl
theorem f25_ok : callable QP 25 = true := by kernel_rfl
theorem f25_in {gp : Heap} {args : List V} {res : V} (h : G ⟨QP,gp,0,[(RV.t 4)],fun r c => r = res /\ c = [],false⟩ [.code f25_c37,.fin] ⟨args ++ List.replicate (67 - args.length) .un,[]⟩) : Does QP gp 25 args res :=
 does_intro f25_ok func25 f25_body f25_tr f25_rs (by rw [f25_nt]; exact h)
def f26_r0:List MO:=[Qa (Qv 4) (Qd (Qo (Qp (Qq (Qs false)))))]
def f26_c0:MC:=.reg false f26_r0
def f26_r1:List MO:=[Qa (Qv 6) (Qd (Qn 0)),Qa (Qv 7) (Qk Qt (Qn 6)),Qa (Qv 8) (Qd (Qn 1)),Qa (Qv 9) (Qk Qt (Qn 8)),Qa (Qv 10) (Qe Qt Go.BinOp.neq (Qn 7) (Qn 9))]
def f26_c1:MC:=.reg false f26_r1
def f26_r2:List MO:=[Qa (Qv 4) (Qd (Qo (Qp (Qq (Qs false)))))]
def f26_c2:MC:=.reg false f26_r2
def f26_c3:MC:=MC.ret
def f26_c4:MC:=.seq f26_c2 f26_c3
def f26_c5:MC:=MC.skip
def f26_c6:MC:=.cond (Qn 10) f26_c4 f26_c5
def f26_c7:MC:=.seq f26_c1 f26_c6
def f26_r8:List MO:=[Qa (Qv 5) (Qd (Qo (Qp (Qq (Qr Qu 0)))))]
def f26_c8:MC:=.reg false f26_r8
def f26_r9:List MO:=[Qa (Qv 11) (Qd (Qn 5)),Qa (Qv 12) (Qd (Qn 0)),Qa (Qv 13) (Qk Qt (Qn 12)),Qa (Qv 14) (Qe Qt Go.BinOp.lss (Qn 11) (Qn 13))]
def f26_c9:MC:=.reg false f26_r9
def f26_c10:MC:=MC.skip
def f26_c11:MC:=(MC.exit 0)
def f26_c12:MC:=.cond (Qn 14) f26_c10 f26_c11
def f26_c13:MC:=.seq f26_c9 f26_c12
def f26_r14:List MO:=[Qa (Qv 17) (Qd (Qn 0)),Qa (Qv 18) (Qd (Qn 5)),Qa (Qv 19) (Qj 1 (Qn 17) (Qn 18)),Qa (Qv 20) (Qf 1 false (Qn 19)),Qa (Qv 21) (Qd (Qn 1)),Qa (Qv 22) (Qd (Qn 5)),Qa (Qv 23) (Qj 1 (Qn 21) (Qn 22)),Qa (Qv 24) (Qf 1 false (Qn 23)),Qa (Qv 25) (Qe Qt Go.BinOp.neq (Qn 20) (Qn 24))]
def f26_c14:MC:=.reg true f26_r14
def f26_r15:List MO:=[Qa (Qv 4) (Qd (Qo (Qp (Qq (Qs false)))))]
def f26_c15:MC:=.reg false f26_r15
def f26_c16:MC:=MC.ret
def f26_c17:MC:=.seq f26_c15 f26_c16
def f26_c18:MC:=MC.skip
def f26_c19:MC:=.cond (Qn 25) f26_c17 f26_c18
def f26_c20:MC:=.seq f26_c14 f26_c19
def f26_c21:MC:=.blk 1 f26_c20
def f26_r22:List MO:=[Qa (Qv 15) (Qd (Qn 5)),Qa (Qv 16) (Qe Qt Go.BinOp.add (Qn 15) (Qo (Qp (Qq (Qr Qu 1))))),Qa (Qv 5) (Qd (Qn 16))]
def f26_c22:MC:=.reg false f26_r22
def f26_c23:MC:=.seq f26_c21 f26_c22
def f26_c24:MC:=.seq f26_c13 f26_c23
def f26_c25:MC:=.loop f26_c24
def f26_c26:MC:=.blk 0 f26_c25
def f26_c27:MC:=.seq f26_c8 f26_c26
def f26_r28:List MO:=[Qa (Qv 4) (Qd (Qo (Qp (Qq (Qs true)))))]
def f26_c28:MC:=.reg false f26_r28
def f26_c29:MC:=MC.ret
def f26_c30:MC:=.seq f26_c28 f26_c29
def f26_c31:MC:=.seq f26_c27 f26_c30
def f26_c32:MC:=.seq f26_c7 f26_c31
def f26_c33:MC:=.seq f26_c0 f26_c32
attribute [go_sem] f26_r0 f26_r1 f26_r2 f26_r8 f26_r9 f26_r14 f26_r15 f26_r22 f26_r28
noncomputable def f26_code : Code := (f26.body).getD .skip
theorem f26_body : f26.body = Qv f26_code := by kernel_rfl
theorem f26_tr : trC QP [] f26_code = Qv f26_c33 := by kernel_rfl
theorem f26_rs : rsOf QP f26.results.toList = Qv [(RV.t 4)] := by kernel_rfl
theorem f26_nt : f26.ntmps = 26 := by kernel_rfl
theorem f26_ok : callable QP 26 = true := by kernel_rfl
theorem f26_in {gp : Heap} {args : List V} {res : V} (h : G ⟨QP,gp,0,[(RV.t 4)],fun r c => r = res /\ c = [],false⟩ [.code f26_c33,.fin] ⟨args ++ List.replicate (26 - args.length) .un,[]⟩) : Does QP gp 26 args res :=
 does_intro f26_ok func26 f26_body f26_tr f26_rs (by rw [f26_nt]; exact h)
def f27_r0:List MO:=[Qa (Qv 4) (Qd (Qo (Qp (Qq (Qs false)))))]
def f27_c0:MC:=.reg false f27_r0
def f27_r1:List MO:=[Qa (Qv 6) (Qd (Qn 0)),Qa (Qv 7) (Qk Qt (Qn 6)),Qa (Qv 8) (Qd (Qn 1)),Qa (Qv 9) (Qk Qt (Qn 8)),Qa (Qv 10) (Qe Qt Go.BinOp.neq (Qn 7) (Qn 9))]
def f27_c1:MC:=.reg false f27_r1
def f27_r2:List MO:=[Qa (Qv 4) (Qd (Qo (Qp (Qq (Qs false)))))]
def f27_c2:MC:=.reg false f27_r2
def f27_c3:MC:=MC.ret
def f27_c4:MC:=.seq f27_c2 f27_c3
def f27_c5:MC:=MC.skip
def f27_c6:MC:=.cond (Qn 10) f27_c4 f27_c5
def f27_c7:MC:=.seq f27_c1 f27_c6
def f27_r8:List MO:=[Qa (Qv 5) (Qd (Qo (Qp (Qq (Qr Qu 0)))))]
def f27_c8:MC:=.reg false f27_r8
def f27_r9:List MO:=[Qa (Qv 11) (Qd (Qn 5)),Qa (Qv 12) (Qd (Qn 0)),Qa (Qv 13) (Qk Qt (Qn 12)),Qa (Qv 14) (Qe Qt Go.BinOp.lss (Qn 11) (Qn 13))]
def f27_c9:MC:=.reg false f27_r9
def f27_c10:MC:=MC.skip
def f27_c11:MC:=(MC.exit 0)
def f27_c12:MC:=.cond (Qn 14) f27_c10 f27_c11
def f27_c13:MC:=.seq f27_c9 f27_c12
def f27_r14:List MO:=[Qa (Qv 17) (Qd (Qn 0)),Qa (Qv 18) (Qd (Qn 5)),Qa (Qv 19) (Qj 3 (Qn 17) (Qn 18)),Qa (Qv 20) (Qf 3 true (Qn 19)),Qa (Qv 21) (Qd (Qn 1)),Qa (Qv 22) (Qd (Qn 5)),Qa (Qv 23) (Qj 3 (Qn 21) (Qn 22)),Qa (Qv 24) (Qf 3 true (Qn 23)),Qa (Qv 25) (MOp.eqs true [Qt,Qt,Leaf.s] (Qn 20) (Qn 24))]
def f27_c14:MC:=.reg true f27_r14
def f27_r15:List MO:=[Qa (Qv 4) (Qd (Qo (Qp (Qq (Qs false)))))]
def f27_c15:MC:=.reg false f27_r15
def f27_c16:MC:=MC.ret
def f27_c17:MC:=.seq f27_c15 f27_c16
def f27_c18:MC:=MC.skip
def f27_c19:MC:=.cond (Qn 25) f27_c17 f27_c18
def f27_c20:MC:=.seq f27_c14 f27_c19
def f27_c21:MC:=.blk 1 f27_c20
def f27_r22:List MO:=[Qa (Qv 15) (Qd (Qn 5)),Qa (Qv 16) (Qe Qt Go.BinOp.add (Qn 15) (Qo (Qp (Qq (Qr Qu 1))))),Qa (Qv 5) (Qd (Qn 16))]
def f27_c22:MC:=.reg false f27_r22
def f27_c23:MC:=.seq f27_c21 f27_c22
def f27_c24:MC:=.seq f27_c13 f27_c23
def f27_c25:MC:=.loop f27_c24
def f27_c26:MC:=.blk 0 f27_c25
def f27_c27:MC:=.seq f27_c8 f27_c26
def f27_r28:List MO:=[Qa (Qv 4) (Qd (Qo (Qp (Qq (Qs true)))))]
def f27_c28:MC:=.reg false f27_r28
def f27_c29:MC:=MC.ret
def f27_c30:MC:=.seq f27_c28 f27_c29
def f27_c31:MC:=.seq f27_c27 f27_c30
def f27_c32:MC:=.seq f27_c7 f27_c31
def f27_c33:MC:=.seq f27_c0 f27_c32
attribute [go_sem] f27_r0 f27_r1 f27_r2 f27_r8 f27_r9 f27_r14 f27_r15 f27_r22 f27_r28
noncomputable def f27_code : Code := (f27.body).getD .skip
theorem f27_body : f27.body = Qv f27_code := by kernel_rfl
theorem f27_tr : trC QP [] f27_code = Qv f27_c33 := by kernel_rfl
theorem f27_rs : rsOf QP f27.results.toList = Qv [(RV.t 4)] := by kernel_rfl
theorem f27_nt : f27.ntmps = 26 := by kernel_rfl
theorem f27_ok : callable QP 27 = true := by kernel_rfl
theorem f27_in {gp : Heap} {args : List V} {res : V} (h : G ⟨QP,gp,0,[(RV.t 4)],fun r c => r = res /\ c = [],false⟩ [.code f27_c33,.fin] ⟨args ++ List.replicate (26 - args.length) .un,[]⟩) : Does QP gp 27 args res :=
 does_intro f27_ok func27 f27_body f27_tr f27_rs (by rw [f27_nt]; exact h)
def f61_r0:List MO:=[Qa (Qv 2) (Qd (Qo (Qp (Qq (D.str (ByteArray.mk #[]))))))]
def f61_c0:MC:=.reg false f61_r0
def f61_r1:List MO:=[Qa (Qv 3) (Qd (Qn 0)),Qa (Qv 4) (Qd (Qn 0)),Qa (Qv 5) (Qk Leaf.s (Qn 4)),Qa (Qv 6) (MOp.min (Qn 5) (Qo (Qp (Qq (Qr Qu 100))))),Qa (Qv 7) (MOp.slcS (Qn 3) none (Qv (Qn 6))),Qa (Qv 2) (Qd (Qn 7))]
def f61_c1:MC:=.reg false f61_r1
def f61_c2:MC:=MC.ret
def f61_c3:MC:=.seq f61_c1 f61_c2
def f61_c4:MC:=.seq f61_c0 f61_c3
attribute [go_sem] f61_r0 f61_r1
noncomputable def f61_code : Code := (f61.body).getD .skip
theorem f61_body : f61.body = Qv f61_code := by kernel_rfl
theorem f61_tr : trC QP [] f61_code = Qv f61_c4 := by kernel_rfl
theorem f61_rs : rsOf QP f61.results.toList = Qv [(RV.t 2)] := by kernel_rfl
theorem f61_nt : f61.ntmps = 8 := by kernel_rfl
theorem f61_ok : callable QP 61 = true := by kernel_rfl
theorem f61_in {gp : Heap} {args : List V} {res : V} (h : G ⟨QP,gp,0,[(RV.t 2)],fun r c => r = res /\ c = [],false⟩ [.code f61_c4,.fin] ⟨args ++ List.replicate (8 - args.length) .un,[]⟩) : Does QP gp 61 args res :=
 does_intro f61_ok func61 f61_body f61_tr f61_rs (by rw [f61_nt]; exact h)
def f62_r0:List MO:=[Qa (Qv 2) (Qd (Qo (Qp (Qq (Qr Qu 0))))),Qa (Qv 3) (Qd (Qo (Qp (Qq (Qr Qu 0)))))]
def f62_c0:MC:=.reg false f62_r0
def f62_r1:List MO:=[Qa (Qv 4) (MOp.alloc [(Qr Qu 0),(Qr Qu 0)])]
def f62_c1:MC:=.reg false f62_r1
def f62_r2:List MO:=[Qa (Qv 5) (Qd (Qn 0)),Qa (Qv 6) (MOp.mkI 141 (Qn 4)),Qa (Qv 7) (Qh 97 [(Qn 5),(Qn 6)])]
def f62_c2:MC:=.reg false f62_r2
def f62_r3:List MO:=[Qa (Qv 8) (Qg 0 (Qn 4)),Qa (Qv 9) (Qf 1 false (Qn 8)),Qa (Qv 10) (Qg 1 (Qn 4)),Qa (Qv 11) (Qf 1 false (Qn 10)),Qa (Qv 2) (Qd (Qn 9)),Qa (Qv 3) (Qd (Qn 11))]
def f62_c3:MC:=.reg true f62_r3
def f62_c4:MC:=MC.ret
def f62_c5:MC:=.seq f62_c3 f62_c4
def f62_c6:MC:=MC.skip
def f62_c7:MC:=.cond (Qn 7) f62_c5 f62_c6
def f62_c8:MC:=.seq f62_c2 f62_c7
def f62_r9:List MO:=[Qa (Qv 2) (Qd (Qo (Qp (Qq (Qr Qu 0))))),Qa (Qv 3) (Qd (Qo (Qp (Qq (Qr Qu 0)))))]
def f62_c9:MC:=.reg false f62_r9
def f62_c10:MC:=MC.ret
def f62_c11:MC:=.seq f62_c9 f62_c10
def f62_c12:MC:=.seq f62_c8 f62_c11
def f62_c13:MC:=.seq f62_c1 f62_c12
def f62_c14:MC:=.seq f62_c0 f62_c13
attribute [go_sem] f62_r0 f62_r1 f62_r2 f62_r3 f62_r9
noncomputable def f62_code : Code := (f62.body).getD .skip
theorem f62_body : f62.body = Qv f62_code := by kernel_rfl
theorem f62_tr : trC QP [] f62_code = Qv f62_c14 := by kernel_rfl
theorem f62_rs : rsOf QP f62.results.toList = Qv [(RV.t 2),(RV.t 3)] := by kernel_rfl
theorem f62_nt : f62.ntmps = 12 := by kernel_rfl
theorem f62_ok : callable QP 62 = true := by kernel_rfl
theorem f62_in {gp : Heap} {args : List V} {res : V} (h : G ⟨QP,gp,0,[(RV.t 2),(RV.t 3)],fun r c => r = res /\ c = [],false⟩ [.code f62_c14,.fin] ⟨args ++ List.replicate (12 - args.length) .un,[]⟩) : Does QP gp 62 args res :=
 does_intro f62_ok func62 f62_body f62_tr f62_rs (by rw [f62_nt]; exact h)
def f63_r0:List MO:=[Qa (Qv 1) (MOp.ibox (Qn 0)),Qa (Qv 2) (MOp.alloc [D.nilI])]
def f63_c0:MC:=.reg false f63_r0
def f63_r1:List MO:=[Qa (Qv 6) (Qg 1 (Qn 1)),Qa (Qv 7) (Qf 1 false (Qn 6)),Qa (Qv 8) (Qk Qt (Qn 7)),Qa (Qv 9) (Qe Qt Go.BinOp.gtr (Qn 8) (Qo (Qp (Qq (Qr Qu 200))))),Qa (Qv 5) (Qd (Qn 9))]
def f63_c1:MC:=.reg false f63_r1
def f63_r2:List MO:=[Qa (Qv 10) (MOp.build [(Qr Qu 0),(Qr Qu 0)] [(0,(1,(Qo (Qp (Qq (Qr Qu 0)))))),(1,(1,(Qo (Qp (Qq (Qr Qu 71))))))]),Qa (Qv 11) (MOp.mkI 139 (Qn 10)),Qa none (Ql 1 (Qn 2) (Qn 11))]
def f63_c2:MC:=.reg false f63_r2
def f63_c3:MC:=MC.ret
def f63_c4:MC:=.seq f63_c2 f63_c3
def f63_r5:List MO:=[Qa (Qv 13) (Qf 2 true (Qn 1)),Qa (Qv 14) (Qg 0 (Qn 1)),Qa (Qv 15) (Qf 1 false (Qn 14)),Qa (Qv 16) (Qh 98 [(Qn 13),(Qn 15)]),Qa (Qv 17) (MOp.not (Qn 16)),Qa (Qv 12) (Qd (Qn 17))]
def f63_c5:MC:=.reg false f63_r5
def f63_r6:List MO:=[Qa (Qv 18) (MOp.build [(Qr Qu 0),(Qr Qu 0)] [(0,(1,(Qo (Qp (Qq (Qr Qu (-1))))))),(1,(1,(Qo (Qp (Qq (Qr Qu 70))))))]),Qa (Qv 19) (MOp.mkI 139 (Qn 18)),Qa none (Ql 1 (Qn 2) (Qn 19))]
def f63_c6:MC:=.reg false f63_r6
def f63_c7:MC:=MC.ret
def f63_c8:MC:=.seq f63_c6 f63_c7
def f63_c9:MC:=MC.skip
def f63_c10:MC:=.cond (Qn 12) f63_c8 f63_c9
def f63_c11:MC:=.seq f63_c5 f63_c10
def f63_c12:MC:=.cond (Qn 5) f63_c4 f63_c11
def f63_c13:MC:=.seq f63_c1 f63_c12
def f63_c14:MC:=.blk 0 f63_c13
def f63_r15:List MO:=[Qa (Qv 20) (Qf 2 true (Qn 1)),Qa (Qv 21) (Qh 99 [(Qn 20)])]
def f63_c15:MC:=.reg false f63_r15
def f63_r16:List MO:=[Qa (Qv 3) (Qd (Qn 22))]
def f63_c16:MC:=.reg false f63_r16
def f63_r17:List MO:=[Qa (Qv 4) (MOp.alloc [(Qr Qu 0),(Qr Qu 0),(Qr Qu 0),(D.str (ByteArray.mk #[])),(D.sl []),(D.sl []),(Qr Qu 0)]),Qa none (Ql 7 (Qn 4) (Qn 23))]
def f63_c17:MC:=.reg false f63_r17
def f63_c18:MC:=.seq f63_c16 f63_c17
def f63_r19:List MO:=[Qa (Qv 24) (Qf 7 true (Qn 4)),Qa (Qv 25) (Qh 100 [(Qn 24)]),Qa (Qv 26) (MOp.not (Qn 25))]
def f63_c19:MC:=.reg false f63_r19
def f63_r20:List MO:=[Qa (Qv 27) (Qd (Qn 3)),Qa (Qv 28) (MOp.build [(Qr Qu 0),(Qr Qu 0)] [(0,(1,(Qn 27))),(1,(1,(Qo (Qp (Qq (Qr Qu 70))))))]),Qa (Qv 29) (MOp.mkI 139 (Qn 28)),Qa none (Ql 1 (Qn 2) (Qn 29))]
def f63_c20:MC:=.reg false f63_r20
def f63_c21:MC:=MC.ret
def f63_c22:MC:=.seq f63_c20 f63_c21
def f63_c23:MC:=MC.skip
def f63_c24:MC:=.cond (Qn 26) f63_c22 f63_c23
def f63_c25:MC:=.seq f63_c19 f63_c24
def f63_c26:MC:=.blk 2 f63_c25
def f63_c27:MC:=.rf (Qn 21) [22,23] f63_c18 f63_c26
def f63_c28:MC:=.blk 1 f63_c27
def f63_c29:MC:=.seq f63_c15 f63_c28
def f63_r30:List MO:=[Qa none (Ql 1 (Qn 2) (Qo (Qp (Qq D.nilI))))]
def f63_c30:MC:=.reg false f63_r30
def f63_c31:MC:=MC.ret
def f63_c32:MC:=.seq f63_c30 f63_c31
def f63_c33:MC:=.seq f63_c29 f63_c32
def f63_c34:MC:=.seq f63_c14 f63_c33
def f63_c35:MC:=.seq f63_c0 f63_c34
attribute [go_sem] f63_r0 f63_r1 f63_r2 f63_r5 f63_r6 f63_r15 f63_r16 f63_r17 f63_r19 f63_r20 f63_r30
noncomputable def f63_code : Code := (f63.body).getD .skip
theorem f63_body : f63.body = Qv f63_code := by kernel_rfl
theorem f63_tr : trC QP [1] f63_code = Qv f63_c35 := by kernel_rfl
theorem f63_rs : rsOf QP f63.results.toList = Qv [(RV.cell 2 1 false)] := by kernel_rfl
theorem f63_nt : f63.ntmps = 30 := by kernel_rfl
theorem f63_ok : callable QP 63 = true := by kernel_rfl
theorem f63_in {gp : Heap} {args : List V} {res : V} (h : G ⟨QP,gp,0,[(RV.cell 2 1 false)],fun r c => r = res /\ c = [],false⟩ [.code f63_c35,.fin] ⟨args ++ List.replicate (30 - args.length) .un,[]⟩) : Does QP gp 63 args res :=
 does_intro f63_ok func63 f63_body f63_tr f63_rs (by rw [f63_nt]; exact h)
def f64_r0:List MO:=[Qa (Qv 2) (MOp.ibox (Qn 0)),Qa (Qv 4) (Qd (Qo (Qp (Qq (Qs false)))))]
def f64_c0:MC:=.reg false f64_r0
def f64_r1:List MO:=[Qa (Qv 5) (Qd (Qo (Qp (Qq (Qr Qu 0)))))]
def f64_c1:MC:=.reg false f64_r1
def f64_r2:List MO:=[Qa (Qv 8) (Qd (Qn 5)),Qa (Qv 9) (Qg 5 (Qn 2)),Qa (Qv 10) (Qf 1 false (Qn 9)),Qa (Qv 11) (Qk Qt (Qn 10)),Qa (Qv 12) (Qe Qt Go.BinOp.lss (Qn 8) (Qn 11))]
def f64_c2:MC:=.reg false f64_r2
def f64_c3:MC:=MC.skip
def f64_c4:MC:=(MC.exit 0)
def f64_c5:MC:=.cond (Qn 12) f64_c3 f64_c4
def f64_c6:MC:=.seq f64_c2 f64_c5
def f64_r7:List MO:=[Qa (Qv 15) (Qg 5 (Qn 2)),Qa (Qv 16) (Qf 1 false (Qn 15)),Qa (Qv 17) (Qd (Qn 5)),Qa (Qv 18) (Qj 1 (Qn 16) (Qn 17)),Qa (Qv 19) (Qf 1 false (Qn 18)),Qa (Qv 20) (Qe Qt Go.BinOp.lss (Qn 19) (Qo (Qp (Qq (Qr Qu 0))))),Qa (Qv 21) (Qd (Qn 20)),Qb 21 false (Qv 22),Qa (Qv 22) (Qg 5 (Qn 2)),Qb 21 false (Qv 23),Qa (Qv 23) (Qf 1 false (Qn 22)),Qb 21 false (Qv 24),Qa (Qv 24) (Qd (Qn 5)),Qb 21 false (Qv 25),Qa (Qv 25) (Qj 1 (Qn 23) (Qn 24)),Qb 21 false (Qv 26),Qa (Qv 26) (Qf 1 false (Qn 25)),Qb 21 false (Qv 27),Qa (Qv 27) (Qd (Qn 1)),Qb 21 false (Qv 28),Qa (Qv 28) (Qe Qt Go.BinOp.geq (Qn 26) (Qn 27)),Qa (Qv 29) (Qm (Qn 21) (Qo (Qp (Qq (Qs true)))) (Qn 28))]
def f64_c7:MC:=.reg false f64_r7
def f64_r8:List MO:=[Qa (Qv 4) (Qd (Qo (Qp (Qq (Qs false)))))]
def f64_c8:MC:=.reg false f64_r8
def f64_c9:MC:=MC.ret
def f64_c10:MC:=.seq f64_c8 f64_c9
def f64_c11:MC:=MC.skip
def f64_c12:MC:=.cond (Qn 29) f64_c10 f64_c11
def f64_c13:MC:=.seq f64_c7 f64_c12
def f64_c14:MC:=.blk 1 f64_c13
def f64_r15:List MO:=[Qa (Qv 13) (Qd (Qn 5)),Qa (Qv 14) (Qe Qt Go.BinOp.add (Qn 13) (Qo (Qp (Qq (Qr Qu 1))))),Qa (Qv 5) (Qd (Qn 14))]
def f64_c15:MC:=.reg false f64_r15
def f64_c16:MC:=.seq f64_c14 f64_c15
def f64_c17:MC:=.seq f64_c6 f64_c16
def f64_c18:MC:=.loop f64_c17
def f64_c19:MC:=.blk 0 f64_c18
def f64_c20:MC:=.seq f64_c1 f64_c19
def f64_r21:List MO:=[Qa (Qv 6) (Qd (Qo (Qp (Qq (Qr Qu 0)))))]
def f64_c21:MC:=.reg false f64_r21
def f64_r22:List MO:=[Qa (Qv 30) (Qd (Qn 6)),Qa (Qv 31) (Qg 4 (Qn 2)),Qa (Qv 32) (Qf 1 false (Qn 31)),Qa (Qv 33) (Qk Qt (Qn 32)),Qa (Qv 34) (Qe Qt Go.BinOp.lss (Qn 30) (Qn 33))]
def f64_c22:MC:=.reg false f64_r22
def f64_c23:MC:=MC.skip
def f64_c24:MC:=(MC.exit 2)
def f64_c25:MC:=.cond (Qn 34) f64_c23 f64_c24
def f64_c26:MC:=.seq f64_c22 f64_c25
def f64_r27:List MO:=[Qa (Qv 37) (Qg 4 (Qn 2)),Qa (Qv 38) (Qf 1 false (Qn 37)),Qa (Qv 39) (Qd (Qn 6)),Qa (Qv 40) (Qj 3 (Qn 38) (Qn 39)),Qa (Qv 41) (Qf 3 true (Qn 40)),Qa (Qv 42) (Qh 101 [(Qn 41)]),Qa (Qv 43) (MOp.not (Qn 42))]
def f64_c27:MC:=.reg false f64_r27
def f64_r28:List MO:=[Qa (Qv 4) (Qd (Qo (Qp (Qq (Qs false)))))]
def f64_c28:MC:=.reg false f64_r28
def f64_c29:MC:=MC.ret
def f64_c30:MC:=.seq f64_c28 f64_c29
def f64_c31:MC:=MC.skip
def f64_c32:MC:=.cond (Qn 43) f64_c30 f64_c31
def f64_c33:MC:=.seq f64_c27 f64_c32
def f64_c34:MC:=.blk 3 f64_c33
def f64_r35:List MO:=[Qa (Qv 35) (Qd (Qn 6)),Qa (Qv 36) (Qe Qt Go.BinOp.add (Qn 35) (Qo (Qp (Qq (Qr Qu 1))))),Qa (Qv 6) (Qd (Qn 36))]
def f64_c35:MC:=.reg false f64_r35
def f64_c36:MC:=.seq f64_c34 f64_c35
def f64_c37:MC:=.seq f64_c26 f64_c36
def f64_c38:MC:=.loop f64_c37
def f64_c39:MC:=.blk 2 f64_c38
def f64_c40:MC:=.seq f64_c21 f64_c39
def f64_r41:List MO:=[Qa (Qv 44) (Qg 1 (Qn 2)),Qa (Qv 45) (Qf 3 true (Qn 44)),Qa (Qv 46) (MOp.build [(Qr Qu 0),(Qr Qu 0),(D.str (ByteArray.mk #[]))] []),Qa (Qv 47) (MOp.eqs false [Qt,Qt,Leaf.s] (Qn 45) (Qn 46)),Qa (Qv 7) (Qd (Qn 47))]
def f64_c41:MC:=.reg false f64_r41
def f64_r42:List MO:=[Qa (Qv 48) (Qg 0 (Qn 2)),Qa (Qv 49) (Qf 1 false (Qn 48))]
def f64_c42:MC:=.reg false f64_r42
def f64_r43:List MO:=[Qa (Qv 51) (Qe Qt Go.BinOp.eql (Qn 49) (Qo (Qp (Qq (Qr Qu 0))))),Qa (Qv 50) (Qd (Qn 51))]
def f64_c43:MC:=.reg false f64_r43
def f64_r44:List MO:=[Qa (Qv 52) (Qg 1 (Qn 2)),Qa (Qv 53) (Qf 3 true (Qn 52)),Qa (Qv 54) (Qh 101 [(Qn 53)]),Qa (Qv 55) (Qd (Qn 54)),Qb 55 true (Qv 56),Qa (Qv 56) (Qg 4 (Qn 2)),Qb 55 true (Qv 57),Qa (Qv 57) (Qf 1 false (Qn 56)),Qb 55 true (Qv 58),Qa (Qv 58) (Qk Qt (Qn 57)),Qb 55 true (Qv 59),Qa (Qv 59) (Qe Qt Go.BinOp.eql (Qn 58) (Qo (Qp (Qq (Qr Qu 0))))),Qa (Qv 60) (Qm (Qn 55) (Qn 59) (Qo (Qp (Qq (Qs false))))),Qa (Qv 61) (Qd (Qn 60)),Qb 61 true (Qv 62),Qa (Qv 62) (Qg 5 (Qn 2)),Qb 61 true (Qv 63),Qa (Qv 63) (Qf 1 false (Qn 62)),Qb 61 true (Qv 64),Qa (Qv 64) (Qk Qt (Qn 63)),Qb 61 true (Qv 65),Qa (Qv 65) (Qe Qt Go.BinOp.eql (Qn 64) (Qo (Qp (Qq (Qr Qu 0))))),Qa (Qv 66) (Qm (Qn 61) (Qn 65) (Qo (Qp (Qq (Qs false))))),Qa (Qv 4) (Qd (Qn 66))]
def f64_c44:MC:=.reg false f64_r44
def f64_c45:MC:=MC.ret
def f64_c46:MC:=.seq f64_c44 f64_c45
def f64_r47:List MO:=[Qa (Qv 68) (Qe Qt Go.BinOp.eql (Qn 49) (Qo (Qp (Qq (Qr Qu 1))))),Qa (Qv 67) (Qd (Qn 68))]
def f64_c47:MC:=.reg false f64_r47
def f64_r48:List MO:=[Qa (Qv 69) (Qd (Qn 7)),Qa (Qv 70) (Qd (Qn 69)),Qb 70 true (Qv 71),Qa (Qv 71) (Qg 4 (Qn 2)),Qb 70 true (Qv 72),Qa (Qv 72) (Qf 1 false (Qn 71)),Qb 70 true (Qv 73),Qa (Qv 73) (Qk Qt (Qn 72)),Qb 70 true (Qv 74),Qa (Qv 74) (Qe Qt Go.BinOp.eql (Qn 73) (Qo (Qp (Qq (Qr Qu 0))))),Qa (Qv 75) (Qm (Qn 70) (Qn 74) (Qo (Qp (Qq (Qs false))))),Qa (Qv 4) (Qd (Qn 75))]
def f64_c48:MC:=.reg false f64_r48
def f64_c49:MC:=MC.ret
def f64_c50:MC:=.seq f64_c48 f64_c49
def f64_r51:List MO:=[Qa (Qv 77) (Qe Qt Go.BinOp.eql (Qn 49) (Qo (Qp (Qq (Qr Qu 2))))),Qa (Qv 76) (Qd (Qn 77))]
def f64_c51:MC:=.reg false f64_r51
def f64_r52:List MO:=[Qa (Qv 78) (Qd (Qn 7)),Qa (Qv 79) (Qd (Qn 78)),Qb 79 true (Qv 80),Qa (Qv 80) (Qg 4 (Qn 2)),Qb 79 true (Qv 81),Qa (Qv 81) (Qf 1 false (Qn 80)),Qb 79 true (Qv 82),Qa (Qv 82) (Qk Qt (Qn 81)),Qb 79 true (Qv 83),Qa (Qv 83) (Qg 5 (Qn 2)),Qb 79 true (Qv 84),Qa (Qv 84) (Qf 1 false (Qn 83)),Qb 79 true (Qv 85),Qa (Qv 85) (Qk Qt (Qn 84)),Qb 79 true (Qv 86),Qa (Qv 86) (Qe Qt Go.BinOp.eql (Qn 82) (Qn 85)),Qa (Qv 87) (Qm (Qn 79) (Qn 86) (Qo (Qp (Qq (Qs false))))),Qa (Qv 88) (Qd (Qn 87)),Qb 88 true (Qv 89),Qa (Qv 89) (Qg 4 (Qn 2)),Qb 88 true (Qv 90),Qa (Qv 90) (Qf 1 false (Qn 89)),Qb 88 true (Qv 91),Qa (Qv 91) (Qh 102 [(Qn 90)]),Qb 88 true (Qv 92),Qa (Qv 92) (MOp.not (Qn 91)),Qa (Qv 93) (Qm (Qn 88) (Qn 92) (Qo (Qp (Qq (Qs false))))),Qa (Qv 4) (Qd (Qn 93))]
def f64_c52:MC:=.reg false f64_r52
def f64_c53:MC:=MC.ret
def f64_c54:MC:=.seq f64_c52 f64_c53
def f64_c55:MC:=MC.skip
def f64_c56:MC:=.cond (Qn 76) f64_c54 f64_c55
def f64_c57:MC:=.seq f64_c51 f64_c56
def f64_c58:MC:=.cond (Qn 67) f64_c50 f64_c57
def f64_c59:MC:=.seq f64_c47 f64_c58
def f64_c60:MC:=.cond (Qn 50) f64_c46 f64_c59
def f64_c61:MC:=.seq f64_c43 f64_c60
def f64_c62:MC:=.blk 4 f64_c61
def f64_c63:MC:=.seq f64_c42 f64_c62
def f64_r64:List MO:=[Qa (Qv 4) (Qd (Qo (Qp (Qq (Qs false)))))]
def f64_c64:MC:=.reg false f64_r64
def f64_c65:MC:=MC.ret
def f64_c66:MC:=.seq f64_c64 f64_c65
def f64_c67:MC:=.seq f64_c63 f64_c66
def f64_c68:MC:=.seq f64_c41 f64_c67
def f64_c69:MC:=.seq f64_c40 f64_c68
def f64_c70:MC:=.seq f64_c20 f64_c69
def f64_c71:MC:=.seq f64_c0 f64_c70
attribute [go_sem] f64_r0 f64_r1 f64_r2 f64_r7 f64_r8 f64_r15 f64_r21 f64_r22 f64_r27 f64_r28 f64_r35 f64_r41 f64_r42 f64_r43 f64_r44 f64_r47 f64_r48 f64_r51 f64_r52 f64_r64
noncomputable def f64_code : Code := (f64.body).getD .skip
theorem f64_body : f64.body = Qv f64_code := by kernel_rfl
theorem f64_tr : trC QP [2] f64_code = Qv f64_c71 := by kernel_rfl
theorem f64_rs : rsOf QP f64.results.toList = Qv [(RV.t 4)] := by kernel_rfl
theorem f64_nt : f64.ntmps = 94 := by kernel_rfl
theorem f64_ok : callable QP 64 = true := by kernel_rfl
theorem f64_in {gp : Heap} {args : List V} {res : V} (h : G ⟨QP,gp,0,[(RV.t 4)],fun r c => r = res /\ c = [],false⟩ [.code f64_c71,.fin] ⟨args ++ List.replicate (94 - args.length) .un,[]⟩) : Does QP gp 64 args res :=
 does_intro f64_ok func64 f64_body f64_tr f64_rs (by rw [f64_nt]; exact h)
def f65_r0:List MO:=[Qa (Qv 2) (MOp.ibox (Qn 0)),Qa (Qv 4) (MOp.alloc [(Qr Qu 0),(Qr Qu 0),(Qr Qu 0),(D.str (ByteArray.mk #[])),(D.sl []),(D.sl []),(Qr Qu 0)]),Qa (Qv 5) (Qd (Qo (Qp (Qq (Qr Qu 0)))))]
def f65_c0:MC:=.reg false f65_r0
def f65_r1:List MO:=[Qa (Qv 6) (Qf 2 true (Qn 2)),Qa (Qv 7) (Qd (Qn 1)),Qa (Qv 8) (Qh 98 [(Qn 6),(Qn 7)]),Qa (Qv 9) (MOp.not (Qn 8))]
def f65_c1:MC:=.reg false f65_r1
def f65_r2:List MO:=[Qa (Qv 10) (MOp.build [(Qr Qu 0),(Qr Qu 0),(Qr Qu 0),(D.str (ByteArray.mk #[])),(D.sl []),(D.sl []),(Qr Qu 0)] []),Qa none (Ql 7 (Qn 4) (Qn 10)),Qa (Qv 5) (Qd (Qo (Qp (Qq (Qr Qu 2)))))]
def f65_c2:MC:=.reg false f65_r2
def f65_c3:MC:=MC.ret
def f65_c4:MC:=.seq f65_c2 f65_c3
def f65_c5:MC:=MC.skip
def f65_c6:MC:=.cond (Qn 9) f65_c4 f65_c5
def f65_c7:MC:=.seq f65_c1 f65_c6
def f65_r8:List MO:=[Qa (Qv 11) (Qg 1 (Qn 2)),Qa (Qv 12) (Qf 1 false (Qn 11)),Qa (Qv 13) (Qd (Qn 1)),Qa (Qv 14) (Qj 6 (Qn 12) (Qn 13)),Qa (Qv 15) (Qf 6 true (Qn 14)),Qa (Qv 16) (Qg 1 (Qn 2)),Qa (Qv 17) (Qf 1 false (Qn 16)),Qa (Qv 18) (Qk Qt (Qn 17)),Qa (Qv 19) (MOp.build [(Qr Qu 0),(Qr Qu 0),(Qr Qu 0),(D.str (ByteArray.mk #[])),(D.sl []),(D.sl []),(Qr Qu 0)] [(0,(6,(Qn 15))),(6,(1,(Qn 18)))]),Qa none (Ql 7 (Qn 4) (Qn 19)),Qa (Qv 5) (Qd (Qo (Qp (Qq (Qr Qu 0)))))]
def f65_c8:MC:=.reg true f65_r8
def f65_c9:MC:=MC.ret
def f65_c10:MC:=.seq f65_c8 f65_c9
def f65_c11:MC:=.seq f65_c7 f65_c10
def f65_c12:MC:=.seq f65_c0 f65_c11
attribute [go_sem] f65_r0 f65_r1 f65_r2 f65_r8
noncomputable def f65_code : Code := (f65.body).getD .skip
theorem f65_body : f65.body = Qv f65_code := by kernel_rfl
theorem f65_tr : trC QP [2] f65_code = Qv f65_c12 := by kernel_rfl
theorem f65_rs : rsOf QP f65.results.toList = Qv [(RV.cell 4 7 true),(RV.t 5)] := by kernel_rfl
theorem f65_nt : f65.ntmps = 20 := by kernel_rfl
theorem f65_ok : callable QP 65 = true := by kernel_rfl
theorem f65_in {gp : Heap} {args : List V} {res : V} (h : G ⟨QP,gp,0,[(RV.cell 4 7 true),(RV.t 5)],fun r c => r = res /\ c = [],false⟩ [.code f65_c12,.fin] ⟨args ++ List.replicate (20 - args.length) .un,[]⟩) : Does QP gp 65 args res :=
 does_intro f65_ok func65 f65_body f65_tr f65_rs (by rw [f65_nt]; exact h)
def f66_r0:List MO:=[Qa (Qv 2) (Qd (Qo (Qp A.nil)))]
def f66_c0:MC:=.reg false f66_r0
def f66_r1:List MO:=[Qa (Qv 3) (Qd (Qn 0)),Qa (Qv 4) (MOp.nilq NK.sl false (Qn 3))]
def f66_c1:MC:=.reg false f66_r1
def f66_r2:List MO:=[Qa (Qv 2) (Qd (Qo (Qp A.nil)))]
def f66_c2:MC:=.reg false f66_r2
def f66_c3:MC:=MC.ret
def f66_c4:MC:=.seq f66_c2 f66_c3
def f66_c5:MC:=MC.skip
def f66_c6:MC:=.cond (Qn 4) f66_c4 f66_c5
def f66_c7:MC:=.seq f66_c1 f66_c6
def f66_r8:List MO:=[Qa (Qv 5) (MOp.bslO 1 [(Qr Qu 0)] 0 []),Qa (Qv 6) (Qd (Qn 0)),Qa (Qv 7) (MOp.app 3 1 8 (Qn 5) (Qn 6)),Qa (Qv 2) (Qd (Qn 7))]
def f66_c8:MC:=.reg false f66_r8
def f66_c9:MC:=MC.ret
def f66_c10:MC:=.seq f66_c8 f66_c9
def f66_c11:MC:=.seq f66_c7 f66_c10
def f66_c12:MC:=.seq f66_c0 f66_c11
noncomputable def f66_code : Code := (f66.body).getD .skip
theorem f66_body : f66.body = Qv f66_code := by kernel_rfl
theorem f66_tr : trC QP [5] f66_code = Qv f66_c12 := by kernel_rfl
theorem f66_rs : rsOf QP f66.results.toList = Qv [(RV.t 2)] := by kernel_rfl
theorem f66_nt : f66.ntmps = 8 := by kernel_rfl
theorem f66_ok : callable QP 66 = true := by kernel_rfl
theorem f66_in {gp : Heap} {args : List V} {res : V} (h : G ⟨QP,gp,0,[(RV.t 2)],fun r c => r = res /\ c = [],false⟩ [.code f66_c12,.fin] ⟨args ++ List.replicate (8 - args.length) .un,[]⟩) : Does QP gp 66 args res :=
 does_intro f66_ok func66 f66_body f66_tr f66_rs (by rw [f66_nt]; exact h)
def f67_r0:List MO:=[Qa (Qv 1) (MOp.ibox (Qn 0)),Qa (Qv 2) (Qd (Qo (Qp A.nil)))]
def f67_c0:MC:=.reg false f67_r0
def f67_r1:List MO:=[Qa (Qv 6) (Qg 0 (Qn 1)),Qa (Qv 7) (Qg 0 (Qn 6)),Qa (Qv 8) (Qf 1 false (Qn 7)),Qa (Qv 9) (Qe Qt Go.BinOp.neq (Qn 8) (Qo (Qp (Qq (Qr Qu 2))))),Qa (Qv 10) (Qd (Qn 9)),Qb 10 false (Qv 11),Qa (Qv 11) (Qf 7 true (Qn 1)),Qb 10 false (Qv 12),Qa (Qv 12) (Qh 103 [(Qn 11)]),Qb 10 false (Qv 13),Qa (Qv 13) (MOp.not (Qn 12)),Qa (Qv 14) (Qm (Qn 10) (Qo (Qp (Qq (Qs true)))) (Qn 13))]
def f67_c1:MC:=.reg false f67_r1
def f67_r2:List MO:=[Qa (Qv 2) (Qd (Qo (Qp A.nil)))]
def f67_c2:MC:=.reg false f67_r2
def f67_c3:MC:=MC.ret
def f67_c4:MC:=.seq f67_c2 f67_c3
def f67_c5:MC:=MC.skip
def f67_c6:MC:=.cond (Qn 14) f67_c4 f67_c5
def f67_c7:MC:=.seq f67_c1 f67_c6
def f67_r8:List MO:=[Qa (Qv 3) (Qd (Qo (Qp A.nil)))]
def f67_c8:MC:=.reg false f67_r8
def f67_r9:List MO:=[Qa (Qv 15) (Qg 0 (Qn 1)),Qa (Qv 16) (Qg 4 (Qn 15)),Qa (Qv 17) (Qf 1 false (Qn 16)),Qa (Qv 18) (Qk Qt (Qn 17)),Qa (Qv 19) (Qd (Qo (Qp (Qq (Qr Qu 0)))))]
def f67_c9:MC:=.reg false f67_r9
def f67_r10:List MO:=[Qa (Qv 20) (Qe Qt Go.BinOp.lss (Qn 19) (Qn 18))]
def f67_c10:MC:=.reg false f67_r10
def f67_c11:MC:=MC.skip
def f67_c12:MC:=(MC.exit 0)
def f67_c13:MC:=.cond (Qn 20) f67_c11 f67_c12
def f67_r14:List MO:=[Qa (Qv 21) (Qd (Qn 19)),Qa (Qv 22) (Qj 3 (Qn 17) (Qn 19)),Qa (Qv 23) (Qf 3 true (Qn 22)),Qa (Qv 5) (MOp.alloc [(Qr Qu 0),(Qr Qu 0),(D.str (ByteArray.mk #[]))]),Qa (Qv 4) (Qd (Qn 21)),Qa none (Ql 3 (Qn 5) (Qn 23))]
def f67_c14:MC:=.reg false f67_r14
def f67_r15:List MO:=[Qa (Qv 24) (Qd (Qn 3)),Qa (Qv 25) (Qf 3 true (Qn 5)),Qa (Qv 26) (Qg 0 (Qn 1)),Qa (Qv 27) (Qg 5 (Qn 26)),Qa (Qv 28) (Qf 1 false (Qn 27)),Qa (Qv 29) (Qd (Qn 4)),Qa (Qv 30) (Qj 1 (Qn 28) (Qn 29)),Qa (Qv 31) (Qf 1 false (Qn 30)),Qa (Qv 32) (MOp.build [(Qr Qu 0),(Qr Qu 0),(D.str (ByteArray.mk #[])),(Qr Qu 0)] [(0,(3,(Qn 25))),(3,(1,(Qn 31)))]),Qa (Qv 33) (MOp.bslice 4 [(Qr Qu 0),(Qr Qu 0),(D.str (ByteArray.mk #[])),(Qr Qu 0)] 1 [(0,(Qn 32))]),Qa (Qv 34) (MOp.app 83 4 40 (Qn 24) (Qn 33)),Qa (Qv 3) (Qd (Qn 34))]
def f67_c15:MC:=.reg true f67_r15
def f67_c16:MC:=.seq f67_c14 f67_c15
def f67_c17:MC:=.blk 1 f67_c16
def f67_r18:List MO:=[Qa (Qv 35) (Qe Qt Go.BinOp.add (Qn 19) (Qo (Qp (Qq (Qr Qu 1))))),Qa (Qv 19) (Qd (Qn 35))]
def f67_c18:MC:=.reg false f67_r18
def f67_c19:MC:=.seq f67_c17 f67_c18
def f67_c20:MC:=.seq f67_c13 f67_c19
def f67_c21:MC:=.seq f67_c10 f67_c20
def f67_c22:MC:=.loop f67_c21
def f67_c23:MC:=.blk 0 f67_c22
def f67_c24:MC:=.seq f67_c9 f67_c23
def f67_r25:List MO:=[Qa (Qv 36) (Qd (Qn 3)),Qa (Qv 37) (Qh 104 [(Qn 36),(Qo (Qp (Qq (D.fn (Go.Fn.func 105) []))))])]
def f67_c25:MC:=.reg false f67_r25
def f67_r26:List MO:=[Qa (Qv 38) (Qd (Qn 3)),Qa (Qv 2) (Qd (Qn 38))]
def f67_c26:MC:=.reg false f67_r26
def f67_c27:MC:=MC.ret
def f67_c28:MC:=.seq f67_c26 f67_c27
def f67_c29:MC:=.seq f67_c25 f67_c28
def f67_c30:MC:=.seq f67_c24 f67_c29
def f67_c31:MC:=.seq f67_c8 f67_c30
def f67_c32:MC:=.seq f67_c7 f67_c31
def f67_c33:MC:=.seq f67_c0 f67_c32
attribute [go_sem] f67_r0 f67_r1 f67_r2 f67_r8 f67_r9 f67_r10 f67_r14 f67_r15 f67_r18 f67_r25 f67_r26
noncomputable def f67_code : Code := (f67.body).getD .skip
theorem f67_body : f67.body = Qv f67_code := by kernel_rfl
theorem f67_tr : trC QP [1] f67_code = Qv f67_c33 := by kernel_rfl
theorem f67_rs : rsOf QP f67.results.toList = Qv [(RV.t 2)] := by kernel_rfl
theorem f67_nt : f67.ntmps = 39 := by kernel_rfl
theorem f67_ok : callable QP 67 = true := by kernel_rfl
theorem f67_in {gp : Heap} {args : List V} {res : V} (h : G ⟨QP,gp,0,[(RV.t 2)],fun r c => r = res /\ c = [],false⟩ [.code f67_c33,.fin] ⟨args ++ List.replicate (39 - args.length) .un,[]⟩) : Does QP gp 67 args res :=
 does_intro f67_ok func67 f67_body f67_tr f67_rs (by rw [f67_nt]; exact h)
def f68_r0:List MO:=[Qa (Qv 1) (MOp.ibox (Qn 0)),Qa (Qv 2) (Qd (Qo (Qp (Qq (Qs false)))))]
def f68_c0:MC:=.reg false f68_r0
def f68_r1:List MO:=[Qa (Qv 3) (Qg 0 (Qn 1)),Qa (Qv 4) (Qf 1 false (Qn 3)),Qa (Qv 5) (Qe Qt Go.BinOp.eql (Qn 4) (Qo (Qp (Qq (Qr Qu 2))))),Qa (Qv 6) (Qd (Qn 5)),Qb 6 true (Qv 7),Qa (Qv 7) (Qg 4 (Qn 1)),Qb 6 true (Qv 8),Qa (Qv 8) (Qf 1 false (Qn 7)),Qb 6 true (Qv 9),Qa (Qv 9) (Qk Qt (Qn 8)),Qb 6 true (Qv 10),Qa (Qv 10) (Qg 5 (Qn 1)),Qb 6 true (Qv 11),Qa (Qv 11) (Qf 1 false (Qn 10)),Qb 6 true (Qv 12),Qa (Qv 12) (Qk Qt (Qn 11)),Qb 6 true (Qv 13),Qa (Qv 13) (Qe Qt Go.BinOp.eql (Qn 9) (Qn 12)),Qa (Qv 14) (Qm (Qn 6) (Qn 13) (Qo (Qp (Qq (Qs false))))),Qa (Qv 2) (Qd (Qn 14))]
def f68_c1:MC:=.reg false f68_r1
def f68_c2:MC:=MC.ret
def f68_c3:MC:=.seq f68_c1 f68_c2
def f68_c4:MC:=.seq f68_c0 f68_c3
attribute [go_sem] f68_r0 f68_r1
noncomputable def f68_code : Code := (f68.body).getD .skip
theorem f68_body : f68.body = Qv f68_code := by kernel_rfl
theorem f68_tr : trC QP [1] f68_code = Qv f68_c4 := by kernel_rfl
theorem f68_rs : rsOf QP f68.results.toList = Qv [(RV.t 2)] := by kernel_rfl
theorem f68_nt : f68.ntmps = 15 := by kernel_rfl
theorem f68_ok : callable QP 68 = true := by kernel_rfl
theorem f68_in {gp : Heap} {args : List V} {res : V} (h : G ⟨QP,gp,0,[(RV.t 2)],fun r c => r = res /\ c = [],false⟩ [.code f68_c4,.fin] ⟨args ++ List.replicate (15 - args.length) .un,[]⟩) : Does QP gp 68 args res :=
 does_intro f68_ok func68 f68_body f68_tr f68_rs (by rw [f68_nt]; exact h)
def f69_r0:List MO:=[Qa (Qv 1) (MOp.ibox (Qn 0)),Qa (Qv 2) (Qd (Qo (Qp A.nil)))]
def f69_c0:MC:=.reg false f69_r0
def f69_r1:List MO:=[Qa (Qv 3) (Qd (Qo (Qp A.nil)))]
def f69_c1:MC:=.reg false f69_r1
def f69_r2:List MO:=[Qa (Qv 4) (Qd (Qo (Qp (Qq (Qr Qu 0)))))]
def f69_c2:MC:=.reg false f69_r2
def f69_r3:List MO:=[Qa (Qv 8) (Qd (Qn 4)),Qa (Qv 9) (Qg 4 (Qn 1)),Qa (Qv 10) (Qf 1 false (Qn 9)),Qa (Qv 11) (Qk Qt (Qn 10)),Qa (Qv 12) (Qe Qt Go.BinOp.lss (Qn 8) (Qn 11))]
def f69_c3:MC:=.reg false f69_r3
def f69_c4:MC:=MC.skip
def f69_c5:MC:=(MC.exit 0)
def f69_c6:MC:=.cond (Qn 12) f69_c4 f69_c5
def f69_c7:MC:=.seq f69_c3 f69_c6
def f69_r8:List MO:=[Qa (Qv 5) (Qd (Qo (Qp A.nil)))]
def f69_c8:MC:=.reg false f69_r8
def f69_r9:List MO:=[Qa (Qv 6) (Qd (Qo (Qp (Qq (Qs false)))))]
def f69_c9:MC:=.reg false f69_r9
def f69_r10:List MO:=[Qa (Qv 7) (Qd (Qo (Qp (Qq (Qr Qu 0)))))]
def f69_c10:MC:=.reg false f69_r10
def f69_r11:List MO:=[Qa (Qv 15) (Qd (Qn 7)),Qa (Qv 16) (Qd (Qn 3)),Qa (Qv 17) (Qk Qt (Qn 16)),Qa (Qv 18) (Qe Qt Go.BinOp.lss (Qn 15) (Qn 17))]
def f69_c11:MC:=.reg false f69_r11
def f69_c12:MC:=MC.skip
def f69_c13:MC:=(MC.exit 2)
def f69_c14:MC:=.cond (Qn 18) f69_c12 f69_c13
def f69_c15:MC:=.seq f69_c11 f69_c14
def f69_r16:List MO:=[Qa (Qv 21) (Qd (Qn 6)),Qa (Qv 22) (MOp.not (Qn 21)),Qa (Qv 23) (Qd (Qn 22)),Qb 23 true (Qv 24),Qa (Qv 24) (Qg 4 (Qn 1)),Qb 23 true (Qv 25),Qa (Qv 25) (Qf 1 false (Qn 24)),Qb 23 true (Qv 26),Qa (Qv 26) (Qd (Qn 4)),Qb 23 true (Qv 27),Qa (Qv 27) (Qj 3 (Qn 25) (Qn 26)),Qb 23 true (Qv 28),Qa (Qv 28) (Qf 3 true (Qn 27)),Qb 23 true (Qv 29),Qa (Qv 29) (Qg 4 (Qn 1)),Qb 23 true (Qv 30),Qa (Qv 30) (Qf 1 false (Qn 29)),Qb 23 true (Qv 31),Qa (Qv 31) (Qd (Qn 3)),Qb 23 true (Qv 32),Qa (Qv 32) (Qd (Qn 7)),Qb 23 true (Qv 33),Qa (Qv 33) (Qj 1 (Qn 31) (Qn 32)),Qb 23 true (Qv 34),Qa (Qv 34) (Qf 1 false (Qn 33)),Qb 23 true (Qv 35),Qa (Qv 35) (Qj 3 (Qn 30) (Qn 34)),Qb 23 true (Qv 36),Qa (Qv 36) (Qf 3 true (Qn 35)),Qb 23 true (Qv 37),Qc (Qv 37) (Qh 107 [(Qn 28),(Qn 36)]),Qb 23 true (Qv 38),Qa (Qv 38) (Qe Qt Go.BinOp.lss (Qn 37) (Qo (Qp (Qq (Qr Qu 0))))),Qa (Qv 39) (Qm (Qn 23) (Qn 38) (Qo (Qp (Qq (Qs false)))))]
def f69_c16:MC:=.reg true f69_r16
def f69_r17:List MO:=[Qa (Qv 40) (Qd (Qn 5)),Qa (Qv 41) (Qd (Qn 4)),Qa (Qv 42) (MOp.bslice 1 [(Qr Qu 0)] 1 [(0,(Qn 41))]),Qa (Qv 43) (MOp.app 3 1 8 (Qn 40) (Qn 42)),Qa (Qv 5) (Qd (Qn 43))]
def f69_c17:MC:=.reg false f69_r17
def f69_r18:List MO:=[Qa (Qv 6) (Qd (Qo (Qp (Qq (Qs true)))))]
def f69_c18:MC:=.reg false f69_r18
def f69_c19:MC:=.seq f69_c17 f69_c18
def f69_c20:MC:=MC.skip
def f69_c21:MC:=.cond (Qn 39) f69_c19 f69_c20
def f69_c22:MC:=.seq f69_c16 f69_c21
def f69_r23:List MO:=[Qa (Qv 44) (Qd (Qn 5)),Qa (Qv 45) (Qd (Qn 3)),Qa (Qv 46) (Qd (Qn 7)),Qa (Qv 47) (Qj 1 (Qn 45) (Qn 46)),Qa (Qv 48) (Qf 1 false (Qn 47)),Qa (Qv 49) (MOp.bslice 1 [(Qr Qu 0)] 1 [(0,(Qn 48))]),Qa (Qv 50) (MOp.app 3 1 8 (Qn 44) (Qn 49)),Qa (Qv 5) (Qd (Qn 50))]
def f69_c23:MC:=.reg false f69_r23
def f69_c24:MC:=.seq f69_c22 f69_c23
def f69_c25:MC:=.blk 3 f69_c24
def f69_r26:List MO:=[Qa (Qv 19) (Qd (Qn 7)),Qa (Qv 20) (Qe Qt Go.BinOp.add (Qn 19) (Qo (Qp (Qq (Qr Qu 1))))),Qa (Qv 7) (Qd (Qn 20))]
def f69_c26:MC:=.reg false f69_r26
def f69_c27:MC:=.seq f69_c25 f69_c26
def f69_c28:MC:=.seq f69_c15 f69_c27
def f69_c29:MC:=.loop f69_c28
def f69_c30:MC:=.blk 2 f69_c29
def f69_c31:MC:=.seq f69_c10 f69_c30
def f69_r32:List MO:=[Qa (Qv 51) (Qd (Qn 6)),Qa (Qv 52) (MOp.not (Qn 51))]
def f69_c32:MC:=.reg false f69_r32
def f69_r33:List MO:=[Qa (Qv 53) (Qd (Qn 5)),Qa (Qv 54) (Qd (Qn 4)),Qa (Qv 55) (MOp.bslice 1 [(Qr Qu 0)] 1 [(0,(Qn 54))]),Qa (Qv 56) (MOp.app 3 1 8 (Qn 53) (Qn 55)),Qa (Qv 5) (Qd (Qn 56))]
def f69_c33:MC:=.reg false f69_r33
def f69_c34:MC:=MC.skip
def f69_c35:MC:=.cond (Qn 52) f69_c33 f69_c34
def f69_c36:MC:=.seq f69_c32 f69_c35
def f69_r37:List MO:=[Qa (Qv 57) (Qd (Qn 5)),Qa (Qv 3) (Qd (Qn 57))]
def f69_c37:MC:=.reg false f69_r37
def f69_c38:MC:=.seq f69_c36 f69_c37
def f69_c39:MC:=.seq f69_c31 f69_c38
def f69_c40:MC:=.seq f69_c9 f69_c39
def f69_c41:MC:=.seq f69_c8 f69_c40
def f69_c42:MC:=.blk 1 f69_c41
def f69_r43:List MO:=[Qa (Qv 13) (Qd (Qn 4)),Qa (Qv 14) (Qe Qt Go.BinOp.add (Qn 13) (Qo (Qp (Qq (Qr Qu 1))))),Qa (Qv 4) (Qd (Qn 14))]
def f69_c43:MC:=.reg false f69_r43
def f69_c44:MC:=.seq f69_c42 f69_c43
def f69_c45:MC:=.seq f69_c7 f69_c44
def f69_c46:MC:=.loop f69_c45
def f69_c47:MC:=.blk 0 f69_c46
def f69_c48:MC:=.seq f69_c2 f69_c47
def f69_r49:List MO:=[Qa (Qv 58) (Qd (Qn 3)),Qa (Qv 2) (Qd (Qn 58))]
def f69_c49:MC:=.reg false f69_r49
def f69_c50:MC:=MC.ret
def f69_c51:MC:=.seq f69_c49 f69_c50
def f69_c52:MC:=.seq f69_c48 f69_c51
def f69_c53:MC:=.seq f69_c1 f69_c52
def f69_c54:MC:=.seq f69_c0 f69_c53
attribute [go_sem] f69_r0 f69_r1 f69_r2 f69_r3 f69_r8 f69_r9 f69_r10 f69_r11 f69_r16 f69_r17 f69_r18 f69_r23 f69_r26 f69_r32 f69_r33 f69_r37 f69_r43 f69_r49
noncomputable def f69_code : Code := (f69.body).getD .skip
theorem f69_body : f69.body = Qv f69_code := by kernel_rfl
theorem f69_tr : trC QP [1] f69_code = Qv f69_c54 := by kernel_rfl
theorem f69_rs : rsOf QP f69.results.toList = Qv [(RV.t 2)] := by kernel_rfl
theorem f69_nt : f69.ntmps = 59 := by kernel_rfl
theorem f69_ok : callable QP 69 = true := by kernel_rfl
theorem f69_in {gp : Heap} {args : List V} {res : V} (h : G ⟨QP,gp,0,[(RV.t 2)],fun r c => r = res /\ c = [],false⟩ [.code f69_c54,.fin] ⟨args ++ List.replicate (59 - args.length) .un,[]⟩) : Does QP gp 69 args res :=
 does_intro f69_ok func69 f69_body f69_tr f69_rs (by rw [f69_nt]; exact h)
def f70_r0:List MO:=[Qa (Qv 2) (MOp.ibox (Qn 0)),Qa (Qv 3) (MOp.ibox (Qn 1)),Qa (Qv 4) (Qd (Qo (Qp (Qq (Qs false)))))]
def f70_c0:MC:=.reg false f70_r0
def f70_r1:List MO:=[Qa (Qv 5) (Qg 0 (Qn 2)),Qa (Qv 6) (Qf 1 false (Qn 5)),Qa (Qv 7) (Qg 0 (Qn 3)),Qa (Qv 8) (Qf 1 false (Qn 7)),Qa (Qv 9) (Qe Qt Go.BinOp.eql (Qn 6) (Qn 8)),Qa (Qv 10) (Qd (Qn 9)),Qb 10 true (Qv 11),Qa (Qv 11) (Qg 1 (Qn 2)),Qb 10 true (Qv 12),Qa (Qv 12) (Qf 3 true (Qn 11)),Qb 10 true (Qv 13),Qa (Qv 13) (Qg 1 (Qn 3)),Qb 10 true (Qv 14),Qa (Qv 14) (Qf 3 true (Qn 13)),Qb 10 true (Qv 15),Qa (Qv 15) (MOp.eqs false [Qt,Qt,Leaf.s] (Qn 12) (Qn 14)),Qa (Qv 16) (Qm (Qn 10) (Qn 15) (Qo (Qp (Qq (Qs false))))),Qa (Qv 17) (Qd (Qn 16)),Qb 17 true (Qv 18),Qa (Qv 18) (Qg 4 (Qn 2)),Qb 17 true (Qv 19),Qa (Qv 19) (Qf 1 false (Qn 18)),Qb 17 true (Qv 20),Qa (Qv 20) (Qg 4 (Qn 3)),Qb 17 true (Qv 21),Qa (Qv 21) (Qf 1 false (Qn 20)),Qb 17 true (Qv 22),Qa (Qv 22) (Qh 71 [(Qn 19),(Qn 21)]),Qa (Qv 23) (Qm (Qn 17) (Qn 22) (Qo (Qp (Qq (Qs false))))),Qa (Qv 24) (Qd (Qn 23)),Qb 24 true (Qv 25),Qa (Qv 25) (Qg 5 (Qn 2)),Qb 24 true (Qv 26),Qa (Qv 26) (Qf 1 false (Qn 25)),Qb 24 true (Qv 27),Qa (Qv 27) (Qg 5 (Qn 3)),Qb 24 true (Qv 28),Qa (Qv 28) (Qf 1 false (Qn 27)),Qb 24 true (Qv 29),Qa (Qv 29) (Qh 72 [(Qn 26),(Qn 28)]),Qa (Qv 30) (Qm (Qn 24) (Qn 29) (Qo (Qp (Qq (Qs false))))),Qa (Qv 4) (Qd (Qn 30))]
def f70_c1:MC:=.reg false f70_r1
def f70_c2:MC:=MC.ret
def f70_c3:MC:=.seq f70_c1 f70_c2
def f70_c4:MC:=.seq f70_c0 f70_c3
attribute [go_sem] f70_r0 f70_r1
noncomputable def f70_code : Code := (f70.body).getD .skip
theorem f70_body : f70.body = Qv f70_code := by kernel_rfl
theorem f70_tr : trC QP [2,3] f70_code = Qv f70_c4 := by kernel_rfl
theorem f70_rs : rsOf QP f70.results.toList = Qv [(RV.t 4)] := by kernel_rfl
theorem f70_nt : f70.ntmps = 31 := by kernel_rfl
theorem f70_ok : callable QP 70 = true := by kernel_rfl
theorem f70_in {gp : Heap} {args : List V} {res : V} (h : G ⟨QP,gp,0,[(RV.t 4)],fun r c => r = res /\ c = [],false⟩ [.code f70_c4,.fin] ⟨args ++ List.replicate (31 - args.length) .un,[]⟩) : Does QP gp 70 args res :=
 does_intro f70_ok func70 f70_body f70_tr f70_rs (by rw [f70_nt]; exact h)
def f71_r0:List MO:=[Qa (Qv 4) (Qd (Qo (Qp (Qq (Qs false)))))]
def f71_c0:MC:=.reg false f71_r0
def f71_r1:List MO:=[Qa (Qv 6) (Qd (Qn 0)),Qa (Qv 7) (Qk Qt (Qn 6)),Qa (Qv 8) (Qd (Qn 1)),Qa (Qv 9) (Qk Qt (Qn 8)),Qa (Qv 10) (Qe Qt Go.BinOp.neq (Qn 7) (Qn 9))]
def f71_c1:MC:=.reg false f71_r1
def f71_r2:List MO:=[Qa (Qv 4) (Qd (Qo (Qp (Qq (Qs false)))))]
def f71_c2:MC:=.reg false f71_r2
def f71_c3:MC:=MC.ret
def f71_c4:MC:=.seq f71_c2 f71_c3
def f71_c5:MC:=MC.skip
def f71_c6:MC:=.cond (Qn 10) f71_c4 f71_c5
def f71_c7:MC:=.seq f71_c1 f71_c6
def f71_r8:List MO:=[Qa (Qv 11) (Qd (Qn 0)),Qa (Qv 12) (Qk Qt (Qn 11)),Qa (Qv 13) (Qd (Qo (Qp (Qq (Qr Qu 0)))))]
def f71_c8:MC:=.reg false f71_r8
def f71_r9:List MO:=[Qa (Qv 14) (Qe Qt Go.BinOp.lss (Qn 13) (Qn 12))]
def f71_c9:MC:=.reg false f71_r9
def f71_c10:MC:=MC.skip
def f71_c11:MC:=(MC.exit 0)
def f71_c12:MC:=.cond (Qn 14) f71_c10 f71_c11
def f71_r13:List MO:=[Qa (Qv 15) (Qd (Qn 13)),Qa (Qv 5) (Qd (Qn 15))]
def f71_c13:MC:=.reg false f71_r13
def f71_r14:List MO:=[Qa (Qv 16) (Qd (Qn 0)),Qa (Qv 17) (Qd (Qn 5)),Qa (Qv 18) (Qj 3 (Qn 16) (Qn 17)),Qa (Qv 19) (Qf 3 true (Qn 18)),Qa (Qv 20) (Qd (Qn 1)),Qa (Qv 21) (Qd (Qn 5)),Qa (Qv 22) (Qj 3 (Qn 20) (Qn 21)),Qa (Qv 23) (Qf 3 true (Qn 22)),Qa (Qv 24) (MOp.eqs true [Qt,Qt,Leaf.s] (Qn 19) (Qn 23))]
def f71_c14:MC:=.reg true f71_r14
def f71_r15:List MO:=[Qa (Qv 4) (Qd (Qo (Qp (Qq (Qs false)))))]
def f71_c15:MC:=.reg false f71_r15
def f71_c16:MC:=MC.ret
def f71_c17:MC:=.seq f71_c15 f71_c16
def f71_c18:MC:=MC.skip
def f71_c19:MC:=.cond (Qn 24) f71_c17 f71_c18
def f71_c20:MC:=.seq f71_c14 f71_c19
def f71_c21:MC:=.seq f71_c13 f71_c20
def f71_c22:MC:=.blk 1 f71_c21
def f71_r23:List MO:=[Qa (Qv 25) (Qe Qt Go.BinOp.add (Qn 13) (Qo (Qp (Qq (Qr Qu 1))))),Qa (Qv 13) (Qd (Qn 25))]
def f71_c23:MC:=.reg false f71_r23
def f71_c24:MC:=.seq f71_c22 f71_c23
def f71_c25:MC:=.seq f71_c12 f71_c24
def f71_c26:MC:=.seq f71_c9 f71_c25
def f71_c27:MC:=.loop f71_c26
def f71_c28:MC:=.blk 0 f71_c27
def f71_c29:MC:=.seq f71_c8 f71_c28
def f71_r30:List MO:=[Qa (Qv 4) (Qd (Qo (Qp (Qq (Qs true)))))]
def f71_c30:MC:=.reg false f71_r30
def f71_c31:MC:=MC.ret
def f71_c32:MC:=.seq f71_c30 f71_c31
def f71_c33:MC:=.seq f71_c29 f71_c32
def f71_c34:MC:=.seq f71_c7 f71_c33
def f71_c35:MC:=.seq f71_c0 f71_c34
attribute [go_sem] f71_r0 f71_r1 f71_r2 f71_r8 f71_r9 f71_r13 f71_r14 f71_r15 f71_r23 f71_r30
noncomputable def f71_code : Code := (f71.body).getD .skip
theorem f71_body : f71.body = Qv f71_code := by kernel_rfl
theorem f71_tr : trC QP [] f71_code = Qv f71_c35 := by kernel_rfl
theorem f71_rs : rsOf QP f71.results.toList = Qv [(RV.t 4)] := by kernel_rfl
theorem f71_nt : f71.ntmps = 26 := by kernel_rfl
theorem f71_ok : callable QP 71 = true := by kernel_rfl
theorem f71_in {gp : Heap} {args : List V} {res : V} (h : G ⟨QP,gp,0,[(RV.t 4)],fun r c => r = res /\ c = [],false⟩ [.code f71_c35,.fin] ⟨args ++ List.replicate (26 - args.length) .un,[]⟩) : Does QP gp 71 args res :=
 does_intro f71_ok func71 f71_body f71_tr f71_rs (by rw [f71_nt]; exact h)
def f72_r0:List MO:=[Qa (Qv 4) (Qd (Qo (Qp (Qq (Qs false)))))]
def f72_c0:MC:=.reg false f72_r0
def f72_r1:List MO:=[Qa (Qv 6) (Qd (Qn 0)),Qa (Qv 7) (Qk Qt (Qn 6)),Qa (Qv 8) (Qd (Qn 1)),Qa (Qv 9) (Qk Qt (Qn 8)),Qa (Qv 10) (Qe Qt Go.BinOp.neq (Qn 7) (Qn 9))]
def f72_c1:MC:=.reg false f72_r1
def f72_r2:List MO:=[Qa (Qv 4) (Qd (Qo (Qp (Qq (Qs false)))))]
def f72_c2:MC:=.reg false f72_r2
def f72_c3:MC:=MC.ret
def f72_c4:MC:=.seq f72_c2 f72_c3
def f72_c5:MC:=MC.skip
def f72_c6:MC:=.cond (Qn 10) f72_c4 f72_c5
def f72_c7:MC:=.seq f72_c1 f72_c6
def f72_r8:List MO:=[Qa (Qv 11) (Qd (Qn 0)),Qa (Qv 12) (Qk Qt (Qn 11)),Qa (Qv 13) (Qd (Qo (Qp (Qq (Qr Qu 0)))))]
def f72_c8:MC:=.reg false f72_r8
def f72_r9:List MO:=[Qa (Qv 14) (Qe Qt Go.BinOp.lss (Qn 13) (Qn 12))]
def f72_c9:MC:=.reg false f72_r9
def f72_c10:MC:=MC.skip
def f72_c11:MC:=(MC.exit 0)
def f72_c12:MC:=.cond (Qn 14) f72_c10 f72_c11
def f72_r13:List MO:=[Qa (Qv 15) (Qd (Qn 13)),Qa (Qv 5) (Qd (Qn 15))]
def f72_c13:MC:=.reg false f72_r13
def f72_r14:List MO:=[Qa (Qv 16) (Qd (Qn 0)),Qa (Qv 17) (Qd (Qn 5)),Qa (Qv 18) (Qj 1 (Qn 16) (Qn 17)),Qa (Qv 19) (Qf 1 false (Qn 18)),Qa (Qv 20) (Qd (Qn 1)),Qa (Qv 21) (Qd (Qn 5)),Qa (Qv 22) (Qj 1 (Qn 20) (Qn 21)),Qa (Qv 23) (Qf 1 false (Qn 22)),Qa (Qv 24) (Qe Qt Go.BinOp.neq (Qn 19) (Qn 23))]
def f72_c14:MC:=.reg true f72_r14
def f72_r15:List MO:=[Qa (Qv 4) (Qd (Qo (Qp (Qq (Qs false)))))]
def f72_c15:MC:=.reg false f72_r15
def f72_c16:MC:=MC.ret
def f72_c17:MC:=.seq f72_c15 f72_c16
def f72_c18:MC:=MC.skip
def f72_c19:MC:=.cond (Qn 24) f72_c17 f72_c18
def f72_c20:MC:=.seq f72_c14 f72_c19
def f72_c21:MC:=.seq f72_c13 f72_c20
def f72_c22:MC:=.blk 1 f72_c21
def f72_r23:List MO:=[Qa (Qv 25) (Qe Qt Go.BinOp.add (Qn 13) (Qo (Qp (Qq (Qr Qu 1))))),Qa (Qv 13) (Qd (Qn 25))]
def f72_c23:MC:=.reg false f72_r23
def f72_c24:MC:=.seq f72_c22 f72_c23
def f72_c25:MC:=.seq f72_c12 f72_c24
def f72_c26:MC:=.seq f72_c9 f72_c25
def f72_c27:MC:=.loop f72_c26
def f72_c28:MC:=.blk 0 f72_c27
def f72_c29:MC:=.seq f72_c8 f72_c28
def f72_r30:List MO:=[Qa (Qv 4) (Qd (Qo (Qp (Qq (Qs true)))))]
def f72_c30:MC:=.reg false f72_r30
def f72_c31:MC:=MC.ret
def f72_c32:MC:=.seq f72_c30 f72_c31
def f72_c33:MC:=.seq f72_c29 f72_c32
def f72_c34:MC:=.seq f72_c7 f72_c33
def f72_c35:MC:=.seq f72_c0 f72_c34
attribute [go_sem] f72_r0 f72_r1 f72_r2 f72_r8 f72_r9 f72_r13 f72_r14 f72_r15 f72_r23 f72_r30
noncomputable def f72_code : Code := (f72.body).getD .skip
theorem f72_body : f72.body = Qv f72_code := by kernel_rfl
theorem f72_tr : trC QP [] f72_code = Qv f72_c35 := by kernel_rfl
theorem f72_rs : rsOf QP f72.results.toList = Qv [(RV.t 4)] := by kernel_rfl
theorem f72_nt : f72.ntmps = 26 := by kernel_rfl
theorem f72_ok : callable QP 72 = true := by kernel_rfl
theorem f72_in {gp : Heap} {args : List V} {res : V} (h : G ⟨QP,gp,0,[(RV.t 4)],fun r c => r = res /\ c = [],false⟩ [.code f72_c35,.fin] ⟨args ++ List.replicate (26 - args.length) .un,[]⟩) : Does QP gp 72 args res :=
 does_intro f72_ok func72 f72_body f72_tr f72_rs (by rw [f72_nt]; exact h)
def f73_r0:List MO:=[Qa (Qv 6) (Qd (Qo (Qp (Qq (Qs false)))))]
def f73_c0:MC:=.reg false f73_r0
def f73_r1:List MO:=[Qa (Qv 10) (Qd (Qn 0)),Qa (Qv 11) (Qk Qt (Qn 10)),Qa (Qv 12) (Qd (Qn 1)),Qa (Qv 13) (Qk Qt (Qn 12)),Qa (Qv 14) (Qe Qt Go.BinOp.neq (Qn 11) (Qn 13))]
def f73_c1:MC:=.reg false f73_r1
def f73_r2:List MO:=[Qa (Qv 6) (Qd (Qo (Qp (Qq (Qs false)))))]
def f73_c2:MC:=.reg false f73_r2
def f73_c3:MC:=MC.ret
def f73_c4:MC:=.seq f73_c2 f73_c3
def f73_c5:MC:=MC.skip
def f73_c6:MC:=.cond (Qn 14) f73_c4 f73_c5
def f73_c7:MC:=.seq f73_c1 f73_c6
def f73_r8:List MO:=[Qa (Qv 15) (Qd (Qn 0)),Qa (Qv 16) (Qk Qt (Qn 15)),Qa (Qv 17) (Qd (Qo (Qp (Qq (Qr Qu 0)))))]
def f73_c8:MC:=.reg false f73_r8
def f73_r9:List MO:=[Qa (Qv 18) (Qe Qt Go.BinOp.lss (Qn 17) (Qn 16))]
def f73_c9:MC:=.reg false f73_r9
def f73_c10:MC:=MC.skip
def f73_c11:MC:=(MC.exit 0)
def f73_c12:MC:=.cond (Qn 18) f73_c10 f73_c11
def f73_r13:List MO:=[Qa (Qv 19) (Qd (Qn 17)),Qa (Qv 20) (Qj 6 (Qn 15) (Qn 17)),Qa (Qv 21) (Qf 6 true (Qn 20)),Qa (Qv 8) (MOp.alloc [(Qr Qu 0),(Qr Qu 0),(Qr Qu 0),(D.str (ByteArray.mk #[])),(D.sl []),(D.sl [])]),Qa (Qv 7) (Qd (Qn 19)),Qa none (Ql 6 (Qn 8) (Qn 21))]
def f73_c13:MC:=.reg false f73_r13
def f73_r14:List MO:=[Qa (Qv 22) (Qd (Qn 1)),Qa (Qv 23) (Qd (Qn 7)),Qa (Qv 24) (Qj 6 (Qn 22) (Qn 23)),Qa (Qv 25) (Qf 6 true (Qn 24)),Qa (Qv 9) (MOp.alloc [(Qr Qu 0),(Qr Qu 0),(Qr Qu 0),(D.str (ByteArray.mk #[])),(D.sl []),(D.sl [])]),Qa none (Ql 6 (Qn 9) (Qn 25))]
def f73_c14:MC:=.reg false f73_r14
def f73_r15:List MO:=[Qa (Qv 26) (Qd (Qn 2)),Qa (Qv 27) (Qf 6 true (Qn 8)),Qa (Qv 28) (Qf 6 true (Qn 9)),Qa (Qv 29) (MOp.callv (Qn 26) [(Qn 27),(Qn 28)]),Qa (Qv 30) (MOp.not (Qn 29))]
def f73_c15:MC:=.reg false f73_r15
def f73_r16:List MO:=[Qa (Qv 6) (Qd (Qo (Qp (Qq (Qs false)))))]
def f73_c16:MC:=.reg false f73_r16
def f73_c17:MC:=MC.ret
def f73_c18:MC:=.seq f73_c16 f73_c17
def f73_c19:MC:=MC.skip
def f73_c20:MC:=.cond (Qn 30) f73_c18 f73_c19
def f73_c21:MC:=.seq f73_c15 f73_c20
def f73_c22:MC:=.seq f73_c14 f73_c21
def f73_c23:MC:=.seq f73_c13 f73_c22
def f73_c24:MC:=.blk 1 f73_c23
def f73_r25:List MO:=[Qa (Qv 31) (Qe Qt Go.BinOp.add (Qn 17) (Qo (Qp (Qq (Qr Qu 1))))),Qa (Qv 17) (Qd (Qn 31))]
def f73_c25:MC:=.reg false f73_r25
def f73_c26:MC:=.seq f73_c24 f73_c25
def f73_c27:MC:=.seq f73_c12 f73_c26
def f73_c28:MC:=.seq f73_c9 f73_c27
def f73_c29:MC:=.loop f73_c28
def f73_c30:MC:=.blk 0 f73_c29
def f73_c31:MC:=.seq f73_c8 f73_c30
def f73_r32:List MO:=[Qa (Qv 6) (Qd (Qo (Qp (Qq (Qs true)))))]
def f73_c32:MC:=.reg false f73_r32
def f73_c33:MC:=MC.ret
def f73_c34:MC:=.seq f73_c32 f73_c33
def f73_c35:MC:=.seq f73_c31 f73_c34
def f73_c36:MC:=.seq f73_c7 f73_c35
def f73_c37:MC:=.seq f73_c0 f73_c36
attribute [go_sem] f73_r0 f73_r1 f73_r2 f73_r8 f73_r9 f73_r13 f73_r14 f73_r15 f73_r16 f73_r25 f73_r32
noncomputable def f73_code : Code := (f73.body).getD .skip
theorem f73_body : f73.body = Qv f73_code := by kernel_rfl
theorem f73_tr : trC QP [] f73_code = Qv f73_c37 := by kernel_rfl
theorem f73_rs : rsOf QP f73.results.toList = Qv [(RV.t 6)] := by kernel_rfl
theorem f73_nt : f73.ntmps = 32 := by kernel_rfl
theorem f73_ok : callable QP 73 = true := by kernel_rfl
theorem f73_in {gp : Heap} {args : List V} {res : V} (h : G ⟨QP,gp,0,[(RV.t 6)],fun r c => r = res /\ c = [],false⟩ [.code f73_c37,.fin] ⟨args ++ List.replicate (32 - args.length) .un,[]⟩) : Does QP gp 73 args res :=
 does_intro f73_ok func73 f73_body f73_tr f73_rs (by rw [f73_nt]; exact h)
def f98_r0:List MO:=[Qa (Qv 2) (MOp.ibox (Qn 0)),Qa (Qv 4) (Qd (Qo (Qp (Qq (Qs false)))))]
def f98_c0:MC:=.reg false f98_r0
def f98_r1:List MO:=[Qa (Qv 5) (Qd (Qn 1)),Qa (Qv 6) (Qe Qt Go.BinOp.geq (Qn 5) (Qo (Qp (Qq (Qr Qu 0))))),Qa (Qv 7) (Qd (Qn 6)),Qb 7 true (Qv 8),Qa (Qv 8) (Qd (Qn 1)),Qb 7 true (Qv 9),Qa (Qv 9) (Qg 1 (Qn 2)),Qb 7 true (Qv 10),Qa (Qv 10) (Qf 1 false (Qn 9)),Qb 7 true (Qv 11),Qa (Qv 11) (Qk Qt (Qn 10)),Qb 7 true (Qv 12),Qa (Qv 12) (Qe Qt Go.BinOp.lss (Qn 8) (Qn 11)),Qa (Qv 13) (Qm (Qn 7) (Qn 12) (Qo (Qp (Qq (Qs false))))),Qa (Qv 4) (Qd (Qn 13))]
def f98_c1:MC:=.reg false f98_r1
def f98_c2:MC:=MC.ret
def f98_c3:MC:=.seq f98_c1 f98_c2
def f98_c4:MC:=.seq f98_c0 f98_c3
attribute [go_sem] f98_r0 f98_r1
noncomputable def f98_code : Code := (f98.body).getD .skip
theorem f98_body : f98.body = Qv f98_code := by kernel_rfl
theorem f98_tr : trC QP [2] f98_code = Qv f98_c4 := by kernel_rfl
theorem f98_rs : rsOf QP f98.results.toList = Qv [(RV.t 4)] := by kernel_rfl
theorem f98_nt : f98.ntmps = 14 := by kernel_rfl
theorem f98_ok : callable QP 98 = true := by kernel_rfl
theorem f98_in {gp : Heap} {args : List V} {res : V} (h : G ⟨QP,gp,0,[(RV.t 4)],fun r c => r = res /\ c = [],false⟩ [.code f98_c4,.fin] ⟨args ++ List.replicate (14 - args.length) .un,[]⟩) : Does QP gp 98 args res :=
 does_intro f98_ok func98 f98_body f98_tr f98_rs (by rw [f98_nt]; exact h)
def f99_r0:List MO:=[Qa (Qv 1) (MOp.ibox (Qn 0)),Qa (Qv 2) (Qd (Qo (Qp (Qq D.nilF))))]
def f99_c0:MC:=.reg false f99_r0
def f99_r1:List MO:=[Qa (Qv 3) (MOp.mkF (Go.Fn.func 125) [(Qn 1)]),Qa (Qv 2) (Qd (Qn 3))]
def f99_c1:MC:=.reg false f99_r1
def f99_c2:MC:=MC.ret
def f99_c3:MC:=.seq f99_c1 f99_c2
def f99_c4:MC:=.seq f99_c0 f99_c3
attribute [go_sem] f99_r0 f99_r1
noncomputable def f99_code : Code := (f99.body).getD .skip
theorem f99_body : f99.body = Qv f99_code := by kernel_rfl
theorem f99_tr : trC QP [1] f99_code = Qv f99_c4 := by kernel_rfl
theorem f99_rs : rsOf QP f99.results.toList = Qv [(RV.t 2)] := by kernel_rfl
theorem f99_nt : f99.ntmps = 4 := by kernel_rfl
theorem f99_ok : callable QP 99 = true := by kernel_rfl
theorem f99_in {gp : Heap} {args : List V} {res : V} (h : G ⟨QP,gp,0,[(RV.t 2)],fun r c => r = res /\ c = [],false⟩ [.code f99_c4,.fin] ⟨args ++ List.replicate (4 - args.length) .un,[]⟩) : Does QP gp 99 args res :=
 does_intro f99_ok func99 f99_body f99_tr f99_rs (by rw [f99_nt]; exact h)
def f100_r0:List MO:=[Qa (Qv 1) (MOp.ibox (Qn 0)),Qa (Qv 2) (Qd (Qo (Qp (Qq (Qs false)))))]
def f100_c0:MC:=.reg false f100_r0
def f100_r1:List MO:=[Qa (Qv 4) (MOp.build [D.nilF,D.nilF,D.nilF] [(0,(1,(Qo (Qp (Qq (D.fn (Go.Fn.func 126) [])))))),(1,(1,(Qo (Qp (Qq (D.fn (Go.Fn.func 127) [])))))),(2,(1,(Qo (Qp (Qq (D.fn (Go.Fn.func 128) []))))))]),Qa (Qv 3) (MOp.alloc [D.nilF,D.nilF,D.nilF]),Qa none (Ql 3 (Qn 3) (Qn 4))]
def f100_c1:MC:=.reg false f100_r1
def f100_r2:List MO:=[Qa (Qv 5) (Qg 0 (Qn 1)),Qa (Qv 6) (Qg 0 (Qn 5)),Qa (Qv 7) (Qf 1 false (Qn 6)),Qa (Qv 8) (Qe Qt Go.BinOp.geq (Qn 7) (Qo (Qp (Qq (Qr Qu 0))))),Qa (Qv 9) (Qd (Qn 8)),Qb 9 true (Qv 10),Qa (Qv 10) (Qg 0 (Qn 1)),Qb 9 true (Qv 11),Qa (Qv 11) (Qg 0 (Qn 10)),Qb 9 true (Qv 12),Qa (Qv 12) (Qf 1 false (Qn 11)),Qb 9 true (Qv 13),Qa (Qv 13) (Qe Qt Go.BinOp.lss (Qn 12) (Qo (Qp (Qq (Qr Qu 3))))),Qa (Qv 14) (Qm (Qn 9) (Qn 13) (Qo (Qp (Qq (Qs false))))),Qa (Qv 15) (Qd (Qn 14)),Qb 15 true (Qv 16),Qa (Qv 16) (Qg 0 (Qn 1)),Qb 15 true (Qv 17),Qa (Qv 17) (Qg 0 (Qn 16)),Qb 15 true (Qv 18),Qa (Qv 18) (Qf 1 false (Qn 17)),Qb 15 true (Qv 19),Qa (Qv 19) (MOp.iadA 3 1 (Qn 3) (Qn 18)),Qb 15 true (Qv 20),Qa (Qv 20) (Qf 1 false (Qn 19)),Qb 15 true (Qv 21),Qa (Qv 21) (Qf 7 true (Qn 1)),Qb 15 true (Qv 22),Qc (Qv 22) (MOp.callv (Qn 20) [(Qn 21)]),Qa (Qv 23) (Qm (Qn 15) (Qn 22) (Qo (Qp (Qq (Qs false))))),Qa (Qv 2) (Qd (Qn 23))]
def f100_c2:MC:=.reg true f100_r2
def f100_c3:MC:=MC.ret
def f100_c4:MC:=.seq f100_c2 f100_c3
def f100_c5:MC:=.seq f100_c1 f100_c4
def f100_c6:MC:=.seq f100_c0 f100_c5
attribute [go_sem] f100_r0 f100_r1 f100_r2
noncomputable def f100_code : Code := (f100.body).getD .skip
theorem f100_body : f100.body = Qv f100_code := by kernel_rfl
theorem f100_tr : trC QP [1] f100_code = Qv f100_c6 := by kernel_rfl
theorem f100_rs : rsOf QP f100.results.toList = Qv [(RV.t 2)] := by kernel_rfl
theorem f100_nt : f100.ntmps = 24 := by kernel_rfl
theorem f100_ok : callable QP 100 = true := by kernel_rfl
theorem f100_in {gp : Heap} {args : List V} {res : V} (h : G ⟨QP,gp,0,[(RV.t 2)],fun r c => r = res /\ c = [],false⟩ [.code f100_c6,.fin] ⟨args ++ List.replicate (24 - args.length) .un,[]⟩) : Does QP gp 100 args res :=
 does_intro f100_ok func100 f100_body f100_tr f100_rs (by rw [f100_nt]; exact h)
def f102_r0:List MO:=[Qa (Qv 2) (Qd (Qo (Qp (Qq (Qs false)))))]
def f102_c0:MC:=.reg false f102_r0
def f102_r1:List MO:=[Qa (Qv 3) (Qd (Qo (Qp (Qq (Qr Qu 0)))))]
def f102_c1:MC:=.reg false f102_r1
def f102_r2:List MO:=[Qa (Qv 5) (Qd (Qn 3)),Qa (Qv 6) (Qd (Qn 0)),Qa (Qv 7) (Qk Qt (Qn 6)),Qa (Qv 8) (Qe Qt Go.BinOp.lss (Qn 5) (Qn 7))]
def f102_c2:MC:=.reg false f102_r2
def f102_c3:MC:=MC.skip
def f102_c4:MC:=(MC.exit 0)
def f102_c5:MC:=.cond (Qn 8) f102_c3 f102_c4
def f102_c6:MC:=.seq f102_c2 f102_c5
def f102_r7:List MO:=[Qa (Qv 4) (Qd (Qo (Qp (Qq (Qr Qu 0)))))]
def f102_c7:MC:=.reg false f102_r7
def f102_r8:List MO:=[Qa (Qv 11) (Qd (Qn 4)),Qa (Qv 12) (Qd (Qn 3)),Qa (Qv 13) (Qe Qt Go.BinOp.lss (Qn 11) (Qn 12))]
def f102_c8:MC:=.reg false f102_r8
def f102_c9:MC:=MC.skip
def f102_c10:MC:=(MC.exit 2)
def f102_c11:MC:=.cond (Qn 13) f102_c9 f102_c10
def f102_c12:MC:=.seq f102_c8 f102_c11
def f102_r13:List MO:=[Qa (Qv 16) (Qd (Qn 0)),Qa (Qv 17) (Qd (Qn 3)),Qa (Qv 18) (Qj 3 (Qn 16) (Qn 17)),Qa (Qv 19) (Qf 3 true (Qn 18)),Qa (Qv 20) (Qd (Qn 0)),Qa (Qv 21) (Qd (Qn 4)),Qa (Qv 22) (Qj 3 (Qn 20) (Qn 21)),Qa (Qv 23) (Qf 3 true (Qn 22)),Qa (Qv 24) (MOp.eqs false [Qt,Qt,Leaf.s] (Qn 19) (Qn 23))]
def f102_c13:MC:=.reg true f102_r13
def f102_r14:List MO:=[Qa (Qv 2) (Qd (Qo (Qp (Qq (Qs true)))))]
def f102_c14:MC:=.reg false f102_r14
def f102_c15:MC:=MC.ret
def f102_c16:MC:=.seq f102_c14 f102_c15
def f102_c17:MC:=MC.skip
def f102_c18:MC:=.cond (Qn 24) f102_c16 f102_c17
def f102_c19:MC:=.seq f102_c13 f102_c18
def f102_c20:MC:=.blk 3 f102_c19
def f102_r21:List MO:=[Qa (Qv 14) (Qd (Qn 4)),Qa (Qv 15) (Qe Qt Go.BinOp.add (Qn 14) (Qo (Qp (Qq (Qr Qu 1))))),Qa (Qv 4) (Qd (Qn 15))]
def f102_c21:MC:=.reg false f102_r21
def f102_c22:MC:=.seq f102_c20 f102_c21
def f102_c23:MC:=.seq f102_c12 f102_c22
def f102_c24:MC:=.loop f102_c23
def f102_c25:MC:=.blk 2 f102_c24
def f102_c26:MC:=.seq f102_c7 f102_c25
def f102_c27:MC:=.blk 1 f102_c26
def f102_r28:List MO:=[Qa (Qv 9) (Qd (Qn 3)),Qa (Qv 10) (Qe Qt Go.BinOp.add (Qn 9) (Qo (Qp (Qq (Qr Qu 1))))),Qa (Qv 3) (Qd (Qn 10))]
def f102_c28:MC:=.reg false f102_r28
def f102_c29:MC:=.seq f102_c27 f102_c28
def f102_c30:MC:=.seq f102_c6 f102_c29
def f102_c31:MC:=.loop f102_c30
def f102_c32:MC:=.blk 0 f102_c31
def f102_c33:MC:=.seq f102_c1 f102_c32
def f102_r34:List MO:=[Qa (Qv 2) (Qd (Qo (Qp (Qq (Qs false)))))]
def f102_c34:MC:=.reg false f102_r34
def f102_c35:MC:=MC.ret
def f102_c36:MC:=.seq f102_c34 f102_c35
def f102_c37:MC:=.seq f102_c33 f102_c36
def f102_c38:MC:=.seq f102_c0 f102_c37
attribute [go_sem] f102_r0 f102_r1 f102_r2 f102_r7 f102_r8 f102_r13 f102_r14 f102_r21 f102_r28 f102_r34
noncomputable def f102_code : Code := (f102.body).getD .skip
theorem f102_body : f102.body = Qv f102_code := by kernel_rfl
theorem f102_tr : trC QP [] f102_code = Qv f102_c38 := by kernel_rfl
theorem f102_rs : rsOf QP f102.results.toList = Qv [(RV.t 2)] := by kernel_rfl
theorem f102_nt : f102.ntmps = 25 := by kernel_rfl
theorem f102_ok : callable QP 102 = true := by kernel_rfl
theorem f102_in {gp : Heap} {args : List V} {res : V} (h : G ⟨QP,gp,0,[(RV.t 2)],fun r c => r = res /\ c = [],false⟩ [.code f102_c38,.fin] ⟨args ++ List.replicate (25 - args.length) .un,[]⟩) : Does QP gp 102 args res :=
 does_intro f102_ok func102 f102_body f102_tr f102_rs (by rw [f102_nt]; exact h)
def f103_r0:List MO:=[Qa (Qv 1) (MOp.ibox (Qn 0)),Qa (Qv 2) (Qd (Qo (Qp (Qq (Qs false)))))]
def f103_c0:MC:=.reg false f103_r0
def f103_r1:List MO:=[Qa (Qv 3) (Qg 0 (Qn 1)),Qa (Qv 4) (Qg 4 (Qn 3)),Qa (Qv 5) (Qf 1 false (Qn 4)),Qa (Qv 6) (Qk Qt (Qn 5)),Qa (Qv 7) (Qg 0 (Qn 1)),Qa (Qv 8) (Qg 5 (Qn 7)),Qa (Qv 9) (Qf 1 false (Qn 8)),Qa (Qv 10) (Qk Qt (Qn 9)),Qa (Qv 11) (Qe Qt Go.BinOp.eql (Qn 6) (Qn 10)),Qa (Qv 2) (Qd (Qn 11))]
def f103_c1:MC:=.reg false f103_r1
def f103_c2:MC:=MC.ret
def f103_c3:MC:=.seq f103_c1 f103_c2
def f103_c4:MC:=.seq f103_c0 f103_c3
attribute [go_sem] f103_r0 f103_r1
noncomputable def f103_code : Code := (f103.body).getD .skip
theorem f103_body : f103.body = Qv f103_code := by kernel_rfl
theorem f103_tr : trC QP [1] f103_code = Qv f103_c4 := by kernel_rfl
theorem f103_rs : rsOf QP f103.results.toList = Qv [(RV.t 2)] := by kernel_rfl
theorem f103_nt : f103.ntmps = 12 := by kernel_rfl
theorem f103_ok : callable QP 103 = true := by kernel_rfl
theorem f103_in {gp : Heap} {args : List V} {res : V} (h : G ⟨QP,gp,0,[(RV.t 2)],fun r c => r = res /\ c = [],false⟩ [.code f103_c4,.fin] ⟨args ++ List.replicate (12 - args.length) .un,[]⟩) : Does QP gp 103 args res :=
 does_intro f103_ok func103 f103_body f103_tr f103_rs (by rw [f103_nt]; exact h)
def f104_r0:List MO:=[Qa (Qv 4) (Qd (Qn 0)),Qa (Qv 5) (Qd (Qn 0)),Qa (Qv 6) (Qk Qt (Qn 5)),Qa (Qv 7) (Qd (Qn 1)),Qa (Qv 8) (Qh 130 [(Qn 4),(Qn 6),(Qn 7)])]
def f104_c0:MC:=.reg false f104_r0
attribute [go_sem] f104_r0
noncomputable def f104_code : Code := (f104.body).getD .skip
theorem f104_body : f104.body = Qv f104_code := by kernel_rfl
theorem f104_tr : trC QP [] f104_code = Qv f104_c0 := by kernel_rfl
theorem f104_rs : rsOf QP f104.results.toList = Qv [] := by kernel_rfl
theorem f104_nt : f104.ntmps = 9 := by kernel_rfl
theorem f104_ok : callable QP 104 = true := by kernel_rfl
theorem f104_tri {gp : Heap} {args : List V} {pre : List Ch} {R : V -> List Ch -> Prop} (h : G ⟨QP,gp,pre.length,[],R,false⟩ [.code f104_c0,.fin] ⟨args ++ List.replicate (9 - args.length) .un,pre⟩) : Tri QP gp 104 args pre R :=
 tri_intro func104 f104_body f104_tr f104_rs (by rw [f104_nt]; exact h)
def f105_r0:List MO:=[Qa (Qv 2) (MOp.ibox (Qn 0)),Qa (Qv 3) (MOp.ibox (Qn 1)),Qa (Qv 4) (Qd (Qo (Qp (Qq (Qr Qu 0)))))]
def f105_c0:MC:=.reg false f105_r0
def f105_r1:List MO:=[Qa (Qv 5) (Qg 0 (Qn 2)),Qa (Qv 6) (Qf 3 true (Qn 5)),Qa (Qv 7) (Qg 0 (Qn 3)),Qa (Qv 8) (Qf 3 true (Qn 7)),Qa (Qv 9) (Qh 106 [(Qn 6),(Qn 8)]),Qa (Qv 4) (Qd (Qn 9))]
def f105_c1:MC:=.reg false f105_r1
def f105_c2:MC:=MC.ret
def f105_c3:MC:=.seq f105_c1 f105_c2
def f105_c4:MC:=.seq f105_c0 f105_c3
attribute [go_sem] f105_r0 f105_r1
noncomputable def f105_code : Code := (f105.body).getD .skip
theorem f105_body : f105.body = Qv f105_code := by kernel_rfl
theorem f105_tr : trC QP [2,3] f105_code = Qv f105_c4 := by kernel_rfl
theorem f105_rs : rsOf QP f105.results.toList = Qv [(RV.t 4)] := by kernel_rfl
theorem f105_nt : f105.ntmps = 10 := by kernel_rfl
theorem f105_ok : callable QP 105 = true := by kernel_rfl
theorem f105_in {gp : Heap} {args : List V} {res : V} (h : G ⟨QP,gp,0,[(RV.t 4)],fun r c => r = res /\ c = [],false⟩ [.code f105_c4,.fin] ⟨args ++ List.replicate (10 - args.length) .un,[]⟩) : Does QP gp 105 args res :=
 does_intro f105_ok func105 f105_body f105_tr f105_rs (by rw [f105_nt]; exact h)
def f106_r0:List MO:=[Qa (Qv 2) (MOp.ibox (Qn 0)),Qa (Qv 3) (MOp.ibox (Qn 1)),Qa (Qv 4) (Qd (Qo (Qp (Qq (Qr Qu 0)))))]
def f106_c0:MC:=.reg false f106_r0
def f106_r1:List MO:=[Qa (Qv 5) (Qf 3 true (Qn 2)),Qa (Qv 6) (Qf 3 true (Qn 3)),Qa (Qv 7) (MOp.eqs false [Qt,Qt,Leaf.s] (Qn 5) (Qn 6))]
def f106_c1:MC:=.reg false f106_r1
def f106_r2:List MO:=[Qa (Qv 4) (Qd (Qo (Qp (Qq (Qr Qu 0)))))]
def f106_c2:MC:=.reg false f106_r2
def f106_c3:MC:=MC.ret
def f106_c4:MC:=.seq f106_c2 f106_c3
def f106_c5:MC:=MC.skip
def f106_c6:MC:=.cond (Qn 7) f106_c4 f106_c5
def f106_c7:MC:=.seq f106_c1 f106_c6
def f106_r8:List MO:=[Qa (Qv 8) (Qg 0 (Qn 2)),Qa (Qv 9) (Qf 1 false (Qn 8)),Qa (Qv 10) (Qg 0 (Qn 3)),Qa (Qv 11) (Qf 1 false (Qn 10)),Qa (Qv 12) (Qh 132 [(Qn 9),(Qn 11)]),Qa (Qv 13) (Qg 1 (Qn 2)),Qa (Qv 14) (Qf 1 false (Qn 13)),Qa (Qv 15) (Qg 1 (Qn 3)),Qa (Qv 16) (Qf 1 false (Qn 15)),Qa (Qv 17) (Qh 132 [(Qn 14),(Qn 16)]),Qa (Qv 18) (Qg 2 (Qn 2)),Qa (Qv 19) (Qf 1 false (Qn 18)),Qa (Qv 20) (Qg 2 (Qn 3)),Qa (Qv 21) (Qf 1 false (Qn 20)),Qc (Qv 22) (Qh 133 [(Qn 19),(Qn 21)]),Qa (Qv 23) (MOp.bslice 1 [(Qr Qu 0)] 3 [(0,(Qn 12)),(1,(Qn 17)),(2,(Qn 22))]),Qc (Qv 24) (Qh 131 [(Qn 23)]),Qa (Qv 4) (Qd (Qn 24))]
def f106_c8:MC:=.reg true f106_r8
def f106_c9:MC:=MC.ret
def f106_c10:MC:=.seq f106_c8 f106_c9
def f106_c11:MC:=.seq f106_c7 f106_c10
def f106_c12:MC:=.seq f106_c0 f106_c11
attribute [go_sem] f106_r0 f106_r1 f106_r2 f106_r8
noncomputable def f106_code : Code := (f106.body).getD .skip
theorem f106_body : f106.body = Qv f106_code := by kernel_rfl
theorem f106_tr : trC QP [2,3] f106_code = Qv f106_c12 := by kernel_rfl
theorem f106_rs : rsOf QP f106.results.toList = Qv [(RV.t 4)] := by kernel_rfl
theorem f106_nt : f106.ntmps = 25 := by kernel_rfl
theorem f106_ok : callable QP 106 = true := by kernel_rfl
theorem f106_in {gp : Heap} {args : List V} {res : V} (h : G ⟨QP,gp,0,[(RV.t 4)],fun r c => r = res /\ c = [],false⟩ [.code f106_c12,.fin] ⟨args ++ List.replicate (25 - args.length) .un,[]⟩) : Does QP gp 106 args res :=
 does_intro f106_ok func106 f106_body f106_tr f106_rs (by rw [f106_nt]; exact h)
def f107_r0:List MO:=[Qa (Qv 2) (MOp.ibox (Qn 0)),Qa (Qv 3) (MOp.ibox (Qn 1)),Qa (Qv 4) (Qd (Qo (Qp (Qq (Qr Qu 0)))))]
def f107_c0:MC:=.reg false f107_r0
def f107_r1:List MO:=[Qa (Qv 6) (Qg 0 (Qn 2)),Qa (Qv 7) (Qf 1 false (Qn 6)),Qa (Qv 8) (Qg 0 (Qn 3)),Qa (Qv 9) (Qf 1 false (Qn 8)),Qa (Qv 10) (Qe Qt Go.BinOp.lss (Qn 7) (Qn 9)),Qa (Qv 5) (Qd (Qn 10))]
def f107_c1:MC:=.reg false f107_r1
def f107_r2:List MO:=[Qa (Qv 4) (Qd (Qo (Qp (Qq (Qr Qu (-1))))))]
def f107_c2:MC:=.reg false f107_r2
def f107_c3:MC:=MC.ret
def f107_c4:MC:=.seq f107_c2 f107_c3
def f107_r5:List MO:=[Qa (Qv 12) (Qg 0 (Qn 2)),Qa (Qv 13) (Qf 1 false (Qn 12)),Qa (Qv 14) (Qg 0 (Qn 3)),Qa (Qv 15) (Qf 1 false (Qn 14)),Qa (Qv 16) (Qe Qt Go.BinOp.gtr (Qn 13) (Qn 15)),Qa (Qv 11) (Qd (Qn 16))]
def f107_c5:MC:=.reg false f107_r5
def f107_r6:List MO:=[Qa (Qv 4) (Qd (Qo (Qp (Qq (Qr Qu 1)))))]
def f107_c6:MC:=.reg false f107_r6
def f107_c7:MC:=MC.ret
def f107_c8:MC:=.seq f107_c6 f107_c7
def f107_r9:List MO:=[Qa (Qv 18) (Qg 1 (Qn 2)),Qa (Qv 19) (Qf 1 false (Qn 18)),Qa (Qv 20) (Qg 1 (Qn 3)),Qa (Qv 21) (Qf 1 false (Qn 20)),Qa (Qv 22) (Qe Qt Go.BinOp.lss (Qn 19) (Qn 21)),Qa (Qv 17) (Qd (Qn 22))]
def f107_c9:MC:=.reg false f107_r9
def f107_r10:List MO:=[Qa (Qv 4) (Qd (Qo (Qp (Qq (Qr Qu (-1))))))]
def f107_c10:MC:=.reg false f107_r10
def f107_c11:MC:=MC.ret
def f107_c12:MC:=.seq f107_c10 f107_c11
def f107_r13:List MO:=[Qa (Qv 24) (Qg 1 (Qn 2)),Qa (Qv 25) (Qf 1 false (Qn 24)),Qa (Qv 26) (Qg 1 (Qn 3)),Qa (Qv 27) (Qf 1 false (Qn 26)),Qa (Qv 28) (Qe Qt Go.BinOp.gtr (Qn 25) (Qn 27)),Qa (Qv 23) (Qd (Qn 28))]
def f107_c13:MC:=.reg false f107_r13
def f107_r14:List MO:=[Qa (Qv 4) (Qd (Qo (Qp (Qq (Qr Qu 1)))))]
def f107_c14:MC:=.reg false f107_r14
def f107_c15:MC:=MC.ret
def f107_c16:MC:=.seq f107_c14 f107_c15
def f107_r17:List MO:=[Qa (Qv 30) (Qg 2 (Qn 2)),Qa (Qv 31) (Qf 1 false (Qn 30)),Qa (Qv 32) (Qg 2 (Qn 3)),Qa (Qv 33) (Qf 1 false (Qn 32)),Qa (Qv 34) (Qe Leaf.s Go.BinOp.lss (Qn 31) (Qn 33)),Qa (Qv 29) (Qd (Qn 34))]
def f107_c17:MC:=.reg false f107_r17
def f107_r18:List MO:=[Qa (Qv 4) (Qd (Qo (Qp (Qq (Qr Qu (-1))))))]
def f107_c18:MC:=.reg false f107_r18
def f107_c19:MC:=MC.ret
def f107_c20:MC:=.seq f107_c18 f107_c19
def f107_r21:List MO:=[Qa (Qv 36) (Qg 2 (Qn 2)),Qa (Qv 37) (Qf 1 false (Qn 36)),Qa (Qv 38) (Qg 2 (Qn 3)),Qa (Qv 39) (Qf 1 false (Qn 38)),Qa (Qv 40) (Qe Leaf.s Go.BinOp.gtr (Qn 37) (Qn 39)),Qa (Qv 35) (Qd (Qn 40))]
def f107_c21:MC:=.reg false f107_r21
def f107_r22:List MO:=[Qa (Qv 4) (Qd (Qo (Qp (Qq (Qr Qu 1)))))]
def f107_c22:MC:=.reg false f107_r22
def f107_c23:MC:=MC.ret
def f107_c24:MC:=.seq f107_c22 f107_c23
def f107_c25:MC:=MC.skip
def f107_c26:MC:=.cond (Qn 35) f107_c24 f107_c25
def f107_c27:MC:=.seq f107_c21 f107_c26
def f107_c28:MC:=.cond (Qn 29) f107_c20 f107_c27
def f107_c29:MC:=.seq f107_c17 f107_c28
def f107_c30:MC:=.cond (Qn 23) f107_c16 f107_c29
def f107_c31:MC:=.seq f107_c13 f107_c30
def f107_c32:MC:=.cond (Qn 17) f107_c12 f107_c31
def f107_c33:MC:=.seq f107_c9 f107_c32
def f107_c34:MC:=.cond (Qn 11) f107_c8 f107_c33
def f107_c35:MC:=.seq f107_c5 f107_c34
def f107_c36:MC:=.cond (Qn 5) f107_c4 f107_c35
def f107_c37:MC:=.seq f107_c1 f107_c36
def f107_c38:MC:=.blk 0 f107_c37
def f107_r39:List MO:=[Qa (Qv 4) (Qd (Qo (Qp (Qq (Qr Qu 0)))))]
def f107_c39:MC:=.reg false f107_r39
def f107_c40:MC:=MC.ret
def f107_c41:MC:=.seq f107_c39 f107_c40
def f107_c42:MC:=.seq f107_c38 f107_c41
def f107_c43:MC:=.seq f107_c0 f107_c42
attribute [go_sem] f107_r0 f107_r1 f107_r2 f107_r5 f107_r6 f107_r9 f107_r10 f107_r13 f107_r14 f107_r17 f107_r18 f107_r21 f107_r22 f107_r39
noncomputable def f107_code : Code := (f107.body).getD .skip
theorem f107_body : f107.body = Qv f107_code := by kernel_rfl
theorem f107_tr : trC QP [2,3] f107_code = Qv f107_c43 := by kernel_rfl
theorem f107_rs : rsOf QP f107.results.toList = Qv [(RV.t 4)] := by kernel_rfl
theorem f107_nt : f107.ntmps = 41 := by kernel_rfl
theorem f107_ok : callable QP 107 = true := by kernel_rfl
theorem f107_in {gp : Heap} {args : List V} {res : V} (h : G ⟨QP,gp,0,[(RV.t 4)],fun r c => r = res /\ c = [],false⟩ [.code f107_c43,.fin] ⟨args ++ List.replicate (41 - args.length) .un,[]⟩) : Does QP gp 107 args res :=
 does_intro f107_ok func107 f107_body f107_tr f107_rs (by rw [f107_nt]; exact h)
def f125_c0:MC:=MC.skip
def f125_r1:List MO:=[Qa (Qv 5) (Qg 1 (Qn 1)),Qa (Qv 6) (Qf 1 false (Qn 5)),Qa (Qv 7) (Qk Qt (Qn 6)),Qa (Qv 8) (Qd (Qo (Qp (Qq (Qr Qu 0)))))]
def f125_c1:MC:=.reg false f125_r1
def f125_r2:List MO:=[Qa (Qv 9) (Qe Qt Go.BinOp.lss (Qn 8) (Qn 7))]
def f125_c2:MC:=.reg false f125_r2
def f125_c3:MC:=MC.skip
def f125_c4:MC:=(MC.exit 0)
def f125_c5:MC:=.cond (Qn 9) f125_c3 f125_c4
def f125_r6:List MO:=[Qa (Qv 10) (Qd (Qn 8)),Qa (Qv 11) (Qj 6 (Qn 6) (Qn 8)),Qa (Qv 12) (Qf 6 true (Qn 11)),Qa (Qv 4) (MOp.alloc [(Qr Qu 0),(Qr Qu 0),(Qr Qu 0),(D.str (ByteArray.mk #[])),(D.sl []),(D.sl [])]),Qa (Qv 3) (Qd (Qn 10)),Qa none (Ql 6 (Qn 4) (Qn 12))]
def f125_c6:MC:=.reg false f125_r6
def f125_r7:List MO:=[Qa (Qv 13) (Qd (Qn 0)),Qa (Qv 14) (Qd (Qn 3)),Qa (Qv 15) (Qf 6 true (Qn 4)),Qa (Qv 16) (Qg 1 (Qn 1)),Qa (Qv 17) (Qf 1 false (Qn 16)),Qa (Qv 18) (Qk Qt (Qn 17)),Qa (Qv 19) (MOp.build [(Qr Qu 0),(Qr Qu 0),(Qr Qu 0),(D.str (ByteArray.mk #[])),(D.sl []),(D.sl []),(Qr Qu 0)] [(0,(6,(Qn 15))),(6,(1,(Qn 18)))]),Qa (Qv 20) (MOp.callv (Qn 13) [(Qn 14),(Qn 19)]),Qa (Qv 21) (MOp.not (Qn 20))]
def f125_c7:MC:=.reg false f125_r7
def f125_c8:MC:=(MC.exit 0)
def f125_c9:MC:=MC.skip
def f125_c10:MC:=.cond (Qn 21) f125_c8 f125_c9
def f125_c11:MC:=.seq f125_c7 f125_c10
def f125_c12:MC:=.seq f125_c6 f125_c11
def f125_c13:MC:=.blk 1 f125_c12
def f125_r14:List MO:=[Qa (Qv 22) (Qe Qt Go.BinOp.add (Qn 8) (Qo (Qp (Qq (Qr Qu 1))))),Qa (Qv 8) (Qd (Qn 22))]
def f125_c14:MC:=.reg false f125_r14
def f125_c15:MC:=.seq f125_c13 f125_c14
def f125_c16:MC:=.seq f125_c5 f125_c15
def f125_c17:MC:=.seq f125_c2 f125_c16
def f125_c18:MC:=.loop f125_c17
def f125_c19:MC:=.blk 0 f125_c18
def f125_c20:MC:=.seq f125_c1 f125_c19
def f125_c21:MC:=.seq f125_c0 f125_c20
def f125_c22:MC:=.scope f125_c21
attribute [go_sem] f125_r1 f125_r2 f125_r6 f125_r7 f125_r14
noncomputable def f125_code : Code := (f125.body).getD .skip
theorem f125_body : f125.body = Qv f125_code := by kernel_rfl
theorem f125_tr : trC QP [] f125_code = Qv f125_c22 := by kernel_rfl
theorem f125_rs : rsOf QP f125.results.toList = Qv [] := by kernel_rfl
theorem f125_nt : f125.ntmps = 23 := by kernel_rfl
theorem f125_ok : callable QP 125 = true := by kernel_rfl
theorem f125_tri {gp : Heap} {args : List V} {pre : List Ch} {R : V -> List Ch -> Prop} (h : G ⟨QP,gp,pre.length,[],R,false⟩ [.code f125_c22,.fin] ⟨args ++ List.replicate (23 - args.length) .un,pre⟩) : Tri QP gp 125 args pre R :=
 tri_intro func125 f125_body f125_tr f125_rs (by rw [f125_nt]; exact h)
def f126_r0:List MO:=[Qa (Qv 1) (MOp.ibox (Qn 0)),Qa (Qv 2) (Qd (Qo (Qp (Qq (Qs false)))))]
def f126_c0:MC:=.reg false f126_r0
def f126_r1:List MO:=[Qa (Qv 3) (Qg 0 (Qn 1)),Qa (Qv 4) (Qg 1 (Qn 3)),Qa (Qv 5) (Qf 3 true (Qn 4)),Qa (Qv 6) (Qh 148 [(Qn 5)]),Qa (Qv 7) (Qg 0 (Qn 1)),Qa (Qv 8) (Qg 4 (Qn 7)),Qa (Qv 9) (Qf 1 false (Qn 8)),Qa (Qv 10) (Qk Qt (Qn 9)),Qa (Qv 11) (Qe Qt Go.BinOp.eql (Qn 10) (Qo (Qp (Qq (Qr Qu 0))))),Qa (Qv 12) (Qg 0 (Qn 1)),Qa (Qv 13) (Qg 5 (Qn 12)),Qa (Qv 14) (Qf 1 false (Qn 13)),Qa (Qv 15) (Qk Qt (Qn 14)),Qa (Qv 16) (Qe Qt Go.BinOp.eql (Qn 15) (Qo (Qp (Qq (Qr Qu 0))))),Qa (Qv 17) (MOp.bslice 1 [(Qs false)] 3 [(0,(Qn 6)),(1,(Qn 11)),(2,(Qn 16))]),Qc (Qv 18) (Qh 147 [(Qn 17)]),Qa (Qv 2) (Qd (Qn 18))]
def f126_c1:MC:=.reg true f126_r1
def f126_c2:MC:=MC.ret
def f126_c3:MC:=.seq f126_c1 f126_c2
def f126_c4:MC:=.seq f126_c0 f126_c3
attribute [go_sem] f126_r0 f126_r1
noncomputable def f126_code : Code := (f126.body).getD .skip
theorem f126_body : f126.body = Qv f126_code := by kernel_rfl
theorem f126_tr : trC QP [1] f126_code = Qv f126_c4 := by kernel_rfl
theorem f126_rs : rsOf QP f126.results.toList = Qv [(RV.t 2)] := by kernel_rfl
theorem f126_nt : f126.ntmps = 19 := by kernel_rfl
theorem f126_ok : callable QP 126 = true := by kernel_rfl
theorem f126_in {gp : Heap} {args : List V} {res : V} (h : G ⟨QP,gp,0,[(RV.t 2)],fun r c => r = res /\ c = [],false⟩ [.code f126_c4,.fin] ⟨args ++ List.replicate (19 - args.length) .un,[]⟩) : Does QP gp 126 args res :=
 does_intro f126_ok func126 f126_body f126_tr f126_rs (by rw [f126_nt]; exact h)
def f127_r0:List MO:=[Qa (Qv 1) (MOp.ibox (Qn 0)),Qa (Qv 2) (Qd (Qo (Qp (Qq (Qs false)))))]
def f127_c0:MC:=.reg false f127_r0
def f127_r1:List MO:=[Qa (Qv 3) (Qg 0 (Qn 1)),Qa (Qv 4) (Qg 1 (Qn 3)),Qa (Qv 5) (Qf 3 true (Qn 4)),Qa (Qv 6) (MOp.build [(Qr Qu 0),(Qr Qu 0),(D.str (ByteArray.mk #[]))] []),Qa (Qv 7) (MOp.eqs false [Qt,Qt,Leaf.s] (Qn 5) (Qn 6)),Qa (Qv 8) (Qg 0 (Qn 1)),Qa (Qv 9) (Qg 4 (Qn 8)),Qa (Qv 10) (Qf 1 false (Qn 9)),Qa (Qv 11) (Qk Qt (Qn 10)),Qa (Qv 12) (Qe Qt Go.BinOp.eql (Qn 11) (Qo (Qp (Qq (Qr Qu 0))))),Qa (Qv 13) (Qf 7 true (Qn 1)),Qa (Qv 14) (Qh 149 [(Qn 13)]),Qa (Qv 15) (MOp.bslice 1 [(Qs false)] 3 [(0,(Qn 7)),(1,(Qn 12)),(2,(Qn 14))]),Qc (Qv 16) (Qh 147 [(Qn 15)]),Qa (Qv 2) (Qd (Qn 16))]
def f127_c1:MC:=.reg true f127_r1
def f127_c2:MC:=MC.ret
def f127_c3:MC:=.seq f127_c1 f127_c2
def f127_c4:MC:=.seq f127_c0 f127_c3
attribute [go_sem] f127_r0 f127_r1
noncomputable def f127_code : Code := (f127.body).getD .skip
theorem f127_body : f127.body = Qv f127_code := by kernel_rfl
theorem f127_tr : trC QP [1] f127_code = Qv f127_c4 := by kernel_rfl
theorem f127_rs : rsOf QP f127.results.toList = Qv [(RV.t 2)] := by kernel_rfl
theorem f127_nt : f127.ntmps = 17 := by kernel_rfl
theorem f127_ok : callable QP 127 = true := by kernel_rfl
theorem f127_in {gp : Heap} {args : List V} {res : V} (h : G ⟨QP,gp,0,[(RV.t 2)],fun r c => r = res /\ c = [],false⟩ [.code f127_c4,.fin] ⟨args ++ List.replicate (17 - args.length) .un,[]⟩) : Does QP gp 127 args res :=
 does_intro f127_ok func127 f127_body f127_tr f127_rs (by rw [f127_nt]; exact h)
def f128_r0:List MO:=[Qa (Qv 1) (MOp.ibox (Qn 0)),Qa (Qv 2) (Qd (Qo (Qp (Qq (Qs false)))))]
def f128_c0:MC:=.reg false f128_r0
def f128_r1:List MO:=[Qa (Qv 3) (Qg 0 (Qn 1)),Qa (Qv 4) (Qg 1 (Qn 3)),Qa (Qv 5) (Qf 3 true (Qn 4)),Qa (Qv 6) (MOp.build [(Qr Qu 0),(Qr Qu 0),(D.str (ByteArray.mk #[]))] []),Qa (Qv 7) (MOp.eqs false [Qt,Qt,Leaf.s] (Qn 5) (Qn 6)),Qa (Qv 8) (Qf 7 true (Qn 1)),Qa (Qv 9) (Qh 103 [(Qn 8)]),Qa (Qv 10) (Qf 7 true (Qn 1)),Qa (Qv 11) (Qh 150 [(Qn 10)]),Qa (Qv 12) (Qf 7 true (Qn 1)),Qa (Qv 13) (Qh 149 [(Qn 12)]),Qa (Qv 14) (MOp.bslice 1 [(Qs false)] 4 [(0,(Qn 7)),(1,(Qn 9)),(2,(Qn 11)),(3,(Qn 13))]),Qc (Qv 15) (Qh 147 [(Qn 14)]),Qa (Qv 2) (Qd (Qn 15))]
def f128_c1:MC:=.reg true f128_r1
def f128_c2:MC:=MC.ret
def f128_c3:MC:=.seq f128_c1 f128_c2
def f128_c4:MC:=.seq f128_c0 f128_c3
attribute [go_sem] f128_r0 f128_r1
noncomputable def f128_code : Code := (f128.body).getD .skip
theorem f128_body : f128.body = Qv f128_code := by kernel_rfl
theorem f128_tr : trC QP [1] f128_code = Qv f128_c4 := by kernel_rfl
theorem f128_rs : rsOf QP f128.results.toList = Qv [(RV.t 2)] := by kernel_rfl
theorem f128_nt : f128.ntmps = 16 := by kernel_rfl
theorem f128_ok : callable QP 128 = true := by kernel_rfl
theorem f128_in {gp : Heap} {args : List V} {res : V} (h : G ⟨QP,gp,0,[(RV.t 2)],fun r c => r = res /\ c = [],false⟩ [.code f128_c4,.fin] ⟨args ++ List.replicate (16 - args.length) .un,[]⟩) : Does QP gp 128 args res :=
 does_intro f128_ok func128 f128_body f128_tr f128_rs (by rw [f128_nt]; exact h)
def f130_r0:List MO:=[Qa (Qv 6) (Qd (Qo (Qp (Qq (Qr Qu 20)))))]
def f130_c0:MC:=.reg false f130_r0
def f130_r1:List MO:=[Qa (Qv 10) (Qd (Qn 6)),Qa (Qv 7) (Qd (Qo (Qp (Qq (Qr Qu 0))))),Qa (Qv 8) (Qd (Qn 10))]
def f130_c1:MC:=.reg false f130_r1
def f130_r2:List MO:=[Qa (Qv 11) (Qd (Qn 8)),Qa (Qv 12) (Qd (Qn 1)),Qa (Qv 13) (Qe Qt Go.BinOp.leq (Qn 11) (Qn 12))]
def f130_c2:MC:=.reg false f130_r2
def f130_c3:MC:=MC.skip
def f130_c4:MC:=(MC.exit 0)
def f130_c5:MC:=.cond (Qn 13) f130_c3 f130_c4
def f130_c6:MC:=.seq f130_c2 f130_c5
def f130_r7:List MO:=[Qa (Qv 14) (Qd (Qn 0)),Qa (Qv 15) (Qd (Qn 7)),Qa (Qv 16) (Qd (Qn 8)),Qa (Qv 17) (Qd (Qn 2)),Qa (Qv 18) (Qh 152 [(Qn 14),(Qn 15),(Qn 16),(Qn 17)])]
def f130_c7:MC:=.reg false f130_r7
def f130_r8:List MO:=[Qa (Qv 19) (Qd (Qn 8)),Qa (Qv 7) (Qd (Qn 19))]
def f130_c8:MC:=.reg false f130_r8
def f130_r9:List MO:=[Qa (Qv 20) (Qd (Qn 8)),Qa (Qv 21) (Qd (Qn 6)),Qa (Qv 22) (Qe Qt Go.BinOp.add (Qn 20) (Qn 21)),Qa (Qv 8) (Qd (Qn 22))]
def f130_c9:MC:=.reg false f130_r9
def f130_c10:MC:=.seq f130_c8 f130_c9
def f130_c11:MC:=.seq f130_c7 f130_c10
def f130_c12:MC:=.blk 1 f130_c11
def f130_c13:MC:=.seq f130_c6 f130_c12
def f130_c14:MC:=.loop f130_c13
def f130_c15:MC:=.blk 0 f130_c14
def f130_r16:List MO:=[Qa (Qv 23) (Qd (Qn 0)),Qa (Qv 24) (Qd (Qn 7)),Qa (Qv 25) (Qd (Qn 1)),Qa (Qv 26) (Qd (Qn 2)),Qa (Qv 27) (Qh 152 [(Qn 23),(Qn 24),(Qn 25),(Qn 26)])]
def f130_c16:MC:=.reg false f130_r16
def f130_r17:List MO:=[Qa (Qv 28) (Qd (Qn 6)),Qa (Qv 29) (Qd (Qn 1)),Qa (Qv 30) (Qe Qt Go.BinOp.lss (Qn 28) (Qn 29))]
def f130_c17:MC:=.reg false f130_r17
def f130_c18:MC:=MC.skip
def f130_c19:MC:=(MC.exit 2)
def f130_c20:MC:=.cond (Qn 30) f130_c18 f130_c19
def f130_c21:MC:=.seq f130_c17 f130_c20
def f130_r22:List MO:=[Qa (Qv 31) (Qd (Qn 6)),Qa (Qv 32) (Qe Qt Go.BinOp.mul (Qo (Qp (Qq (Qr Qu 2)))) (Qn 31)),Qa (Qv 7) (Qd (Qo (Qp (Qq (Qr Qu 0))))),Qa (Qv 8) (Qd (Qn 32))]
def f130_c22:MC:=.reg false f130_r22
def f130_r23:List MO:=[Qa (Qv 33) (Qd (Qn 8)),Qa (Qv 34) (Qd (Qn 1)),Qa (Qv 35) (Qe Qt Go.BinOp.leq (Qn 33) (Qn 34))]
def f130_c23:MC:=.reg false f130_r23
def f130_c24:MC:=MC.skip
def f130_c25:MC:=(MC.exit 4)
def f130_c26:MC:=.cond (Qn 35) f130_c24 f130_c25
def f130_c27:MC:=.seq f130_c23 f130_c26
def f130_r28:List MO:=[Qa (Qv 36) (Qd (Qn 0)),Qa (Qv 37) (Qd (Qn 7)),Qa (Qv 38) (Qd (Qn 7)),Qa (Qv 39) (Qd (Qn 6)),Qa (Qv 40) (Qe Qt Go.BinOp.add (Qn 38) (Qn 39)),Qa (Qv 41) (Qd (Qn 8)),Qa (Qv 42) (Qd (Qn 2)),Qa (Qv 43) (Qh 153 [(Qn 36),(Qn 37),(Qn 40),(Qn 41),(Qn 42)])]
def f130_c28:MC:=.reg false f130_r28
def f130_r29:List MO:=[Qa (Qv 44) (Qd (Qn 8)),Qa (Qv 7) (Qd (Qn 44))]
def f130_c29:MC:=.reg false f130_r29
def f130_r30:List MO:=[Qa (Qv 45) (Qd (Qn 8)),Qa (Qv 46) (Qd (Qn 6)),Qa (Qv 47) (Qe Qt Go.BinOp.mul (Qo (Qp (Qq (Qr Qu 2)))) (Qn 46)),Qa (Qv 48) (Qe Qt Go.BinOp.add (Qn 45) (Qn 47)),Qa (Qv 8) (Qd (Qn 48))]
def f130_c30:MC:=.reg false f130_r30
def f130_c31:MC:=.seq f130_c29 f130_c30
def f130_c32:MC:=.seq f130_c28 f130_c31
def f130_c33:MC:=.blk 5 f130_c32
def f130_c34:MC:=.seq f130_c27 f130_c33
def f130_c35:MC:=.loop f130_c34
def f130_c36:MC:=.blk 4 f130_c35
def f130_r37:List MO:=[Qa (Qv 49) (Qd (Qn 7)),Qa (Qv 50) (Qd (Qn 6)),Qa (Qv 51) (Qe Qt Go.BinOp.add (Qn 49) (Qn 50)),Qa (Qv 9) (Qd (Qn 51))]
def f130_c37:MC:=.reg false f130_r37
def f130_r38:List MO:=[Qa (Qv 52) (Qd (Qn 9)),Qa (Qv 53) (Qd (Qn 1)),Qa (Qv 54) (Qe Qt Go.BinOp.lss (Qn 52) (Qn 53))]
def f130_c38:MC:=.reg false f130_r38
def f130_r39:List MO:=[Qa (Qv 55) (Qd (Qn 0)),Qa (Qv 56) (Qd (Qn 7)),Qa (Qv 57) (Qd (Qn 9)),Qa (Qv 58) (Qd (Qn 1)),Qa (Qv 59) (Qd (Qn 2)),Qa (Qv 60) (Qh 153 [(Qn 55),(Qn 56),(Qn 57),(Qn 58),(Qn 59)])]
def f130_c39:MC:=.reg false f130_r39
def f130_c40:MC:=MC.skip
def f130_c41:MC:=.cond (Qn 54) f130_c39 f130_c40
def f130_c42:MC:=.seq f130_c38 f130_c41
def f130_c43:MC:=.seq f130_c37 f130_c42
def f130_r44:List MO:=[Qa (Qv 61) (Qd (Qn 6)),Qa (Qv 62) (Qe Qt Go.BinOp.mul (Qn 61) (Qo (Qp (Qq (Qr Qu 2))))),Qa (Qv 6) (Qd (Qn 62))]
def f130_c44:MC:=.reg false f130_r44
def f130_c45:MC:=.seq f130_c43 f130_c44
def f130_c46:MC:=.seq f130_c36 f130_c45
def f130_c47:MC:=.seq f130_c22 f130_c46
def f130_c48:MC:=.blk 3 f130_c47
def f130_c49:MC:=.seq f130_c21 f130_c48
def f130_c50:MC:=.loop f130_c49
def f130_c51:MC:=.blk 2 f130_c50
def f130_c52:MC:=.seq f130_c16 f130_c51
def f130_c53:MC:=.seq f130_c15 f130_c52
def f130_c54:MC:=.seq f130_c1 f130_c53
def f130_c55:MC:=.seq f130_c0 f130_c54
attribute [go_sem] f130_r0 f130_r1 f130_r2 f130_r7 f130_r8 f130_r9 f130_r16 f130_r17 f130_r22 f130_r23 f130_r28 f130_r29 f130_r30 f130_r37 f130_r38 f130_r39 f130_r44
noncomputable def f130_code : Code := (f130.body).getD .skip
theorem f130_body : f130.body = Qv f130_code := by kernel_rfl
theorem f130_tr : trC QP [] f130_code = Qv f130_c55 := by kernel_rfl
theorem f130_rs : rsOf QP f130.results.toList = Qv [] := by kernel_rfl
theorem f130_nt : f130.ntmps = 63 := by kernel_rfl
theorem f130_ok : callable QP 130 = true := by kernel_rfl
theorem f130_tri {gp : Heap} {args : List V} {pre : List Ch} {R : V -> List Ch -> Prop} (h : G ⟨QP,gp,pre.length,[],R,false⟩ [.code f130_c55,.fin] ⟨args ++ List.replicate (63 - args.length) .un,pre⟩) : Tri QP gp 130 args pre R :=
 tri_intro func130 f130_body f130_tr f130_rs (by rw [f130_nt]; exact h)
def f131_r0:List MO:=[Qa (Qv 2) (Qd (Qo (Qp (Qq (Qr Qu 0)))))]
def f131_c0:MC:=.reg false f131_r0
def f131_r1:List MO:=[Qa (Qv 3) (Qd (Qo (Qp (Qq (Qr Qu 0)))))]
def f131_c1:MC:=.reg false f131_r1
def f131_r2:List MO:=[Qa (Qv 6) (Qd (Qn 0)),Qa (Qv 7) (Qk Qt (Qn 6)),Qa (Qv 8) (Qd (Qo (Qp (Qq (Qr Qu 0)))))]
def f131_c2:MC:=.reg false f131_r2
def f131_r3:List MO:=[Qa (Qv 9) (Qe Qt Go.BinOp.lss (Qn 8) (Qn 7))]
def f131_c3:MC:=.reg false f131_r3
def f131_c4:MC:=MC.skip
def f131_c5:MC:=(MC.exit 0)
def f131_c6:MC:=.cond (Qn 9) f131_c4 f131_c5
def f131_r7:List MO:=[Qa (Qv 10) (Qj 1 (Qn 6) (Qn 8)),Qa (Qv 11) (Qf 1 false (Qn 10)),Qa (Qv 5) (Qd (Qn 11))]
def f131_c7:MC:=.reg false f131_r7
def f131_r8:List MO:=[Qa (Qv 12) (Qd (Qn 5)),Qa (Qv 13) (Qd (Qn 3)),Qa (Qv 14) (Qe Qt Go.BinOp.neq (Qn 12) (Qn 13))]
def f131_c8:MC:=.reg false f131_r8
def f131_r9:List MO:=[Qa (Qv 15) (Qd (Qn 5)),Qa (Qv 2) (Qd (Qn 15))]
def f131_c9:MC:=.reg false f131_r9
def f131_c10:MC:=MC.ret
def f131_c11:MC:=.seq f131_c9 f131_c10
def f131_c12:MC:=MC.skip
def f131_c13:MC:=.cond (Qn 14) f131_c11 f131_c12
def f131_c14:MC:=.seq f131_c8 f131_c13
def f131_c15:MC:=.seq f131_c7 f131_c14
def f131_c16:MC:=.blk 1 f131_c15
def f131_r17:List MO:=[Qa (Qv 16) (Qe Qt Go.BinOp.add (Qn 8) (Qo (Qp (Qq (Qr Qu 1))))),Qa (Qv 8) (Qd (Qn 16))]
def f131_c17:MC:=.reg false f131_r17
def f131_c18:MC:=.seq f131_c16 f131_c17
def f131_c19:MC:=.seq f131_c6 f131_c18
def f131_c20:MC:=.seq f131_c3 f131_c19
def f131_c21:MC:=.loop f131_c20
def f131_c22:MC:=.blk 0 f131_c21
def f131_c23:MC:=.seq f131_c2 f131_c22
def f131_r24:List MO:=[Qa (Qv 17) (Qd (Qn 3)),Qa (Qv 2) (Qd (Qn 17))]
def f131_c24:MC:=.reg false f131_r24
def f131_c25:MC:=MC.ret
def f131_c26:MC:=.seq f131_c24 f131_c25
def f131_c27:MC:=.seq f131_c23 f131_c26
def f131_c28:MC:=.seq f131_c1 f131_c27
def f131_c29:MC:=.seq f131_c0 f131_c28
attribute [go_sem] f131_r0 f131_r1 f131_r2 f131_r3 f131_r7 f131_r8 f131_r9 f131_r17 f131_r24
noncomputable def f131_code : Code := (f131.body).getD .skip
theorem f131_body : f131.body = Qv f131_code := by kernel_rfl
theorem f131_tr : trC QP [] f131_code = Qv f131_c29 := by kernel_rfl
theorem f131_rs : rsOf QP f131.results.toList = Qv [(RV.t 2)] := by kernel_rfl
theorem f131_nt : f131.ntmps = 18 := by kernel_rfl
theorem f131_ok : callable QP 131 = true := by kernel_rfl
theorem f131_in {gp : Heap} {args : List V} {res : V} (h : G ⟨QP,gp,0,[(RV.t 2)],fun r c => r = res /\ c = [],false⟩ [.code f131_c29,.fin] ⟨args ++ List.replicate (18 - args.length) .un,[]⟩) : Does QP gp 131 args res :=
 does_intro f131_ok func131 f131_body f131_tr f131_rs (by rw [f131_nt]; exact h)
def f132_r0:List MO:=[Qa (Qv 4) (Qd (Qo (Qp (Qq (Qr Qu 0)))))]
def f132_c0:MC:=.reg false f132_r0
def f132_r1:List MO:=[Qa (Qv 7) (Qd (Qn 0)),Qa (Qv 8) (Qh 154 [(Qn 7)]),Qa (Qv 5) (Qd (Qn 8))]
def f132_c1:MC:=.reg false f132_r1
def f132_r2:List MO:=[Qa (Qv 9) (Qd (Qn 1)),Qa (Qv 10) (Qh 154 [(Qn 9)]),Qa (Qv 6) (Qd (Qn 10))]
def f132_c2:MC:=.reg false f132_r2
def f132_r3:List MO:=[Qa (Qv 11) (Qd (Qn 5))]
def f132_c3:MC:=.reg false f132_r3
def f132_r4:List MO:=[Qa (Qv 12) (Qd (Qn 6))]
def f132_c4:MC:=.reg false f132_r4
def f132_r5:List MO:=[Qa (Qv 4) (Qd (Qo (Qp (Qq (Qr Qu 0)))))]
def f132_c5:MC:=.reg false f132_r5
def f132_c6:MC:=MC.ret
def f132_c7:MC:=.seq f132_c5 f132_c6
def f132_c8:MC:=MC.skip
def f132_c9:MC:=.cond (Qn 12) f132_c7 f132_c8
def f132_c10:MC:=.seq f132_c4 f132_c9
def f132_r11:List MO:=[Qa (Qv 4) (Qd (Qo (Qp (Qq (Qr Qu (-1))))))]
def f132_c11:MC:=.reg false f132_r11
def f132_c12:MC:=MC.ret
def f132_c13:MC:=.seq f132_c11 f132_c12
def f132_c14:MC:=.seq f132_c10 f132_c13
def f132_c15:MC:=MC.skip
def f132_c16:MC:=.cond (Qn 11) f132_c14 f132_c15
def f132_c17:MC:=.seq f132_c3 f132_c16
def f132_r18:List MO:=[Qa (Qv 13) (Qd (Qn 6))]
def f132_c18:MC:=.reg false f132_r18
def f132_r19:List MO:=[Qa (Qv 4) (Qd (Qo (Qp (Qq (Qr Qu 1)))))]
def f132_c19:MC:=.reg false f132_r19
def f132_c20:MC:=MC.ret
def f132_c21:MC:=.seq f132_c19 f132_c20
def f132_c22:MC:=MC.skip
def f132_c23:MC:=.cond (Qn 13) f132_c21 f132_c22
def f132_c24:MC:=.seq f132_c18 f132_c23
def f132_r25:List MO:=[Qa (Qv 14) (Qd (Qn 0)),Qa (Qv 15) (Qd (Qn 1)),Qa (Qv 16) (Qe Qt Go.BinOp.lss (Qn 14) (Qn 15))]
def f132_c25:MC:=.reg false f132_r25
def f132_r26:List MO:=[Qa (Qv 4) (Qd (Qo (Qp (Qq (Qr Qu (-1))))))]
def f132_c26:MC:=.reg false f132_r26
def f132_c27:MC:=MC.ret
def f132_c28:MC:=.seq f132_c26 f132_c27
def f132_c29:MC:=MC.skip
def f132_c30:MC:=.cond (Qn 16) f132_c28 f132_c29
def f132_c31:MC:=.seq f132_c25 f132_c30
def f132_r32:List MO:=[Qa (Qv 17) (Qd (Qn 0)),Qa (Qv 18) (Qd (Qn 1)),Qa (Qv 19) (Qe Qt Go.BinOp.gtr (Qn 17) (Qn 18))]
def f132_c32:MC:=.reg false f132_r32
def f132_r33:List MO:=[Qa (Qv 4) (Qd (Qo (Qp (Qq (Qr Qu 1)))))]
def f132_c33:MC:=.reg false f132_r33
def f132_c34:MC:=MC.ret
def f132_c35:MC:=.seq f132_c33 f132_c34
def f132_c36:MC:=MC.skip
def f132_c37:MC:=.cond (Qn 19) f132_c35 f132_c36
def f132_c38:MC:=.seq f132_c32 f132_c37
def f132_r39:List MO:=[Qa (Qv 4) (Qd (Qo (Qp (Qq (Qr Qu 0)))))]
def f132_c39:MC:=.reg false f132_r39
def f132_c40:MC:=MC.ret
def f132_c41:MC:=.seq f132_c39 f132_c40
def f132_c42:MC:=.seq f132_c38 f132_c41
def f132_c43:MC:=.seq f132_c31 f132_c42
def f132_c44:MC:=.seq f132_c24 f132_c43
def f132_c45:MC:=.seq f132_c17 f132_c44
def f132_c46:MC:=.seq f132_c2 f132_c45
def f132_c47:MC:=.seq f132_c1 f132_c46
def f132_c48:MC:=.seq f132_c0 f132_c47
attribute [go_sem] f132_r0 f132_r1 f132_r2 f132_r3 f132_r4 f132_r5 f132_r11 f132_r18 f132_r19 f132_r25 f132_r26 f132_r32 f132_r33 f132_r39
noncomputable def f132_code : Code := (f132.body).getD .skip
theorem f132_body : f132.body = Qv f132_code := by kernel_rfl
theorem f132_tr : trC QP [] f132_code = Qv f132_c48 := by kernel_rfl
theorem f132_rs : rsOf QP f132.results.toList = Qv [(RV.t 4)] := by kernel_rfl
theorem f132_nt : f132.ntmps = 20 := by kernel_rfl
theorem f132_ok : callable QP 132 = true := by kernel_rfl
theorem f132_in {gp : Heap} {args : List V} {res : V} (h : G ⟨QP,gp,0,[(RV.t 4)],fun r c => r = res /\ c = [],false⟩ [.code f132_c48,.fin] ⟨args ++ List.replicate (20 - args.length) .un,[]⟩) : Does QP gp 132 args res :=
 does_intro f132_ok func132 f132_body f132_tr f132_rs (by rw [f132_nt]; exact h)
def f133_r0:List MO:=[Qa (Qv 4) (Qd (Qo (Qp (Qq (Qr Qu 0)))))]
def f133_c0:MC:=.reg false f133_r0
def f133_r1:List MO:=[Qa (Qv 7) (Qd (Qn 0)),Qa (Qv 8) (Qh 155 [(Qn 7)]),Qa (Qv 5) (Qd (Qn 8))]
def f133_c1:MC:=.reg false f133_r1
def f133_r2:List MO:=[Qa (Qv 9) (Qd (Qn 1)),Qa (Qv 10) (Qh 155 [(Qn 9)]),Qa (Qv 6) (Qd (Qn 10))]
def f133_c2:MC:=.reg false f133_r2
def f133_r3:List MO:=[Qa (Qv 11) (Qd (Qn 5))]
def f133_c3:MC:=.reg false f133_r3
def f133_r4:List MO:=[Qa (Qv 12) (Qd (Qn 6))]
def f133_c4:MC:=.reg false f133_r4
def f133_r5:List MO:=[Qa (Qv 4) (Qd (Qo (Qp (Qq (Qr Qu 0)))))]
def f133_c5:MC:=.reg false f133_r5
def f133_c6:MC:=MC.ret
def f133_c7:MC:=.seq f133_c5 f133_c6
def f133_c8:MC:=MC.skip
def f133_c9:MC:=.cond (Qn 12) f133_c7 f133_c8
def f133_c10:MC:=.seq f133_c4 f133_c9
def f133_r11:List MO:=[Qa (Qv 4) (Qd (Qo (Qp (Qq (Qr Qu (-1))))))]
def f133_c11:MC:=.reg false f133_r11
def f133_c12:MC:=MC.ret
def f133_c13:MC:=.seq f133_c11 f133_c12
def f133_c14:MC:=.seq f133_c10 f133_c13
def f133_c15:MC:=MC.skip
def f133_c16:MC:=.cond (Qn 11) f133_c14 f133_c15
def f133_c17:MC:=.seq f133_c3 f133_c16
def f133_r18:List MO:=[Qa (Qv 13) (Qd (Qn 6))]
def f133_c18:MC:=.reg false f133_r18
def f133_r19:List MO:=[Qa (Qv 4) (Qd (Qo (Qp (Qq (Qr Qu 1)))))]
def f133_c19:MC:=.reg false f133_r19
def f133_c20:MC:=MC.ret
def f133_c21:MC:=.seq f133_c19 f133_c20
def f133_c22:MC:=MC.skip
def f133_c23:MC:=.cond (Qn 13) f133_c21 f133_c22
def f133_c24:MC:=.seq f133_c18 f133_c23
def f133_r25:List MO:=[Qa (Qv 14) (Qd (Qn 0)),Qa (Qv 15) (Qd (Qn 1)),Qa (Qv 16) (Qe Leaf.s Go.BinOp.lss (Qn 14) (Qn 15))]
def f133_c25:MC:=.reg false f133_r25
def f133_r26:List MO:=[Qa (Qv 4) (Qd (Qo (Qp (Qq (Qr Qu (-1))))))]
def f133_c26:MC:=.reg false f133_r26
def f133_c27:MC:=MC.ret
def f133_c28:MC:=.seq f133_c26 f133_c27
def f133_c29:MC:=MC.skip
def f133_c30:MC:=.cond (Qn 16) f133_c28 f133_c29
def f133_c31:MC:=.seq f133_c25 f133_c30
def f133_r32:List MO:=[Qa (Qv 17) (Qd (Qn 0)),Qa (Qv 18) (Qd (Qn 1)),Qa (Qv 19) (Qe Leaf.s Go.BinOp.gtr (Qn 17) (Qn 18))]
def f133_c32:MC:=.reg false f133_r32
def f133_r33:List MO:=[Qa (Qv 4) (Qd (Qo (Qp (Qq (Qr Qu 1)))))]
def f133_c33:MC:=.reg false f133_r33
def f133_c34:MC:=MC.ret
def f133_c35:MC:=.seq f133_c33 f133_c34
def f133_c36:MC:=MC.skip
def f133_c37:MC:=.cond (Qn 19) f133_c35 f133_c36
def f133_c38:MC:=.seq f133_c32 f133_c37
def f133_r39:List MO:=[Qa (Qv 4) (Qd (Qo (Qp (Qq (Qr Qu 0)))))]
def f133_c39:MC:=.reg false f133_r39
def f133_c40:MC:=MC.ret
def f133_c41:MC:=.seq f133_c39 f133_c40
def f133_c42:MC:=.seq f133_c38 f133_c41
def f133_c43:MC:=.seq f133_c31 f133_c42
def f133_c44:MC:=.seq f133_c24 f133_c43
def f133_c45:MC:=.seq f133_c17 f133_c44
def f133_c46:MC:=.seq f133_c2 f133_c45
def f133_c47:MC:=.seq f133_c1 f133_c46
def f133_c48:MC:=.seq f133_c0 f133_c47
attribute [go_sem] f133_r0 f133_r1 f133_r2 f133_r3 f133_r4 f133_r5 f133_r11 f133_r18 f133_r19 f133_r25 f133_r26 f133_r32 f133_r33 f133_r39
noncomputable def f133_code : Code := (f133.body).getD .skip
theorem f133_body : f133.body = Qv f133_code := by kernel_rfl
theorem f133_tr : trC QP [] f133_code = Qv f133_c48 := by kernel_rfl
theorem f133_rs : rsOf QP f133.results.toList = Qv [(RV.t 4)] := by kernel_rfl
theorem f133_nt : f133.ntmps = 20 := by kernel_rfl
theorem f133_ok : callable QP 133 = true := by kernel_rfl
theorem f133_in {gp : Heap} {args : List V} {res : V} (h : G ⟨QP,gp,0,[(RV.t 4)],fun r c => r = res /\ c = [],false⟩ [.code f133_c48,.fin] ⟨args ++ List.replicate (20 - args.length) .un,[]⟩) : Does QP gp 133 args res :=
 does_intro f133_ok func133 f133_body f133_tr f133_rs (by rw [f133_nt]; exact h)
def f147_r0:List MO:=[Qa (Qv 2) (Qd (Qo (Qp (Qq (Qs false)))))]
def f147_c0:MC:=.reg false f147_r0
def f147_r1:List MO:=[Qa (Qv 3) (Qd (Qn 0)),Qa (Qv 4) (Qh 164 [(Qn 3),(Qo (Qp (Qq (Qs false))))]),Qa (Qv 5) (MOp.not (Qn 4)),Qa (Qv 2) (Qd (Qn 5))]
def f147_c1:MC:=.reg false f147_r1
def f147_c2:MC:=MC.ret
def f147_c3:MC:=.seq f147_c1 f147_c2
def f147_c4:MC:=.seq f147_c0 f147_c3
attribute [go_sem] f147_r0 f147_r1
noncomputable def f147_code : Code := (f147.body).getD .skip
theorem f147_body : f147.body = Qv f147_code := by kernel_rfl
theorem f147_tr : trC QP [] f147_code = Qv f147_c4 := by kernel_rfl
theorem f147_rs : rsOf QP f147.results.toList = Qv [(RV.t 2)] := by kernel_rfl
theorem f147_nt : f147.ntmps = 6 := by kernel_rfl
theorem f147_ok : callable QP 147 = true := by kernel_rfl
theorem f147_in {gp : Heap} {args : List V} {res : V} (h : G ⟨QP,gp,0,[(RV.t 2)],fun r c => r = res /\ c = [],false⟩ [.code f147_c4,.fin] ⟨args ++ List.replicate (6 - args.length) .un,[]⟩) : Does QP gp 147 args res :=
 does_intro f147_ok func147 f147_body f147_tr f147_rs (by rw [f147_nt]; exact h)
def f148_r0:List MO:=[Qa (Qv 1) (MOp.ibox (Qn 0)),Qa (Qv 2) (Qd (Qo (Qp (Qq (Qs false)))))]
def f148_c0:MC:=.reg false f148_r0
def f148_r1:List MO:=[Qa (Qv 3) (Qg 0 (Qn 1)),Qa (Qv 4) (Qf 1 false (Qn 3))]
def f148_c1:MC:=.reg false f148_r1
def f148_r2:List MO:=[Qa (Qv 6) (Qe Qt Go.BinOp.eql (Qn 4) (Qo (Qp (Qq (Qr Qu 0))))),Qa (Qv 5) (Qd (Qn 6))]
def f148_c2:MC:=.reg false f148_r2
def f148_r3:List MO:=[Qa (Qv 7) (Qf 3 true (Qn 1)),Qa (Qv 8) (MOp.build [(Qr Qu 0),(Qr Qu 0),(D.str (ByteArray.mk #[]))] []),Qa (Qv 9) (MOp.eqs false [Qt,Qt,Leaf.s] (Qn 7) (Qn 8)),Qa (Qv 2) (Qd (Qn 9))]
def f148_c3:MC:=.reg false f148_r3
def f148_c4:MC:=MC.ret
def f148_c5:MC:=.seq f148_c3 f148_c4
def f148_r6:List MO:=[Qa (Qv 11) (Qe Qt Go.BinOp.eql (Qn 4) (Qo (Qp (Qq (Qr Qu 1))))),Qa (Qv 10) (Qd (Qn 11))]
def f148_c6:MC:=.reg false f148_r6
def f148_r7:List MO:=[Qa (Qv 12) (Qg 2 (Qn 1)),Qa (Qv 13) (Qf 1 false (Qn 12)),Qa (Qv 14) (Qe Leaf.s Go.BinOp.eql (Qn 13) (Qo (Qp (Qq (D.str (ByteArray.mk #[])))))),Qa (Qv 15) (Qd (Qn 14)),Qb 15 true (Qv 16),Qa (Qv 16) (Qg 1 (Qn 1)),Qb 15 true (Qv 17),Qa (Qv 17) (Qf 1 false (Qn 16)),Qb 15 true (Qv 18),Qa (Qv 18) (Qe Qt Go.BinOp.eql (Qn 17) (Qo (Qp (Qq (Qr Qu 0))))),Qb 15 true (Qv 19),Qa (Qv 19) (Qd (Qn 18)),Qb 19 false (Qv 20),Qa (Qv 20) (Qg 1 (Qn 1)),Qb 19 false (Qv 21),Qa (Qv 21) (Qf 1 false (Qn 20)),Qb 19 false (Qv 22),Qa (Qv 22) (Qe Qt Go.BinOp.eql (Qn 21) (Qo (Qp (Qq (Qr Qu 1))))),Qb 15 true (Qv 23),Qa (Qv 23) (Qm (Qn 19) (Qo (Qp (Qq (Qs true)))) (Qn 22)),Qa (Qv 24) (Qm (Qn 15) (Qn 23) (Qo (Qp (Qq (Qs false))))),Qa (Qv 2) (Qd (Qn 24))]
def f148_c7:MC:=.reg false f148_r7
def f148_c8:MC:=MC.ret
def f148_c9:MC:=.seq f148_c7 f148_c8
def f148_r10:List MO:=[Qa (Qv 26) (Qe Qt Go.BinOp.eql (Qn 4) (Qo (Qp (Qq (Qr Qu 2))))),Qa (Qv 25) (Qd (Qn 26))]
def f148_c10:MC:=.reg false f148_r10
def f148_r11:List MO:=[Qa (Qv 27) (Qg 2 (Qn 1)),Qa (Qv 28) (Qf 1 false (Qn 27)),Qa (Qv 29) (Qe Leaf.s Go.BinOp.eql (Qn 28) (Qo (Qp (Qq (D.str (ByteArray.mk #[])))))),Qa (Qv 30) (Qd (Qn 29)),Qb 30 true (Qv 31),Qa (Qv 31) (Qg 1 (Qn 1)),Qb 30 true (Qv 32),Qa (Qv 32) (Qf 1 false (Qn 31)),Qb 30 true (Qv 33),Qa (Qv 33) (Qe Qt Go.BinOp.geq (Qn 32) (Qo (Qp (Qq (Qr Qu (-999999999999999)))))),Qa (Qv 34) (Qm (Qn 30) (Qn 33) (Qo (Qp (Qq (Qs false))))),Qa (Qv 35) (Qd (Qn 34)),Qb 35 true (Qv 36),Qa (Qv 36) (Qg 1 (Qn 1)),Qb 35 true (Qv 37),Qa (Qv 37) (Qf 1 false (Qn 36)),Qb 35 true (Qv 38),Qa (Qv 38) (Qe Qt Go.BinOp.leq (Qn 37) (Qo (Qp (Qq (Qr Qu 999999999999999))))),Qa (Qv 39) (Qm (Qn 35) (Qn 38) (Qo (Qp (Qq (Qs false))))),Qa (Qv 2) (Qd (Qn 39))]
def f148_c11:MC:=.reg false f148_r11
def f148_c12:MC:=MC.ret
def f148_c13:MC:=.seq f148_c11 f148_c12
def f148_r14:List MO:=[Qa (Qv 41) (Qe Qt Go.BinOp.eql (Qn 4) (Qo (Qp (Qq (Qr Qu 3))))),Qa (Qv 40) (Qd (Qn 41))]
def f148_c14:MC:=.reg false f148_r14
def f148_r15:List MO:=[Qa (Qv 42) (Qg 1 (Qn 1)),Qa (Qv 43) (Qf 1 false (Qn 42)),Qa (Qv 44) (Qe Qt Go.BinOp.eql (Qn 43) (Qo (Qp (Qq (Qr Qu 0))))),Qa (Qv 45) (Qd (Qn 44)),Qb 45 true (Qv 46),Qa (Qv 46) (Qg 2 (Qn 1)),Qb 45 true (Qv 47),Qa (Qv 47) (Qf 1 false (Qn 46)),Qb 45 true (Qv 48),Qa (Qv 48) (Qh 165 [(Qn 47)]),Qa (Qv 49) (Qm (Qn 45) (Qn 48) (Qo (Qp (Qq (Qs false))))),Qa (Qv 2) (Qd (Qn 49))]
def f148_c15:MC:=.reg false f148_r15
def f148_c16:MC:=MC.ret
def f148_c17:MC:=.seq f148_c15 f148_c16
def f148_c18:MC:=MC.skip
def f148_c19:MC:=.cond (Qn 40) f148_c17 f148_c18
def f148_c20:MC:=.seq f148_c14 f148_c19
def f148_c21:MC:=.cond (Qn 25) f148_c13 f148_c20
def f148_c22:MC:=.seq f148_c10 f148_c21
def f148_c23:MC:=.cond (Qn 10) f148_c9 f148_c22
def f148_c24:MC:=.seq f148_c6 f148_c23
def f148_c25:MC:=.cond (Qn 5) f148_c5 f148_c24
def f148_c26:MC:=.seq f148_c2 f148_c25
def f148_c27:MC:=.blk 0 f148_c26
def f148_c28:MC:=.seq f148_c1 f148_c27
def f148_r29:List MO:=[Qa (Qv 2) (Qd (Qo (Qp (Qq (Qs false)))))]
def f148_c29:MC:=.reg false f148_r29
def f148_c30:MC:=MC.ret
def f148_c31:MC:=.seq f148_c29 f148_c30
def f148_c32:MC:=.seq f148_c28 f148_c31
def f148_c33:MC:=.seq f148_c0 f148_c32
attribute [go_sem] f148_r0 f148_r1 f148_r2 f148_r3 f148_r6 f148_r7 f148_r10 f148_r11 f148_r14 f148_r15 f148_r29
noncomputable def f148_code : Code := (f148.body).getD .skip
theorem f148_body : f148.body = Qv f148_code := by kernel_rfl
theorem f148_tr : trC QP [1] f148_code = Qv f148_c33 := by kernel_rfl
theorem f148_rs : rsOf QP f148.results.toList = Qv [(RV.t 2)] := by kernel_rfl
theorem f148_nt : f148.ntmps = 50 := by kernel_rfl
theorem f148_ok : callable QP 148 = true := by kernel_rfl
theorem f148_in {gp : Heap} {args : List V} {res : V} (h : G ⟨QP,gp,0,[(RV.t 2)],fun r c => r = res /\ c = [],false⟩ [.code f148_c33,.fin] ⟨args ++ List.replicate (50 - args.length) .un,[]⟩) : Does QP gp 148 args res :=
 does_intro f148_ok func148 f148_body f148_tr f148_rs (by rw [f148_nt]; exact h)
def f149_r0:List MO:=[Qa (Qv 1) (MOp.ibox (Qn 0)),Qa (Qv 2) (Qd (Qo (Qp (Qq (Qs false)))))]
def f149_c0:MC:=.reg false f149_r0
def f149_r1:List MO:=[Qa (Qv 4) (MOp.mkF (Go.Fn.func 166) [(Qn 1)]),Qa (Qv 3) (Qd (Qn 4))]
def f149_c1:MC:=.reg false f149_r1
def f149_r2:List MO:=[Qa (Qv 5) (Qg 0 (Qn 1)),Qa (Qv 6) (Qg 5 (Qn 5)),Qa (Qv 7) (Qf 1 false (Qn 6)),Qa (Qv 8) (Qd (Qn 3)),Qa (Qv 9) (Qh 167 [(Qn 7),(Qn 8)]),Qa (Qv 10) (MOp.not (Qn 9)),Qa (Qv 2) (Qd (Qn 10))]
def f149_c2:MC:=.reg false f149_r2
def f149_c3:MC:=MC.ret
def f149_c4:MC:=.seq f149_c2 f149_c3
def f149_c5:MC:=.seq f149_c1 f149_c4
def f149_c6:MC:=.seq f149_c0 f149_c5
attribute [go_sem] f149_r0 f149_r1 f149_r2
noncomputable def f149_code : Code := (f149.body).getD .skip
theorem f149_body : f149.body = Qv f149_code := by kernel_rfl
theorem f149_tr : trC QP [1] f149_code = Qv f149_c6 := by kernel_rfl
theorem f149_rs : rsOf QP f149.results.toList = Qv [(RV.t 2)] := by kernel_rfl
theorem f149_nt : f149.ntmps = 11 := by kernel_rfl
theorem f149_ok : callable QP 149 = true := by kernel_rfl
theorem f149_in {gp : Heap} {args : List V} {res : V} (h : G ⟨QP,gp,0,[(RV.t 2)],fun r c => r = res /\ c = [],false⟩ [.code f149_c6,.fin] ⟨args ++ List.replicate (11 - args.length) .un,[]⟩) : Does QP gp 149 args res :=
 does_intro f149_ok func149 f149_body f149_tr f149_rs (by rw [f149_nt]; exact h)
def f150_r0:List MO:=[Qa (Qv 1) (MOp.ibox (Qn 0)),Qa (Qv 2) (Qd (Qo (Qp (Qq (Qs false)))))]
def f150_c0:MC:=.reg false f150_r0
def f150_r1:List MO:=[Qa (Qv 3) (Qd (Qo (Qp (Qq (D.fn (Go.Fn.func 168) [])))))]
def f150_c1:MC:=.reg false f150_r1
def f150_r2:List MO:=[Qa (Qv 4) (Qg 0 (Qn 1)),Qa (Qv 5) (Qg 4 (Qn 4)),Qa (Qv 6) (Qf 1 false (Qn 5)),Qa (Qv 7) (Qd (Qn 3)),Qa (Qv 8) (Qh 169 [(Qn 6),(Qn 7)]),Qa (Qv 9) (MOp.not (Qn 8)),Qa (Qv 10) (Qd (Qn 9)),Qb 10 true (Qv 11),Qa (Qv 11) (Qg 0 (Qn 1)),Qb 10 true (Qv 12),Qa (Qv 12) (Qg 4 (Qn 11)),Qb 10 true (Qv 13),Qa (Qv 13) (Qf 1 false (Qn 12)),Qb 10 true (Qv 14),Qa (Qv 14) (Qh 170 [(Qn 13)]),Qb 10 true (Qv 15),Qa (Qv 15) (MOp.not (Qn 14)),Qa (Qv 16) (Qm (Qn 10) (Qn 15) (Qo (Qp (Qq (Qs false))))),Qa (Qv 2) (Qd (Qn 16))]
def f150_c2:MC:=.reg false f150_r2
def f150_c3:MC:=MC.ret
def f150_c4:MC:=.seq f150_c2 f150_c3
def f150_c5:MC:=.seq f150_c1 f150_c4
def f150_c6:MC:=.seq f150_c0 f150_c5
attribute [go_sem] f150_r0 f150_r1 f150_r2
noncomputable def f150_code : Code := (f150.body).getD .skip
theorem f150_body : f150.body = Qv f150_code := by kernel_rfl
theorem f150_tr : trC QP [1] f150_code = Qv f150_c6 := by kernel_rfl
theorem f150_rs : rsOf QP f150.results.toList = Qv [(RV.t 2)] := by kernel_rfl
theorem f150_nt : f150.ntmps = 17 := by kernel_rfl
theorem f150_ok : callable QP 150 = true := by kernel_rfl
theorem f150_in {gp : Heap} {args : List V} {res : V} (h : G ⟨QP,gp,0,[(RV.t 2)],fun r c => r = res /\ c = [],false⟩ [.code f150_c6,.fin] ⟨args ++ List.replicate (17 - args.length) .un,[]⟩) : Does QP gp 150 args res :=
 does_intro f150_ok func150 f150_body f150_tr f150_rs (by rw [f150_nt]; exact h)
def f152_r0:List MO:=[Qa (Qv 10) (Qd (Qn 1)),Qa (Qv 11) (Qe Qt Go.BinOp.add (Qn 10) (Qo (Qp (Qq (Qr Qu 1))))),Qa (Qv 8) (Qd (Qn 11))]
def f152_c0:MC:=.reg false f152_r0
def f152_r1:List MO:=[Qa (Qv 12) (Qd (Qn 8)),Qa (Qv 13) (Qd (Qn 2)),Qa (Qv 14) (Qe Qt Go.BinOp.lss (Qn 12) (Qn 13))]
def f152_c1:MC:=.reg false f152_r1
def f152_c2:MC:=MC.skip
def f152_c3:MC:=(MC.exit 0)
def f152_c4:MC:=.cond (Qn 14) f152_c2 f152_c3
def f152_c5:MC:=.seq f152_c1 f152_c4
def f152_r6:List MO:=[Qa (Qv 17) (Qd (Qn 8)),Qa (Qv 9) (Qd (Qn 17))]
def f152_c6:MC:=.reg false f152_r6
def f152_r7:List MO:=[Qa (Qv 18) (Qd (Qn 9)),Qa (Qv 19) (Qd (Qn 1)),Qa (Qv 20) (Qe Qt Go.BinOp.gtr (Qn 18) (Qn 19)),Qa (Qv 21) (Qd (Qn 20)),Qb 21 true (Qv 22),Qa (Qv 22) (Qd (Qn 3)),Qb 21 true (Qv 23),Qa (Qv 23) (Qd (Qn 0)),Qb 21 true (Qv 24),Qa (Qv 24) (Qd (Qn 9)),Qb 21 true (Qv 25),Qa (Qv 25) (Qj 4 (Qn 23) (Qn 24)),Qb 21 true (Qv 26),Qa (Qv 26) (Qf 4 true (Qn 25)),Qb 21 true (Qv 27),Qa (Qv 27) (Qd (Qn 0)),Qb 21 true (Qv 28),Qa (Qv 28) (Qd (Qn 9)),Qb 21 true (Qv 29),Qa (Qv 29) (Qe Qt Go.BinOp.sub (Qn 28) (Qo (Qp (Qq (Qr Qu 1))))),Qb 21 true (Qv 30),Qa (Qv 30) (Qj 4 (Qn 27) (Qn 29)),Qb 21 true (Qv 31),Qa (Qv 31) (Qf 4 true (Qn 30)),Qb 21 true (Qv 32),Qc (Qv 32) (MOp.callv (Qn 22) [(Qn 26),(Qn 31)]),Qb 21 true (Qv 33),Qa (Qv 33) (Qe Qt Go.BinOp.lss (Qn 32) (Qo (Qp (Qq (Qr Qu 0))))),Qa (Qv 34) (Qm (Qn 21) (Qn 33) (Qo (Qp (Qq (Qs false)))))]
def f152_c7:MC:=.reg true f152_r7
def f152_c8:MC:=MC.skip
def f152_c9:MC:=(MC.exit 2)
def f152_c10:MC:=.cond (Qn 34) f152_c8 f152_c9
def f152_c11:MC:=.seq f152_c7 f152_c10
def f152_r12:List MO:=[Qa (Qv 37) (Qd (Qn 0)),Qa (Qv 38) (Qd (Qn 9)),Qa (Qv 39) (Qd (Qn 0)),Qa (Qv 40) (Qd (Qn 9)),Qa (Qv 41) (Qe Qt Go.BinOp.sub (Qn 40) (Qo (Qp (Qq (Qr Qu 1))))),Qa (Qv 42) (Qd (Qn 0)),Qa (Qv 43) (Qd (Qn 9)),Qa (Qv 44) (Qe Qt Go.BinOp.sub (Qn 43) (Qo (Qp (Qq (Qr Qu 1))))),Qa (Qv 45) (Qj 4 (Qn 42) (Qn 44)),Qa (Qv 46) (Qf 4 true (Qn 45)),Qa (Qv 47) (Qd (Qn 0)),Qa (Qv 48) (Qd (Qn 9)),Qa (Qv 49) (Qj 4 (Qn 47) (Qn 48)),Qa (Qv 50) (Qf 4 true (Qn 49)),Qa (Qv 51) (Qj 4 (Qn 37) (Qn 38)),Qa none (Ql 4 (Qn 51) (Qn 46)),Qa (Qv 52) (Qj 4 (Qn 39) (Qn 41)),Qa none (Ql 4 (Qn 52) (Qn 50))]
def f152_c12:MC:=.reg true f152_r12
def f152_c13:MC:=.blk 3 f152_c12
def f152_r14:List MO:=[Qa (Qv 35) (Qd (Qn 9)),Qa (Qv 36) (Qe Qt Go.BinOp.sub (Qn 35) (Qo (Qp (Qq (Qr Qu 1))))),Qa (Qv 9) (Qd (Qn 36))]
def f152_c14:MC:=.reg false f152_r14
def f152_c15:MC:=.seq f152_c13 f152_c14
def f152_c16:MC:=.seq f152_c11 f152_c15
def f152_c17:MC:=.loop f152_c16
def f152_c18:MC:=.blk 2 f152_c17
def f152_c19:MC:=.seq f152_c6 f152_c18
def f152_c20:MC:=.blk 1 f152_c19
def f152_r21:List MO:=[Qa (Qv 15) (Qd (Qn 8)),Qa (Qv 16) (Qe Qt Go.BinOp.add (Qn 15) (Qo (Qp (Qq (Qr Qu 1))))),Qa (Qv 8) (Qd (Qn 16))]
def f152_c21:MC:=.reg false f152_r21
def f152_c22:MC:=.seq f152_c20 f152_c21
def f152_c23:MC:=.seq f152_c5 f152_c22
def f152_c24:MC:=.loop f152_c23
def f152_c25:MC:=.blk 0 f152_c24
def f152_c26:MC:=.seq f152_c0 f152_c25
attribute [go_sem] f152_r0 f152_r1 f152_r6 f152_r7 f152_r12 f152_r14 f152_r21
noncomputable def f152_code : Code := (f152.body).getD .skip
theorem f152_body : f152.body = Qv f152_code := by kernel_rfl
theorem f152_tr : trC QP [] f152_code = Qv f152_c26 := by kernel_rfl
theorem f152_rs : rsOf QP f152.results.toList = Qv [] := by kernel_rfl
theorem f152_nt : f152.ntmps = 53 := by kernel_rfl
theorem f152_ok : callable QP 152 = true := by kernel_rfl
theorem f152_tri {gp : Heap} {args : List V} {pre : List Ch} {R : V -> List Ch -> Prop} (h : G ⟨QP,gp,pre.length,[],R,false⟩ [.code f152_c26,.fin] ⟨args ++ List.replicate (53 - args.length) .un,pre⟩) : Tri QP gp 152 args pre R :=
 tri_intro func152 f152_body f152_tr f152_rs (by rw [f152_nt]; exact h)
def f154_r0:List MO:=[Qa (Qv 2) (Qd (Qo (Qp (Qq (Qs false)))))]
def f154_c0:MC:=.reg false f154_r0
def f154_r1:List MO:=[Qa (Qv 3) (Qd (Qn 0)),Qa (Qv 4) (Qd (Qn 0)),Qa (Qv 5) (Qe Qt Go.BinOp.neq (Qn 3) (Qn 4)),Qa (Qv 2) (Qd (Qn 5))]
def f154_c1:MC:=.reg false f154_r1
def f154_c2:MC:=MC.ret
def f154_c3:MC:=.seq f154_c1 f154_c2
def f154_c4:MC:=.seq f154_c0 f154_c3
attribute [go_sem] f154_r0 f154_r1
noncomputable def f154_code : Code := (f154.body).getD .skip
theorem f154_body : f154.body = Qv f154_code := by kernel_rfl
theorem f154_tr : trC QP [] f154_code = Qv f154_c4 := by kernel_rfl
theorem f154_rs : rsOf QP f154.results.toList = Qv [(RV.t 2)] := by kernel_rfl
theorem f154_nt : f154.ntmps = 6 := by kernel_rfl
theorem f154_ok : callable QP 154 = true := by kernel_rfl
theorem f154_in {gp : Heap} {args : List V} {res : V} (h : G ⟨QP,gp,0,[(RV.t 2)],fun r c => r = res /\ c = [],false⟩ [.code f154_c4,.fin] ⟨args ++ List.replicate (6 - args.length) .un,[]⟩) : Does QP gp 154 args res :=
 does_intro f154_ok func154 f154_body f154_tr f154_rs (by rw [f154_nt]; exact h)
def f155_r0:List MO:=[Qa (Qv 2) (Qd (Qo (Qp (Qq (Qs false)))))]
def f155_c0:MC:=.reg false f155_r0
def f155_r1:List MO:=[Qa (Qv 3) (Qd (Qn 0)),Qa (Qv 4) (Qd (Qn 0)),Qa (Qv 5) (Qe Leaf.s Go.BinOp.neq (Qn 3) (Qn 4)),Qa (Qv 2) (Qd (Qn 5))]
def f155_c1:MC:=.reg false f155_r1
def f155_c2:MC:=MC.ret
def f155_c3:MC:=.seq f155_c1 f155_c2
def f155_c4:MC:=.seq f155_c0 f155_c3
attribute [go_sem] f155_r0 f155_r1
noncomputable def f155_code : Code := (f155.body).getD .skip
theorem f155_body : f155.body = Qv f155_code := by kernel_rfl
theorem f155_tr : trC QP [] f155_code = Qv f155_c4 := by kernel_rfl
theorem f155_rs : rsOf QP f155.results.toList = Qv [(RV.t 2)] := by kernel_rfl
theorem f155_nt : f155.ntmps = 6 := by kernel_rfl
theorem f155_ok : callable QP 155 = true := by kernel_rfl
theorem f155_in {gp : Heap} {args : List V} {res : V} (h : G ⟨QP,gp,0,[(RV.t 2)],fun r c => r = res /\ c = [],false⟩ [.code f155_c4,.fin] ⟨args ++ List.replicate (6 - args.length) .un,[]⟩) : Does QP gp 155 args res :=
 does_intro f155_ok func155 f155_body f155_tr f155_rs (by rw [f155_nt]; exact h)
def f164_r0:List MO:=[Qa (Qv 4) (Qd (Qo (Qp (Qq (Qs false)))))]
def f164_c0:MC:=.reg false f164_r0
def f164_r1:List MO:=[Qa (Qv 5) (Qd (Qn 0)),Qa (Qv 6) (Qd (Qn 1)),Qa (Qv 7) (Qh 177 [(Qn 5),(Qn 6)]),Qa (Qv 8) (Qe Qt Go.BinOp.geq (Qn 7) (Qo (Qp (Qq (Qr Qu 0))))),Qa (Qv 4) (Qd (Qn 8))]
def f164_c1:MC:=.reg false f164_r1
def f164_c2:MC:=MC.ret
def f164_c3:MC:=.seq f164_c1 f164_c2
def f164_c4:MC:=.seq f164_c0 f164_c3
attribute [go_sem] f164_r0 f164_r1
noncomputable def f164_code : Code := (f164.body).getD .skip
theorem f164_body : f164.body = Qv f164_code := by kernel_rfl
theorem f164_tr : trC QP [] f164_code = Qv f164_c4 := by kernel_rfl
theorem f164_rs : rsOf QP f164.results.toList = Qv [(RV.t 4)] := by kernel_rfl
theorem f164_nt : f164.ntmps = 9 := by kernel_rfl
theorem f164_ok : callable QP 164 = true := by kernel_rfl
theorem f164_in {gp : Heap} {args : List V} {res : V} (h : G ⟨QP,gp,0,[(RV.t 4)],fun r c => r = res /\ c = [],false⟩ [.code f164_c4,.fin] ⟨args ++ List.replicate (9 - args.length) .un,[]⟩) : Does QP gp 164 args res :=
 does_intro f164_ok func164 f164_body f164_tr f164_rs (by rw [f164_nt]; exact h)
def f165_r0:List MO:=[Qa (Qv 2) (Qd (Qo (Qp (Qq (Qs false)))))]
def f165_c0:MC:=.reg false f165_r0
def f165_r1:List MO:=[Qa (Qv 7) (Qd (Qn 0)),Qa (Qv 8) (MOp.rng (Qn 7))]
def f165_c1:MC:=.reg false f165_r1
def f165_r2:List MO:=[Qa (Qv 9) (MOp.nxt (Qn 8)),Qa (Qv 10) (Qi (Qn 9) 0)]
def f165_c2:MC:=.reg false f165_r2
def f165_c3:MC:=MC.skip
def f165_c4:MC:=(MC.exit 0)
def f165_c5:MC:=.cond (Qn 10) f165_c3 f165_c4
def f165_r6:List MO:=[Qa (Qv 11) (Qi (Qn 9) 1),Qa (Qv 12) (Qi (Qn 9) 2),Qa (Qv 3) (Qd (Qn 11)),Qa (Qv 4) (Qd (Qn 12))]
def f165_c6:MC:=.reg false f165_r6
def f165_r7:List MO:=[Qa (Qv 14) (Qd (Qn 0)),Qa (Qv 15) (Qd (Qn 3)),Qa (Qv 16) (MOp.slcS (Qn 14) (Qv (Qn 15)) none),Qa (Qv 17) (Qh 178 [(Qn 16)]),Qa (Qv 13) (Qd (Qn 17)),Qa (Qv 18) (Qi (Qn 13) 0),Qa (Qv 19) (Qi (Qn 13) 1),Qa (Qv 5) (Qd (Qn 18)),Qa (Qv 6) (Qd (Qn 19))]
def f165_c7:MC:=.reg false f165_r7
def f165_r8:List MO:=[Qa (Qv 20) (Qd (Qn 4)),Qa (Qv 21) (Qe Qt Go.BinOp.eql (Qn 20) (Qo (Qp (Qq (Qr Go.IntKind.i32 65533))))),Qa (Qv 22) (Qd (Qn 21)),Qb 22 true (Qv 23),Qa (Qv 23) (Qd (Qn 6)),Qb 22 true (Qv 24),Qa (Qv 24) (Qe Qt Go.BinOp.eql (Qn 23) (Qo (Qp (Qq (Qr Qu 1))))),Qa (Qv 25) (Qm (Qn 22) (Qn 24) (Qo (Qp (Qq (Qs false)))))]
def f165_c8:MC:=.reg false f165_r8
def f165_r9:List MO:=[Qa (Qv 2) (Qd (Qo (Qp (Qq (Qs false)))))]
def f165_c9:MC:=.reg false f165_r9
def f165_c10:MC:=MC.ret
def f165_c11:MC:=.seq f165_c9 f165_c10
def f165_c12:MC:=MC.skip
def f165_c13:MC:=.cond (Qn 25) f165_c11 f165_c12
def f165_c14:MC:=.seq f165_c8 f165_c13
def f165_c15:MC:=.seq f165_c7 f165_c14
def f165_c16:MC:=.seq f165_c6 f165_c15
def f165_c17:MC:=.blk 1 f165_c16
def f165_c18:MC:=.seq f165_c5 f165_c17
def f165_c19:MC:=.seq f165_c2 f165_c18
def f165_c20:MC:=.loop f165_c19
def f165_c21:MC:=.blk 0 f165_c20
def f165_c22:MC:=.seq f165_c1 f165_c21
def f165_r23:List MO:=[Qa (Qv 2) (Qd (Qo (Qp (Qq (Qs true)))))]
def f165_c23:MC:=.reg false f165_r23
def f165_c24:MC:=MC.ret
def f165_c25:MC:=.seq f165_c23 f165_c24
def f165_c26:MC:=.seq f165_c22 f165_c25
def f165_c27:MC:=.seq f165_c0 f165_c26
attribute [go_sem] f165_r0 f165_r1 f165_r2 f165_r6 f165_r7 f165_r8 f165_r9 f165_r23
noncomputable def f165_code : Code := (f165.body).getD .skip
theorem f165_body : f165.body = Qv f165_code := by kernel_rfl
theorem f165_tr : trC QP [] f165_code = Qv f165_c27 := by kernel_rfl
theorem f165_rs : rsOf QP f165.results.toList = Qv [(RV.t 2)] := by kernel_rfl
theorem f165_nt : f165.ntmps = 26 := by kernel_rfl
theorem f165_ok : callable QP 165 = true := by kernel_rfl
theorem f165_in {gp : Heap} {args : List V} {res : V} (h : G ⟨QP,gp,0,[(RV.t 2)],fun r c => r = res /\ c = [],false⟩ [.code f165_c27,.fin] ⟨args ++ List.replicate (26 - args.length) .un,[]⟩) : Does QP gp 165 args res :=
 does_intro f165_ok func165 f165_body f165_tr f165_rs (by rw [f165_nt]; exact h)
def f166_r0:List MO:=[Qa (Qv 3) (Qd (Qo (Qp (Qq (Qs false)))))]
def f166_c0:MC:=.reg false f166_r0
def f166_r1:List MO:=[Qa (Qv 4) (Qd (Qn 0)),Qa (Qv 5) (Qe Qt Go.BinOp.lss (Qn 4) (Qo (Qp (Qq (Qr Qu 0))))),Qa (Qv 6) (Qd (Qn 5)),Qb 6 false (Qv 7),Qa (Qv 7) (Qd (Qn 0)),Qb 6 false (Qv 8),Qa (Qv 8) (Qg 6 (Qn 1)),Qb 6 false (Qv 9),Qa (Qv 9) (Qf 1 false (Qn 8)),Qb 6 false (Qv 10),Qa (Qv 10) (Qe Qt Go.BinOp.geq (Qn 7) (Qn 9)),Qa (Qv 11) (Qm (Qn 6) (Qo (Qp (Qq (Qs true)))) (Qn 10)),Qa (Qv 3) (Qd (Qn 11))]
def f166_c1:MC:=.reg false f166_r1
def f166_c2:MC:=MC.ret
def f166_c3:MC:=.seq f166_c1 f166_c2
def f166_c4:MC:=.seq f166_c0 f166_c3
attribute [go_sem] f166_r0 f166_r1
noncomputable def f166_code : Code := (f166.body).getD .skip
theorem f166_body : f166.body = Qv f166_code := by kernel_rfl
theorem f166_tr : trC QP [] f166_code = Qv f166_c4 := by kernel_rfl
theorem f166_rs : rsOf QP f166.results.toList = Qv [(RV.t 3)] := by kernel_rfl
theorem f166_nt : f166.ntmps = 12 := by kernel_rfl
theorem f166_ok : callable QP 166 = true := by kernel_rfl
theorem f166_in {gp : Heap} {args : List V} {res : V} (h : G ⟨QP,gp,0,[(RV.t 3)],fun r c => r = res /\ c = [],false⟩ [.code f166_c4,.fin] ⟨args ++ List.replicate (12 - args.length) .un,[]⟩) : Does QP gp 166 args res :=
 does_intro f166_ok func166 f166_body f166_tr f166_rs (by rw [f166_nt]; exact h)
def f167_r0:List MO:=[Qa (Qv 4) (Qd (Qo (Qp (Qq (Qs false)))))]
def f167_c0:MC:=.reg false f167_r0
def f167_r1:List MO:=[Qa (Qv 5) (Qd (Qn 0)),Qa (Qv 6) (Qd (Qn 1)),Qa (Qv 7) (Qh 179 [(Qn 5),(Qn 6)]),Qa (Qv 8) (Qe Qt Go.BinOp.geq (Qn 7) (Qo (Qp (Qq (Qr Qu 0))))),Qa (Qv 4) (Qd (Qn 8))]
def f167_c1:MC:=.reg false f167_r1
def f167_c2:MC:=MC.ret
def f167_c3:MC:=.seq f167_c1 f167_c2
def f167_c4:MC:=.seq f167_c0 f167_c3
attribute [go_sem] f167_r0 f167_r1
noncomputable def f167_code : Code := (f167.body).getD .skip
theorem f167_body : f167.body = Qv f167_code := by kernel_rfl
theorem f167_tr : trC QP [] f167_code = Qv f167_c4 := by kernel_rfl
theorem f167_rs : rsOf QP f167.results.toList = Qv [(RV.t 4)] := by kernel_rfl
theorem f167_nt : f167.ntmps = 9 := by kernel_rfl
theorem f167_ok : callable QP 167 = true := by kernel_rfl
theorem f167_in {gp : Heap} {args : List V} {res : V} (h : G ⟨QP,gp,0,[(RV.t 4)],fun r c => r = res /\ c = [],false⟩ [.code f167_c4,.fin] ⟨args ++ List.replicate (9 - args.length) .un,[]⟩) : Does QP gp 167 args res :=
 does_intro f167_ok func167 f167_body f167_tr f167_rs (by rw [f167_nt]; exact h)
def f168_r0:List MO:=[Qa (Qv 1) (MOp.ibox (Qn 0)),Qa (Qv 2) (Qd (Qo (Qp (Qq (Qs false)))))]
def f168_c0:MC:=.reg false f168_r0
def f168_r1:List MO:=[Qa (Qv 3) (Qf 3 true (Qn 1)),Qa (Qv 4) (Qh 148 [(Qn 3)]),Qa (Qv 5) (MOp.not (Qn 4)),Qa (Qv 2) (Qd (Qn 5))]
def f168_c1:MC:=.reg false f168_r1
def f168_c2:MC:=MC.ret
def f168_c3:MC:=.seq f168_c1 f168_c2
def f168_c4:MC:=.seq f168_c0 f168_c3
attribute [go_sem] f168_r0 f168_r1
noncomputable def f168_code : Code := (f168.body).getD .skip
theorem f168_body : f168.body = Qv f168_code := by kernel_rfl
theorem f168_tr : trC QP [1] f168_code = Qv f168_c4 := by kernel_rfl
theorem f168_rs : rsOf QP f168.results.toList = Qv [(RV.t 2)] := by kernel_rfl
theorem f168_nt : f168.ntmps = 6 := by kernel_rfl
theorem f168_ok : callable QP 168 = true := by kernel_rfl
theorem f168_in {gp : Heap} {args : List V} {res : V} (h : G ⟨QP,gp,0,[(RV.t 2)],fun r c => r = res /\ c = [],false⟩ [.code f168_c4,.fin] ⟨args ++ List.replicate (6 - args.length) .un,[]⟩) : Does QP gp 168 args res :=
 does_intro f168_ok func168 f168_body f168_tr f168_rs (by rw [f168_nt]; exact h)
def f169_r0:List MO:=[Qa (Qv 4) (Qd (Qo (Qp (Qq (Qs false)))))]
def f169_c0:MC:=.reg false f169_r0
def f169_r1:List MO:=[Qa (Qv 5) (Qd (Qn 0)),Qa (Qv 6) (Qd (Qn 1)),Qa (Qv 7) (Qh 180 [(Qn 5),(Qn 6)]),Qa (Qv 8) (Qe Qt Go.BinOp.geq (Qn 7) (Qo (Qp (Qq (Qr Qu 0))))),Qa (Qv 4) (Qd (Qn 8))]
def f169_c1:MC:=.reg false f169_r1
def f169_c2:MC:=MC.ret
def f169_c3:MC:=.seq f169_c1 f169_c2
def f169_c4:MC:=.seq f169_c0 f169_c3
attribute [go_sem] f169_r0 f169_r1
noncomputable def f169_code : Code := (f169.body).getD .skip
theorem f169_body : f169.body = Qv f169_code := by kernel_rfl
theorem f169_tr : trC QP [] f169_code = Qv f169_c4 := by kernel_rfl
theorem f169_rs : rsOf QP f169.results.toList = Qv [(RV.t 4)] := by kernel_rfl
theorem f169_nt : f169.ntmps = 9 := by kernel_rfl
theorem f169_ok : callable QP 169 = true := by kernel_rfl
theorem f169_in {gp : Heap} {args : List V} {res : V} (h : G ⟨QP,gp,0,[(RV.t 4)],fun r c => r = res /\ c = [],false⟩ [.code f169_c4,.fin] ⟨args ++ List.replicate (9 - args.length) .un,[]⟩) : Does QP gp 169 args res :=
 does_intro f169_ok func169 f169_body f169_tr f169_rs (by rw [f169_nt]; exact h)
def f170_r0:List MO:=[Qa (Qv 2) (Qd (Qo (Qp (Qq (Qs false)))))]
def f170_c0:MC:=.reg false f170_r0
def f170_r1:List MO:=[Qa (Qv 3) (MOp.alloc [(Qr Qu 0)]),Qa none (Ql 1 (Qn 3) (Qo (Qp (Qq (Qr Qu 0)))))]
def f170_c1:MC:=.reg false f170_r1
def f170_r2:List MO:=[Qa (Qv 4) (Qd (Qn 0)),Qa (Qv 5) (Qh 181 [(Qn 4)])]
def f170_c2:MC:=.reg false f170_r2
def f170_c3:MC:=MC.skip
def f170_r4:List MO:=[Qa (Qv 7) (Qf 1 false (Qn 3)),Qa (Qv 8) (Qe Qt Go.BinOp.add (Qn 7) (Qo (Qp (Qq (Qr Qu 1))))),Qa none (Ql 1 (Qn 3) (Qn 8))]
def f170_c4:MC:=.reg false f170_r4
def f170_c5:MC:=.blk 1 f170_c4
def f170_c6:MC:=.rf (Qn 5) [6] f170_c3 f170_c5
def f170_c7:MC:=.blk 0 f170_c6
def f170_c8:MC:=.seq f170_c2 f170_c7
def f170_r9:List MO:=[Qa (Qv 9) (Qf 1 false (Qn 3)),Qa (Qv 10) (Qd (Qn 0)),Qa (Qv 11) (Qk Qt (Qn 10)),Qa (Qv 12) (Qe Qt Go.BinOp.lss (Qn 9) (Qn 11)),Qa (Qv 2) (Qd (Qn 12))]
def f170_c9:MC:=.reg false f170_r9
def f170_c10:MC:=MC.ret
def f170_c11:MC:=.seq f170_c9 f170_c10
def f170_c12:MC:=.seq f170_c8 f170_c11
def f170_c13:MC:=.seq f170_c1 f170_c12
def f170_c14:MC:=.seq f170_c0 f170_c13
attribute [go_sem] f170_r0 f170_r1 f170_r2 f170_r4 f170_r9
noncomputable def f170_code : Code := (f170.body).getD .skip
theorem f170_body : f170.body = Qv f170_code := by kernel_rfl
theorem f170_tr : trC QP [] f170_code = Qv f170_c14 := by kernel_rfl
theorem f170_rs : rsOf QP f170.results.toList = Qv [(RV.t 2)] := by kernel_rfl
theorem f170_nt : f170.ntmps = 13 := by kernel_rfl
theorem f170_ok : callable QP 170 = true := by kernel_rfl
theorem f170_in {gp : Heap} {args : List V} {res : V} (h : G ⟨QP,gp,0,[(RV.t 2)],fun r c => r = res /\ c = [],false⟩ [.code f170_c14,.fin] ⟨args ++ List.replicate (13 - args.length) .un,[]⟩) : Does QP gp 170 args res :=
 does_intro f170_ok func170 f170_body f170_tr f170_rs (by rw [f170_nt]; exact h)
def f177_r0:List MO:=[Qa (Qv 4) (Qd (Qo (Qp (Qq (Qr Qu 0)))))]
def f177_c0:MC:=.reg false f177_r0
def f177_r1:List MO:=[Qa (Qv 6) (Qd (Qn 0)),Qa (Qv 7) (Qk Qt (Qn 6)),Qa (Qv 8) (Qd (Qo (Qp (Qq (Qr Qu 0)))))]
def f177_c1:MC:=.reg false f177_r1
def f177_r2:List MO:=[Qa (Qv 9) (Qe Qt Go.BinOp.lss (Qn 8) (Qn 7))]
def f177_c2:MC:=.reg false f177_r2
def f177_c3:MC:=MC.skip
def f177_c4:MC:=(MC.exit 0)
def f177_c5:MC:=.cond (Qn 9) f177_c3 f177_c4
def f177_r6:List MO:=[Qa (Qv 10) (Qd (Qn 8)),Qa (Qv 5) (Qd (Qn 10))]
def f177_c6:MC:=.reg false f177_r6
def f177_r7:List MO:=[Qa (Qv 11) (Qd (Qn 1)),Qa (Qv 12) (Qd (Qn 0)),Qa (Qv 13) (Qd (Qn 5)),Qa (Qv 14) (Qj 1 (Qn 12) (Qn 13)),Qa (Qv 15) (Qf 1 false (Qn 14)),Qa (Qv 16) (Qe Leaf.b Go.BinOp.eql (Qn 11) (Qn 15))]
def f177_c7:MC:=.reg false f177_r7
def f177_r8:List MO:=[Qa (Qv 17) (Qd (Qn 5)),Qa (Qv 4) (Qd (Qn 17))]
def f177_c8:MC:=.reg false f177_r8
def f177_c9:MC:=MC.ret
def f177_c10:MC:=.seq f177_c8 f177_c9
def f177_c11:MC:=MC.skip
def f177_c12:MC:=.cond (Qn 16) f177_c10 f177_c11
def f177_c13:MC:=.seq f177_c7 f177_c12
def f177_c14:MC:=.seq f177_c6 f177_c13
def f177_c15:MC:=.blk 1 f177_c14
def f177_r16:List MO:=[Qa (Qv 18) (Qe Qt Go.BinOp.add (Qn 8) (Qo (Qp (Qq (Qr Qu 1))))),Qa (Qv 8) (Qd (Qn 18))]
def f177_c16:MC:=.reg false f177_r16
def f177_c17:MC:=.seq f177_c15 f177_c16
def f177_c18:MC:=.seq f177_c5 f177_c17
def f177_c19:MC:=.seq f177_c2 f177_c18
def f177_c20:MC:=.loop f177_c19
def f177_c21:MC:=.blk 0 f177_c20
def f177_c22:MC:=.seq f177_c1 f177_c21
def f177_r23:List MO:=[Qa (Qv 4) (Qd (Qo (Qp (Qq (Qr Qu (-1))))))]
def f177_c23:MC:=.reg false f177_r23
def f177_c24:MC:=MC.ret
def f177_c25:MC:=.seq f177_c23 f177_c24
def f177_c26:MC:=.seq f177_c22 f177_c25
def f177_c27:MC:=.seq f177_c0 f177_c26
attribute [go_sem] f177_r0 f177_r1 f177_r2 f177_r6 f177_r7 f177_r8 f177_r16 f177_r23
noncomputable def f177_code : Code := (f177.body).getD .skip
theorem f177_body : f177.body = Qv f177_code := by kernel_rfl
theorem f177_tr : trC QP [] f177_code = Qv f177_c27 := by kernel_rfl
theorem f177_rs : rsOf QP f177.results.toList = Qv [(RV.t 4)] := by kernel_rfl
theorem f177_nt : f177.ntmps = 19 := by kernel_rfl
theorem f177_ok : callable QP 177 = true := by kernel_rfl
theorem f177_in {gp : Heap} {args : List V} {res : V} (h : G ⟨QP,gp,0,[(RV.t 4)],fun r c => r = res /\ c = [],false⟩ [.code f177_c27,.fin] ⟨args ++ List.replicate (19 - args.length) .un,[]⟩) : Does QP gp 177 args res :=
 does_intro f177_ok func177 f177_body f177_tr f177_rs (by rw [f177_nt]; exact h)
def f179_r0:List MO:=[Qa (Qv 4) (Qd (Qo (Qp (Qq (Qr Qu 0)))))]
def f179_c0:MC:=.reg false f179_r0
def f179_r1:List MO:=[Qa (Qv 6) (Qd (Qn 0)),Qa (Qv 7) (Qk Qt (Qn 6)),Qa (Qv 8) (Qd (Qo (Qp (Qq (Qr Qu 0)))))]
def f179_c1:MC:=.reg false f179_r1
def f179_r2:List MO:=[Qa (Qv 9) (Qe Qt Go.BinOp.lss (Qn 8) (Qn 7))]
def f179_c2:MC:=.reg false f179_r2
def f179_c3:MC:=MC.skip
def f179_c4:MC:=(MC.exit 0)
def f179_c5:MC:=.cond (Qn 9) f179_c3 f179_c4
def f179_r6:List MO:=[Qa (Qv 10) (Qd (Qn 8)),Qa (Qv 5) (Qd (Qn 10))]
def f179_c6:MC:=.reg false f179_r6
def f179_r7:List MO:=[Qa (Qv 11) (Qd (Qn 1)),Qa (Qv 12) (Qd (Qn 0)),Qa (Qv 13) (Qd (Qn 5)),Qa (Qv 14) (Qj 1 (Qn 12) (Qn 13)),Qa (Qv 15) (Qf 1 false (Qn 14)),Qa (Qv 16) (MOp.callv (Qn 11) [(Qn 15)])]
def f179_c7:MC:=.reg false f179_r7
def f179_r8:List MO:=[Qa (Qv 17) (Qd (Qn 5)),Qa (Qv 4) (Qd (Qn 17))]
def f179_c8:MC:=.reg false f179_r8
def f179_c9:MC:=MC.ret
def f179_c10:MC:=.seq f179_c8 f179_c9
def f179_c11:MC:=MC.skip
def f179_c12:MC:=.cond (Qn 16) f179_c10 f179_c11
def f179_c13:MC:=.seq f179_c7 f179_c12
def f179_c14:MC:=.seq f179_c6 f179_c13
def f179_c15:MC:=.blk 1 f179_c14
def f179_r16:List MO:=[Qa (Qv 18) (Qe Qt Go.BinOp.add (Qn 8) (Qo (Qp (Qq (Qr Qu 1))))),Qa (Qv 8) (Qd (Qn 18))]
def f179_c16:MC:=.reg false f179_r16
def f179_c17:MC:=.seq f179_c15 f179_c16
def f179_c18:MC:=.seq f179_c5 f179_c17
def f179_c19:MC:=.seq f179_c2 f179_c18
def f179_c20:MC:=.loop f179_c19
def f179_c21:MC:=.blk 0 f179_c20
def f179_c22:MC:=.seq f179_c1 f179_c21
def f179_r23:List MO:=[Qa (Qv 4) (Qd (Qo (Qp (Qq (Qr Qu (-1))))))]
def f179_c23:MC:=.reg false f179_r23
def f179_c24:MC:=MC.ret
def f179_c25:MC:=.seq f179_c23 f179_c24
def f179_c26:MC:=.seq f179_c22 f179_c25
def f179_c27:MC:=.seq f179_c0 f179_c26
attribute [go_sem] f179_r0 f179_r1 f179_r2 f179_r6 f179_r7 f179_r8 f179_r16 f179_r23
noncomputable def f179_code : Code := (f179.body).getD .skip
theorem f179_body : f179.body = Qv f179_code := by kernel_rfl
theorem f179_tr : trC QP [] f179_code = Qv f179_c27 := by kernel_rfl
theorem f179_rs : rsOf QP f179.results.toList = Qv [(RV.t 4)] := by kernel_rfl
theorem f179_nt : f179.ntmps = 19 := by kernel_rfl
theorem f179_ok : callable QP 179 = true := by kernel_rfl
theorem f179_in {gp : Heap} {args : List V} {res : V} (h : G ⟨QP,gp,0,[(RV.t 4)],fun r c => r = res /\ c = [],false⟩ [.code f179_c27,.fin] ⟨args ++ List.replicate (19 - args.length) .un,[]⟩) : Does QP gp 179 args res :=
 does_intro f179_ok func179 f179_body f179_tr f179_rs (by rw [f179_nt]; exact h)
def f180_r0:List MO:=[Qa (Qv 4) (Qd (Qo (Qp (Qq (Qr Qu 0)))))]
def f180_c0:MC:=.reg false f180_r0
def f180_r1:List MO:=[Qa (Qv 6) (Qd (Qn 0)),Qa (Qv 7) (Qk Qt (Qn 6)),Qa (Qv 8) (Qd (Qo (Qp (Qq (Qr Qu 0)))))]
def f180_c1:MC:=.reg false f180_r1
def f180_r2:List MO:=[Qa (Qv 9) (Qe Qt Go.BinOp.lss (Qn 8) (Qn 7))]
def f180_c2:MC:=.reg false f180_r2
def f180_c3:MC:=MC.skip
def f180_c4:MC:=(MC.exit 0)
def f180_c5:MC:=.cond (Qn 9) f180_c3 f180_c4
def f180_r6:List MO:=[Qa (Qv 10) (Qd (Qn 8)),Qa (Qv 5) (Qd (Qn 10))]
def f180_c6:MC:=.reg false f180_r6
def f180_r7:List MO:=[Qa (Qv 11) (Qd (Qn 1)),Qa (Qv 12) (Qd (Qn 0)),Qa (Qv 13) (Qd (Qn 5)),Qa (Qv 14) (Qj 3 (Qn 12) (Qn 13)),Qa (Qv 15) (Qf 3 true (Qn 14)),Qa (Qv 16) (MOp.callv (Qn 11) [(Qn 15)])]
def f180_c7:MC:=.reg false f180_r7
def f180_r8:List MO:=[Qa (Qv 17) (Qd (Qn 5)),Qa (Qv 4) (Qd (Qn 17))]
def f180_c8:MC:=.reg false f180_r8
def f180_c9:MC:=MC.ret
def f180_c10:MC:=.seq f180_c8 f180_c9
def f180_c11:MC:=MC.skip
def f180_c12:MC:=.cond (Qn 16) f180_c10 f180_c11
def f180_c13:MC:=.seq f180_c7 f180_c12
def f180_c14:MC:=.seq f180_c6 f180_c13
def f180_c15:MC:=.blk 1 f180_c14
def f180_r16:List MO:=[Qa (Qv 18) (Qe Qt Go.BinOp.add (Qn 8) (Qo (Qp (Qq (Qr Qu 1))))),Qa (Qv 8) (Qd (Qn 18))]
def f180_c16:MC:=.reg false f180_r16
def f180_c17:MC:=.seq f180_c15 f180_c16
def f180_c18:MC:=.seq f180_c5 f180_c17
def f180_c19:MC:=.seq f180_c2 f180_c18
def f180_c20:MC:=.loop f180_c19
def f180_c21:MC:=.blk 0 f180_c20
def f180_c22:MC:=.seq f180_c1 f180_c21
def f180_r23:List MO:=[Qa (Qv 4) (Qd (Qo (Qp (Qq (Qr Qu (-1))))))]
def f180_c23:MC:=.reg false f180_r23
def f180_c24:MC:=MC.ret
def f180_c25:MC:=.seq f180_c23 f180_c24
def f180_c26:MC:=.seq f180_c22 f180_c25
def f180_c27:MC:=.seq f180_c0 f180_c26
attribute [go_sem] f180_r0 f180_r1 f180_r2 f180_r6 f180_r7 f180_r8 f180_r16 f180_r23
noncomputable def f180_code : Code := (f180.body).getD .skip
theorem f180_body : f180.body = Qv f180_code := by kernel_rfl
theorem f180_tr : trC QP [] f180_code = Qv f180_c27 := by kernel_rfl
theorem f180_rs : rsOf QP f180.results.toList = Qv [(RV.t 4)] := by kernel_rfl
theorem f180_nt : f180.ntmps = 19 := by kernel_rfl
theorem f180_ok : callable QP 180 = true := by kernel_rfl
theorem f180_in {gp : Heap} {args : List V} {res : V} (h : G ⟨QP,gp,0,[(RV.t 4)],fun r c => r = res /\ c = [],false⟩ [.code f180_c27,.fin] ⟨args ++ List.replicate (19 - args.length) .un,[]⟩) : Does QP gp 180 args res :=
 does_intro f180_ok func180 f180_body f180_tr f180_rs (by rw [f180_nt]; exact h)
def f181_r0:List MO:=[Qa (Qv 1) (MOp.ibox (Qn 0)),Qa (Qv 2) (Qd (Qo (Qp (Qq D.nilF))))]
def f181_c0:MC:=.reg false f181_r0
def f181_r1:List MO:=[Qa (Qv 3) (MOp.mkF (Go.Fn.func 196) [(Qn 1)]),Qa (Qv 2) (Qd (Qn 3))]
def f181_c1:MC:=.reg false f181_r1
def f181_c2:MC:=MC.ret
def f181_c3:MC:=.seq f181_c1 f181_c2
def f181_c4:MC:=.seq f181_c0 f181_c3
attribute [go_sem] f181_r0 f181_r1
noncomputable def f181_code : Code := (f181.body).getD .skip
theorem f181_body : f181.body = Qv f181_code := by kernel_rfl
theorem f181_tr : trC QP [1] f181_code = Qv f181_c4 := by kernel_rfl
theorem f181_rs : rsOf QP f181.results.toList = Qv [(RV.t 2)] := by kernel_rfl
theorem f181_nt : f181.ntmps = 4 := by kernel_rfl
theorem f181_ok : callable QP 181 = true := by kernel_rfl
theorem f181_in {gp : Heap} {args : List V} {res : V} (h : G ⟨QP,gp,0,[(RV.t 2)],fun r c => r = res /\ c = [],false⟩ [.code f181_c4,.fin] ⟨args ++ List.replicate (4 - args.length) .un,[]⟩) : Does QP gp 181 args res :=
 does_intro f181_ok func181 f181_body f181_tr f181_rs (by rw [f181_nt]; exact h)
def f196_r0:List MO:=[Qa (Qv 6) MOp.mkM,Qa (Qv 3) (Qd (Qn 6))]
def f196_c0:MC:=.reg false f196_r0
def f196_c1:MC:=MC.skip
def f196_r2:List MO:=[Qa (Qv 7) (Qf 1 false (Qn 1)),Qa (Qv 8) (Qk Qt (Qn 7)),Qa (Qv 9) (Qd (Qo (Qp (Qq (Qr Qu 0)))))]
def f196_c2:MC:=.reg false f196_r2
def f196_r3:List MO:=[Qa (Qv 10) (Qe Qt Go.BinOp.lss (Qn 9) (Qn 8))]
def f196_c3:MC:=.reg false f196_r3
def f196_c4:MC:=MC.skip
def f196_c5:MC:=(MC.exit 0)
def f196_c6:MC:=.cond (Qn 10) f196_c4 f196_c5
def f196_r7:List MO:=[Qa (Qv 11) (Qj 3 (Qn 7) (Qn 9)),Qa (Qv 12) (Qf 3 true (Qn 11)),Qa (Qv 5) (MOp.alloc [(Qr Qu 0),(Qr Qu 0),(D.str (ByteArray.mk #[]))]),Qa none (Ql 3 (Qn 5) (Qn 12))]
def f196_c7:MC:=.reg false f196_r7
def f196_r8:List MO:=[Qa (Qv 13) (Qd (Qn 3)),Qa (Qv 14) (Qf 3 true (Qn 5)),Qa (Qv 15) (MOp.lkp false (Qp (Qq (Qs false))) true [Qt,Qt,Leaf.s] (Qn 13) (Qn 14)),Qa (Qv 16) (Qd (Qn 15)),Qb 16 false (Qv 17),Qa (Qv 17) (Qd (Qn 0)),Qb 16 false (Qv 18),Qa (Qv 18) (Qf 3 true (Qn 5)),Qb 16 false (Qv 19),Qa (Qv 19) (MOp.callv (Qn 17) [(Qn 18)]),Qb 16 false (Qv 20),Qa (Qv 20) (MOp.not (Qn 19)),Qa (Qv 21) (Qm (Qn 16) (Qo (Qp (Qq (Qs true)))) (Qn 20))]
def f196_c8:MC:=.reg false f196_r8
def f196_c9:MC:=(MC.exit 0)
def f196_c10:MC:=MC.skip
def f196_c11:MC:=.cond (Qn 21) f196_c9 f196_c10
def f196_c12:MC:=.seq f196_c8 f196_c11
def f196_r13:List MO:=[Qa (Qv 22) (Qd (Qn 3)),Qa (Qv 23) (Qf 3 true (Qn 5)),Qa none (MOp.mupd true [Qt,Qt,Leaf.s] (Qn 22) (Qn 23) (Qo (Qp (Qq (Qs true)))))]
def f196_c13:MC:=.reg false f196_r13
def f196_c14:MC:=.seq f196_c12 f196_c13
def f196_c15:MC:=.seq f196_c7 f196_c14
def f196_c16:MC:=.blk 1 f196_c15
def f196_r17:List MO:=[Qa (Qv 24) (Qe Qt Go.BinOp.add (Qn 9) (Qo (Qp (Qq (Qr Qu 1))))),Qa (Qv 9) (Qd (Qn 24))]
def f196_c17:MC:=.reg false f196_r17
def f196_c18:MC:=.seq f196_c16 f196_c17
def f196_c19:MC:=.seq f196_c6 f196_c18
def f196_c20:MC:=.seq f196_c3 f196_c19
def f196_c21:MC:=.loop f196_c20
def f196_c22:MC:=.blk 0 f196_c21
def f196_c23:MC:=.seq f196_c2 f196_c22
def f196_c24:MC:=.seq f196_c1 f196_c23
def f196_c25:MC:=.seq f196_c0 f196_c24
def f196_c26:MC:=.scope f196_c25
attribute [go_sem] f196_r0 f196_r2 f196_r3 f196_r7 f196_r8 f196_r13 f196_r17
noncomputable def f196_code : Code := (f196.body).getD .skip
theorem f196_body : f196.body = Qv f196_code := by kernel_rfl
theorem f196_tr : trC QP [] f196_code = Qv f196_c26 := by kernel_rfl
theorem f196_rs : rsOf QP f196.results.toList = Qv [] := by kernel_rfl
theorem f196_nt : f196.ntmps = 25 := by kernel_rfl
theorem f196_ok : callable QP 196 = true := by kernel_rfl
theorem f196_tri {gp : Heap} {args : List V} {pre : List Ch} {R : V -> List Ch -> Prop} (h : G ⟨QP,gp,pre.length,[],R,false⟩ [.code f196_c26,.fin] ⟨args ++ List.replicate (25 - args.length) .un,pre⟩) : Tri QP gp 196 args pre R :=
 tri_intro func196 f196_body f196_tr f196_rs (by rw [f196_nt]; exact h)
end Go.Fw.L07
