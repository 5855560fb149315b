/- Small codes. -/
import Derived.Test.YtbicdabccidliaaGreatDoorFd
import Derived.Test.YtbicdabccidliaaGreatDoorProg
set_option linter.all false
namespace Go.Fw.L07
open Go Go.Fw
open Go.Proofs.Tryz renaming prog -> QP
open Go.Proofs.Tryz (f104 f105 f132 f133 f134 f135 f152 f153 f166 f167 f168 f169 f170 f171 f184 f191 func104 func105 func132 func133 func134 func135 func152 func153 func166 func167 func168 func169 func170 func171 func184 func191)
open Go.Fw.MO renaming op -> Qa,chk -> Qb,opx -> Qc
open Go.Fw.MOp renaming mv -> Qd,bin -> Qe,load -> Qf,fad -> Qg,call -> Qh,ext -> Qi,iad -> Qj,len -> Qk,store -> Ql,pick -> Qm
open Go.Fw.Opd renaming t -> Qn,c -> Qo
open Go.Fw.V renaming one -> Qp
open Go.Fw.A renaming d -> Qq
open Go.Fw.D renaming int -> Qr,bool -> Qs
open Go.Fw.Leaf renaming i -> Qt
open Go.IntKind renaming i64 -> Qu
open Option renaming some -> Qv
variable {gp : Heap} {args : List V} {res : V} {pre : List Ch} {R : V -> List Ch -> Prop}
def f104_r0:List MO:=[Qa (Qv 1) (MOp.ibox (Qn 0)),Qa (Qv 2) (Qd (Qo (Qp (Qq (D.str (ByteArray.mk #[])))))),Qa (Qv 3) (Qd (Qo (Qp (Qq (Qr Qu 0)))))]
def f104_c0:MC:=.r0 f104_r0
def f104_r1:List MO:=[Qa (Qv 6) (Qf 3 true (Qn 1)),Qa (Qv 7) (Qh 131 [(Qn 6)]),Qa (Qv 8) (MOp.not (Qn 7))]
def f104_c1:MC:=.r0 f104_r1
def f104_r2:List MO:=[Qa (Qv 2) (Qd (Qo (Qp (Qq (D.str (ByteArray.mk #[])))))),Qa (Qv 3) (Qd (Qo (Qp (Qq (Qr Qu 60)))))]
def f104_c2:MC:=.r0 f104_r2
def f104_r8:List MO:=[Qa (Qv 9) (Qf 3 true (Qn 1)),Qa (Qv 10) (MOp.build [(Qr Qu 0),(Qr Qu 0),(D.str (ByteArray.mk #[]))] [(0,(3,(Qn 9)))]),Qa (Qv 4) (MOp.alloc [(Qr Qu 0),(Qr Qu 0),(D.str (ByteArray.mk #[]))]),Qa none (Ql 3 (Qn 4) (Qn 10))]
def f104_c8:MC:=.r0 f104_r8
def f104_r9:List MO:=[Qa (Qv 11) (Qf 3 true (Qn 4)),Qa (Qv 12) (MOp.mkMv (Go.Fn.func 132) (Qn 11)),Qa (Qv 13) (Qf 3 true (Qn 4)),Qa (Qv 14) (MOp.mkMv (Go.Fn.func 133) (Qn 13)),Qa (Qv 15) (Qf 3 true (Qn 4)),Qa (Qv 16) (MOp.mkMv (Go.Fn.func 134) (Qn 15)),Qa (Qv 17) (Qf 3 true (Qn 4)),Qa (Qv 18) (MOp.mkMv (Go.Fn.func 135) (Qn 17)),Qa (Qv 19) (MOp.build [D.nilF,D.nilF,D.nilF,D.nilF] [(0,(1,(Qn 12))),(1,(1,(Qn 14))),(2,(1,(Qn 16))),(3,(1,(Qn 18)))]),Qa (Qv 5) (MOp.alloc [D.nilF,D.nilF,D.nilF,D.nilF]),Qa none (Ql 4 (Qn 5) (Qn 19))]
def f104_c9:MC:=.r0 f104_r9
def f104_r10:List MO:=[Qa (Qv 20) (Qg 0 (Qn 1)),Qa (Qv 21) (Qf 1 false (Qn 20)),Qa (Qv 22) (MOp.iadA 4 1 (Qn 5) (Qn 21)),Qa (Qv 23) (Qf 1 false (Qn 22)),Qa (Qv 24) (MOp.callv (Qn 23) []),Qa (Qv 2) (Qd (Qn 24)),Qa (Qv 3) (Qd (Qo (Qp (Qq (Qr Qu 0)))))]
def f104_c10:MC:=.r0 f104_r10
def f104_c15:MC:=.seq (.seq f104_c1 (.cond (Qn 8) (.seq f104_c2 .ret) .skip)) (.seq f104_c8 (.seq f104_c9 (.seq f104_c10 .ret)))
def f104_c16:MC:=.seq f104_c0 f104_c15
attribute [go_sem] f104_r0 f104_r1 f104_r2 f104_r8 f104_r9 f104_r10
theorem f104_k : KK QP 104 f104 [1] f104_c16 [(RV.t 2),(RV.t 3)] 25 := ⟨func104,by kernel_rfl,by kernel_rfl,by kernel_rfl,by kernel_rfl⟩
theorem f104_ok : callable QP 104 = true := by kernel_rfl
theorem f104_in (h : GI QP gp [(RV.t 2),(RV.t 3)] res 25 f104_c16 args) : Does QP gp 104 args res := f104_k.i f104_ok h
def f105_r0:List MO:=[Qa (Qv 4) (Qd (Qo (Qp (Qq (Qr Qu 0))))),Qa (Qv 5) (Qd (Qo (Qp (Qq D.nilI))))]
def f105_c0:MC:=.r0 f105_r0
def f105_r1:List MO:=[Qa (Qv 6) (Qd (Qn 0)),Qa (Qv 7) (Qh 136 [(Qn 6)])]
def f105_c1:MC:=.r0 f105_r1
def f105_r2:List MO:=[Qa (Qv 8) (Qd (Qn 0)),Qa (Qv 9) (Qd (Qn 0)),Qa (Qv 10) (MOp.nck (Qn 9)),Qa (Qv 11) (Qg 1 (Qn 10)),Qa (Qv 12) (Qf 1 false (Qn 11)),Qa (Qv 13) (Qd (Qn 1)),Qa (Qv 14) (MOp.appS 5 (Qn 12) (Qn 13)),Qa (Qv 15) (MOp.nck (Qn 8)),Qa (Qv 16) (Qg 1 (Qn 15)),Qa none (Ql 1 (Qn 16) (Qn 14))]
def f105_c2:MC:=.r0 f105_r2
def f105_r3:List MO:=[Qa (Qv 17) (Qd (Qn 1)),Qa (Qv 18) (Qk Leaf.s (Qn 17)),Qa (Qv 4) (Qd (Qn 18)),Qa (Qv 5) (Qd (Qo (Qp (Qq D.nilI))))]
def f105_c3:MC:=.r0 f105_r3
def f105_c8:MC:=.seq f105_c0 (.seq f105_c1 (.seq f105_c2 (.seq f105_c3 .ret)))
attribute [go_sem] f105_r0 f105_r1 f105_r2 f105_r3
theorem f105_k : KK QP 105 f105 [] f105_c8 [(RV.t 4),(RV.t 5)] 19 := ⟨func105,by kernel_rfl,by kernel_rfl,by kernel_rfl,by kernel_rfl⟩
theorem f105_ok : callable QP 105 = true := by kernel_rfl
theorem f105_tri (h : GT QP gp [(RV.t 4),(RV.t 5)] pre R 19 f105_c8 args) : Tri QP gp 105 args pre R := f105_k.t h
-- f106: trC none
def f132_r0:List MO:=[Qa (Qv 1) (MOp.ibox (Qn 0)),Qa (Qv 2) (Qd (Qo (Qp (Qq (D.str (ByteArray.mk #[]))))))]
def f132_c0:MC:=.r0 f132_r0
def f132_r1:List MO:=[Qa (Qv 2) (Qd (Qo (Qp (Qq (D.str (ByteArray.mk #[110,117,108,108]))))))]
def f132_c1:MC:=.r0 f132_r1
def f132_c4:MC:=.seq f132_c0 (.seq f132_c1 .ret)
attribute [go_sem] f132_r0 f132_r1
theorem f132_k : KK QP 132 f132 [1] f132_c4 [(RV.t 2)] 3 := ⟨func132,by kernel_rfl,by kernel_rfl,by kernel_rfl,by kernel_rfl⟩
theorem f132_ok : callable QP 132 = true := by kernel_rfl
theorem f132_in (h : GI QP gp [(RV.t 2)] res 3 f132_c4 args) : Does QP gp 132 args res := f132_k.i f132_ok h
def f133_r0:List MO:=[Qa (Qv 1) (MOp.ibox (Qn 0)),Qa (Qv 2) (Qd (Qo (Qp (Qq (D.str (ByteArray.mk #[]))))))]
def f133_c0:MC:=.r0 f133_r0
def f133_r1:List MO:=[Qa (Qv 3) (Qg 0 (Qn 1)),Qa (Qv 4) (Qg 1 (Qn 3)),Qa (Qv 5) (Qf 1 false (Qn 4)),Qa (Qv 6) (Qe Qt Go.BinOp.eql (Qn 5) (Qo (Qp (Qq (Qr Qu 1))))),Qa (Qv 7) (Qh 152 [(Qn 6)]),Qa (Qv 2) (Qd (Qn 7))]
def f133_c1:MC:=.r0 f133_r1
def f133_c4:MC:=.seq f133_c0 (.seq f133_c1 .ret)
attribute [go_sem] f133_r0 f133_r1
theorem f133_k : KK QP 133 f133 [1] f133_c4 [(RV.t 2)] 8 := ⟨func133,by kernel_rfl,by kernel_rfl,by kernel_rfl,by kernel_rfl⟩
theorem f133_ok : callable QP 133 = true := by kernel_rfl
theorem f133_in (h : GI QP gp [(RV.t 2)] res 8 f133_c4 args) : Does QP gp 133 args res := f133_k.i f133_ok h
def f134_r0:List MO:=[Qa (Qv 1) (MOp.ibox (Qn 0)),Qa (Qv 2) (Qd (Qo (Qp (Qq (D.str (ByteArray.mk #[]))))))]
def f134_c0:MC:=.r0 f134_r0
def f134_r1:List MO:=[Qa (Qv 3) (Qg 0 (Qn 1)),Qa (Qv 4) (Qg 1 (Qn 3)),Qa (Qv 5) (Qf 1 false (Qn 4)),Qa (Qv 6) (Qh 107 [(Qn 5)]),Qa (Qv 2) (Qd (Qn 6))]
def f134_c1:MC:=.r0 f134_r1
def f134_c4:MC:=.seq f134_c0 (.seq f134_c1 .ret)
attribute [go_sem] f134_r0 f134_r1
theorem f134_k : KK QP 134 f134 [1] f134_c4 [(RV.t 2)] 7 := ⟨func134,by kernel_rfl,by kernel_rfl,by kernel_rfl,by kernel_rfl⟩
theorem f134_ok : callable QP 134 = true := by kernel_rfl
theorem f134_in (h : GI QP gp [(RV.t 2)] res 7 f134_c4 args) : Does QP gp 134 args res := f134_k.i f134_ok h
def f135_r0:List MO:=[Qa (Qv 1) (MOp.ibox (Qn 0)),Qa (Qv 2) (Qd (Qo (Qp (Qq (D.str (ByteArray.mk #[]))))))]
def f135_c0:MC:=.r0 f135_r0
def f135_r1:List MO:=[Qa (Qv 6) (Qg 0 (Qn 1)),Qa (Qv 7) (Qg 2 (Qn 6)),Qa (Qv 8) (Qf 1 false (Qn 7)),Qa (Qv 9) (Qh 153 [(Qn 8)]),Qa (Qv 5) (Qd (Qn 9)),Qa (Qv 10) (Qi (Qn 5) 0),Qa (Qv 11) (Qi (Qn 5) 1),Qa (Qv 3) (Qd (Qn 10)),Qa (Qv 4) (Qd (Qn 11))]
def f135_c1:MC:=.r0 f135_r1
def f135_r2:List MO:=[Qa (Qv 12) (Qd (Qn 3)),Qa (Qv 2) (Qd (Qn 12))]
def f135_c2:MC:=.r0 f135_r2
def f135_c6:MC:=.seq f135_c0 (.seq f135_c1 (.seq f135_c2 .ret))
attribute [go_sem] f135_r0 f135_r1 f135_r2
theorem f135_k : KK QP 135 f135 [1] f135_c6 [(RV.t 2)] 13 := ⟨func135,by kernel_rfl,by kernel_rfl,by kernel_rfl,by kernel_rfl⟩
theorem f135_ok : callable QP 135 = true := by kernel_rfl
theorem f135_in (h : GI QP gp [(RV.t 2)] res 13 f135_c6 args) : Does QP gp 135 args res := f135_k.i f135_ok h
def f152_r0:List MO:=[Qa (Qv 2) (Qd (Qo (Qp (Qq (D.str (ByteArray.mk #[]))))))]
def f152_c0:MC:=.r0 f152_r0
def f152_r1:List MO:=[Qa (Qv 3) (Qd (Qn 0)),Qa (Qv 4) (Qh 166 [(Qn 3)]),Qa (Qv 2) (Qd (Qn 4))]
def f152_c1:MC:=.r0 f152_r1
def f152_c4:MC:=.seq f152_c0 (.seq f152_c1 .ret)
attribute [go_sem] f152_r0 f152_r1
theorem f152_k : KK QP 152 f152 [] f152_c4 [(RV.t 2)] 5 := ⟨func152,by kernel_rfl,by kernel_rfl,by kernel_rfl,by kernel_rfl⟩
theorem f152_ok : callable QP 152 = true := by kernel_rfl
theorem f152_in (h : GI QP gp [(RV.t 2)] res 5 f152_c4 args) : Does QP gp 152 args res := f152_k.i f152_ok h
def f153_r0:List MO:=[Qa (Qv 2) (Qd (Qo (Qp (Qq (D.str (ByteArray.mk #[])))))),Qa (Qv 3) (Qd (Qo (Qp (Qq (Qr Qu 0)))))]
def f153_c0:MC:=.r0 f153_r0
def f153_r1:List MO:=[Qa (Qv 10) (Qd (Qn 0)),Qa (Qv 11) (Qh 151 [(Qn 10)]),Qa (Qv 12) (MOp.not (Qn 11))]
def f153_c1:MC:=.r0 f153_r1
def f153_r2:List MO:=[Qa (Qv 2) (Qd (Qo (Qp (Qq (D.str (ByteArray.mk #[])))))),Qa (Qv 3) (Qd (Qo (Qp (Qq (Qr Qu 40)))))]
def f153_c2:MC:=.r0 f153_r2
def f153_r8:List MO:=[Qa (Qv 4) (MOp.bldN 170 5)]
def f153_c8:MC:=.r0 f153_r8
def f153_r9:List MO:=[Qa (Qv 13) (MOp.mkF (Go.Fn.func 167) [(Qn 4)]),Qa (Qv 5) (Qd (Qn 13))]
def f153_c9:MC:=.r0 f153_r9
def f153_r10:List MO:=[Qa (Qv 14) (Qd (Qn 5)),Qa (Qv 15) (MOp.bslice 1 [(Qr Go.IntKind.i32 0)] 1 [(0,(Qo (Qp (Qq (Qr Go.IntKind.i32 34)))))]),Qa (Qv 16) (MOp.callv (Qn 14) [(Qn 15)])]
def f153_c10:MC:=.r0 f153_r10
def f153_r11:List MO:=[Qa (Qv 17) (Qd (Qn 0)),Qa (Qv 18) (MOp.rng (Qn 17))]
def f153_c11:MC:=.r0 f153_r11
def f153_r12:List MO:=[Qa (Qv 19) (MOp.nxt (Qn 18)),Qa (Qv 20) (Qi (Qn 19) 0)]
def f153_c12:MC:=.r0 f153_r12
def f153_r16:List MO:=[Qa (Qv 21) (Qi (Qn 19) 2),Qa (Qv 7) (Qd (Qn 21))]
def f153_c16:MC:=.r0 f153_r16
def f153_r17:List MO:=[Qa (Qv 23) (Qh 169 []),Qa (Qv 24) (Qd (Qn 7)),Qa (Qv 25) (MOp.lkp true (Qp (Qq (Qr Go.IntKind.i32 0))) false [Qt] (Qn 23) (Qn 24)),Qa (Qv 22) (Qd (Qn 25)),Qa (Qv 26) (Qi (Qn 22) 0),Qa (Qv 27) (Qi (Qn 22) 1),Qa (Qv 8) (Qd (Qn 26)),Qa (Qv 9) (Qd (Qn 27))]
def f153_c17:MC:=.r0 f153_r17
def f153_r18:List MO:=[Qa (Qv 40) (Qd (Qn 9)),Qa (Qv 39) (Qd (Qn 40))]
def f153_c18:MC:=.r0 f153_r18
def f153_r19:List MO:=[Qa (Qv 41) (Qd (Qn 5)),Qa (Qv 42) (Qd (Qn 8)),Qa (Qv 43) (MOp.bslice 1 [(Qr Go.IntKind.i32 0)] 2 [(0,(Qo (Qp (Qq (Qr Go.IntKind.i32 92))))),(1,(Qn 42))]),Qa (Qv 44) (MOp.callv (Qn 41) [(Qn 43)])]
def f153_c19:MC:=.r0 f153_r19
def f153_r20:List MO:=[Qa (Qv 46) (Qd (Qn 7)),Qa (Qv 47) (MOp.bslice 1 [(Qr Go.IntKind.i32 0)] 2 [(0,(Qo (Qp (Qq (Qr Go.IntKind.i32 34))))),(1,(Qo (Qp (Qq (Qr Go.IntKind.i32 92)))))]),Qa (Qv 48) (Qh 170 [(Qn 46),(Qn 47)]),Qa (Qv 45) (Qd (Qn 48))]
def f153_c20:MC:=.r0 f153_r20
def f153_r21:List MO:=[Qa (Qv 49) (Qd (Qn 5)),Qa (Qv 50) (Qd (Qn 7)),Qa (Qv 51) (MOp.bslice 1 [(Qr Go.IntKind.i32 0)] 2 [(0,(Qo (Qp (Qq (Qr Go.IntKind.i32 92))))),(1,(Qn 50))]),Qa (Qv 52) (MOp.callv (Qn 49) [(Qn 51)])]
def f153_c21:MC:=.r0 f153_r21
def f153_r22:List MO:=[Qa (Qv 54) (Qd (Qn 7)),Qa (Qv 55) (Qh 171 [(Qn 54)]),Qa (Qv 53) (Qd (Qn 55))]
def f153_c22:MC:=.r0 f153_r22
def f153_r23:List MO:=[Qa (Qv 56) (Qd (Qn 5)),Qa (Qv 57) (Qd (Qn 7)),Qa (Qv 58) (MOp.bslice 1 [(Qr Go.IntKind.i32 0)] 1 [(0,(Qn 57))]),Qa (Qv 59) (MOp.callv (Qn 56) [(Qn 58)])]
def f153_c23:MC:=.r0 f153_r23
def f153_r24:List MO:=[Qa (Qv 28) (Qd (Qn 5)),Qa (Qv 29) (Qd (Qn 7)),Qa (Qv 30) (Qe Qt Go.BinOp.shr (Qn 29) (Qo (Qp (Qq (Qr Go.IntKind.u64 4))))),Qa (Qv 31) (MOp.idxS (Qo (Qp (Qq (D.str (ByteArray.mk #[48,49,50,51,52,53,54,55,56,57,97,98,99,100,101,102]))))) (Qn 30)),Qa (Qv 32) (MOp.conv Go.IntKind.i32 (Qn 31)),Qa (Qv 33) (Qd (Qn 7)),Qa (Qv 34) (Qe Qt Go.BinOp.and (Qn 33) (Qo (Qp (Qq (Qr Go.IntKind.i32 15))))),Qa (Qv 35) (MOp.idxS (Qo (Qp (Qq (D.str (ByteArray.mk #[48,49,50,51,52,53,54,55,56,57,97,98,99,100,101,102]))))) (Qn 34)),Qa (Qv 36) (MOp.conv Go.IntKind.i32 (Qn 35)),Qa (Qv 37) (MOp.bslice 1 [(Qr Go.IntKind.i32 0)] 4 [(0,(Qo (Qp (Qq (Qr Go.IntKind.i32 92))))),(1,(Qo (Qp (Qq (Qr Go.IntKind.i32 120))))),(2,(Qn 32)),(3,(Qn 36))]),Qc (Qv 38) (MOp.callv (Qn 28) [(Qn 37)])]
def f153_c24:MC:=.reg true f153_r24
def f153_c27:MC:=.cond (Qn 45) f153_c21 (.seq f153_c22 (.cond (Qn 53) f153_c23 f153_c24))
def f153_c30:MC:=.seq f153_c18 (.cond (Qn 39) f153_c19 (.seq f153_c20 f153_c27))
def f153_c36:MC:=.seq f153_c12 (.seq (.cond (Qn 20) .skip (MC.exit 0)) (.blk 1 (.seq f153_c16 (.seq f153_c17 (.blk 2 f153_c30)))))
def f153_r40:List MO:=[Qa (Qv 60) (Qd (Qn 5)),Qa (Qv 61) (MOp.bslice 1 [(Qr Go.IntKind.i32 0)] 1 [(0,(Qo (Qp (Qq (Qr Go.IntKind.i32 34)))))]),Qa (Qv 62) (MOp.callv (Qn 60) [(Qn 61)])]
def f153_c40:MC:=.r0 f153_r40
def f153_r41:List MO:=[Qa (Qv 63) (Qh 106 [(Qn 4)]),Qa (Qv 2) (Qd (Qn 63)),Qa (Qv 3) (Qd (Qo (Qp (Qq (Qr Qu 0)))))]
def f153_c41:MC:=.r0 f153_r41
def f153_c45:MC:=.seq (.seq f153_c11 (.blk 0 (.loop f153_c36))) (.seq f153_c40 (.seq f153_c41 .ret))
def f153_c48:MC:=.seq f153_c8 (.seq f153_c9 (.seq f153_c10 f153_c45))
def f153_c50:MC:=.seq f153_c0 (.seq (.seq f153_c1 (.cond (Qn 12) (.seq f153_c2 .ret) .skip)) f153_c48)
attribute [go_sem] f153_r0 f153_r1 f153_r2 f153_r8 f153_r9 f153_r10 f153_r11 f153_r12 f153_r16 f153_r17 f153_r18 f153_r19 f153_r20 f153_r21 f153_r22 f153_r23 f153_r24 f153_r40 f153_r41
theorem f153_k : KK QP 153 f153 [] f153_c50 [(RV.t 2),(RV.t 3)] 64 := ⟨func153,by kernel_rfl,by kernel_rfl,by kernel_rfl,by kernel_rfl⟩
theorem f153_ok : callable QP 153 = true := by kernel_rfl
theorem f153_in (h : GI QP gp [(RV.t 2),(RV.t 3)] res 64 f153_c50 args) : Does QP gp 153 args res := f153_k.i f153_ok h
def f166_r0:List MO:=[Qa (Qv 2) (Qd (Qo (Qp (Qq (D.str (ByteArray.mk #[]))))))]
def f166_c0:MC:=.r0 f166_r0
def f166_r1:List MO:=[Qa (Qv 3) (Qd (Qn 0))]
def f166_c1:MC:=.r0 f166_r1
def f166_r2:List MO:=[Qa (Qv 2) (Qd (Qo (Qp (Qq (D.str (ByteArray.mk #[116,114,117,101]))))))]
def f166_c2:MC:=.r0 f166_r2
def f166_r8:List MO:=[Qa (Qv 2) (Qd (Qo (Qp (Qq (D.str (ByteArray.mk #[102,97,108,115,101]))))))]
def f166_c8:MC:=.r0 f166_r8
def f166_c12:MC:=.seq f166_c0 (.seq (.seq f166_c1 (.cond (Qn 3) (.seq f166_c2 .ret) .skip)) (.seq f166_c8 .ret))
attribute [go_sem] f166_r0 f166_r1 f166_r2 f166_r8
theorem f166_k : KK QP 166 f166 [] f166_c12 [(RV.t 2)] 4 := ⟨func166,by kernel_rfl,by kernel_rfl,by kernel_rfl,by kernel_rfl⟩
theorem f166_ok : callable QP 166 = true := by kernel_rfl
theorem f166_in (h : GI QP gp [(RV.t 2)] res 4 f166_c12 args) : Does QP gp 166 args res := f166_k.i f166_ok h
def f167_r0:List MO:=[Qa (Qv 5) (Qd (Qn 0)),Qa (Qv 6) (Qk Qt (Qn 5)),Qa (Qv 7) (Qd (Qo (Qp (Qq (Qr Qu 0)))))]
def f167_c0:MC:=.r0 f167_r0
def f167_r1:List MO:=[Qa (Qv 8) (Qe Qt Go.BinOp.lss (Qn 7) (Qn 6))]
def f167_c1:MC:=.r0 f167_r1
def f167_r5:List MO:=[Qa (Qv 9) (Qj 1 (Qn 5) (Qn 7)),Qa (Qv 10) (Qf 1 false (Qn 9)),Qa (Qv 4) (Qd (Qn 10))]
def f167_c5:MC:=.r0 f167_r5
def f167_r6:List MO:=[Qa (Qv 11) (Qd (Qn 4)),Qa (Qv 12) (Qh 168 [(Qn 1),(Qn 11)])]
def f167_c6:MC:=.r0 f167_r6
def f167_r9:List MO:=[Qa (Qv 13) (Qe Qt Go.BinOp.add (Qn 7) (Qo (Qp (Qq (Qr Qu 1))))),Qa (Qv 7) (Qd (Qn 13))]
def f167_c9:MC:=.r0 f167_r9
def f167_c12:MC:=.seq f167_c1 (.seq (.cond (Qn 8) .skip (MC.exit 0)) (.seq (.blk 1 (.seq f167_c5 f167_c6)) f167_c9))
def f167_c15:MC:=.seq f167_c0 (.blk 0 (.loop f167_c12))
attribute [go_sem] f167_r0 f167_r1 f167_r5 f167_r6 f167_r9
theorem f167_k : KK QP 167 f167 [] f167_c15 [] 14 := ⟨func167,by kernel_rfl,by kernel_rfl,by kernel_rfl,by kernel_rfl⟩
theorem f167_ok : callable QP 167 = true := by kernel_rfl
theorem f167_tri (h : GT QP gp [] pre R 14 f167_c15 args) : Tri QP gp 167 args pre R := f167_k.t h
def f168_r0:List MO:=[Qa (Qv 4) (Qd (Qo (Qp (Qq (Qr Qu 0))))),Qa (Qv 5) (Qd (Qo (Qp (Qq D.nilI))))]
def f168_c0:MC:=.r0 f168_r0
def f168_r1:List MO:=[Qa (Qv 7) (Qd (Qn 0)),Qa (Qv 8) (Qh 136 [(Qn 7)])]
def f168_c1:MC:=.r0 f168_r1
def f168_r2:List MO:=[Qa (Qv 9) (Qd (Qn 0)),Qa (Qv 10) (MOp.nck (Qn 9)),Qa (Qv 11) (Qg 1 (Qn 10)),Qa (Qv 12) (Qf 1 false (Qn 11)),Qa (Qv 13) (Qk Qt (Qn 12)),Qa (Qv 6) (Qd (Qn 13))]
def f168_c2:MC:=.r0 f168_r2
def f168_r3:List MO:=[Qa (Qv 14) (Qd (Qn 0)),Qa (Qv 15) (Qd (Qn 0)),Qa (Qv 16) (MOp.nck (Qn 15)),Qa (Qv 17) (Qg 1 (Qn 16)),Qa (Qv 18) (Qf 1 false (Qn 17)),Qa (Qv 19) (Qd (Qn 1)),Qa (Qv 20) (Qh 184 [(Qn 18),(Qn 19)]),Qa (Qv 21) (MOp.nck (Qn 14)),Qa (Qv 22) (Qg 1 (Qn 21)),Qa none (Ql 1 (Qn 22) (Qn 20))]
def f168_c3:MC:=.r0 f168_r3
def f168_r4:List MO:=[Qa (Qv 23) (Qd (Qn 0)),Qa (Qv 24) (MOp.nck (Qn 23)),Qa (Qv 25) (Qg 1 (Qn 24)),Qa (Qv 26) (Qf 1 false (Qn 25)),Qa (Qv 27) (Qk Qt (Qn 26)),Qa (Qv 28) (Qd (Qn 6)),Qa (Qv 29) (Qe Qt Go.BinOp.sub (Qn 27) (Qn 28)),Qa (Qv 4) (Qd (Qn 29)),Qa (Qv 5) (Qd (Qo (Qp (Qq D.nilI))))]
def f168_c4:MC:=.r0 f168_r4
def f168_c9:MC:=.seq f168_c1 (.seq f168_c2 (.seq f168_c3 (.seq f168_c4 .ret)))
def f168_c10:MC:=.seq f168_c0 f168_c9
attribute [go_sem] f168_r0 f168_r1 f168_r2 f168_r3 f168_r4
theorem f168_k : KK QP 168 f168 [] f168_c10 [(RV.t 4),(RV.t 5)] 30 := ⟨func168,by kernel_rfl,by kernel_rfl,by kernel_rfl,by kernel_rfl⟩
theorem f168_ok : callable QP 168 = true := by kernel_rfl
theorem f168_tri (h : GT QP gp [(RV.t 4),(RV.t 5)] pre R 30 f168_c10 args) : Tri QP gp 168 args pre R := f168_k.t h
def f169_r0:List MO:=[Qa (Qv 0) (Qd (Qo (Qp (Qq (D.raw (Go.Value.map none))))))]
def f169_c0:MC:=.r0 f169_r0
def f169_r1:List MO:=[Qa (Qv 1) MOp.mkM,Qa none (MOp.mupd false [Qt] (Qn 1) (Qo (Qp (Qq (Qr Go.IntKind.i32 10)))) (Qo (Qp (Qq (Qr Go.IntKind.i32 110))))),Qa none (MOp.mupd false [Qt] (Qn 1) (Qo (Qp (Qq (Qr Go.IntKind.i32 9)))) (Qo (Qp (Qq (Qr Go.IntKind.i32 116))))),Qa none (MOp.mupd false [Qt] (Qn 1) (Qo (Qp (Qq (Qr Go.IntKind.i32 13)))) (Qo (Qp (Qq (Qr Go.IntKind.i32 114))))),Qa (Qv 2) (Qd (Qn 1)),Qa (Qv 0) (Qd (Qn 2))]
def f169_c1:MC:=.r0 f169_r1
def f169_c4:MC:=.seq f169_c0 (.seq f169_c1 .ret)
attribute [go_sem] f169_r0 f169_r1
theorem f169_k : KK QP 169 f169 [] f169_c4 [(RV.t 0)] 3 := ⟨func169,by kernel_rfl,by kernel_rfl,by kernel_rfl,by kernel_rfl⟩
theorem f169_ok : callable QP 169 = true := by kernel_rfl
theorem f169_tri (h : GT QP gp [(RV.t 0)] pre R 3 f169_c4 args) : Tri QP gp 169 args pre R := f169_k.t h
def f170_r0:List MO:=[Qa (Qv 4) (Qd (Qo (Qp (Qq (Qs false)))))]
def f170_c0:MC:=.r0 f170_r0
def f170_r1:List MO:=[Qa (Qv 7) (Qd (Qn 1)),Qa (Qv 8) (Qk Qt (Qn 7)),Qa (Qv 9) (Qd (Qo (Qp (Qq (Qr Qu 0)))))]
def f170_c1:MC:=.r0 f170_r1
def f170_r2:List MO:=[Qa (Qv 10) (Qe Qt Go.BinOp.lss (Qn 9) (Qn 8))]
def f170_c2:MC:=.r0 f170_r2
def f170_r6:List MO:=[Qa (Qv 11) (Qj 1 (Qn 7) (Qn 9)),Qa (Qv 12) (Qf 1 false (Qn 11)),Qa (Qv 6) (Qd (Qn 12))]
def f170_c6:MC:=.r0 f170_r6
def f170_r7:List MO:=[Qa (Qv 13) (Qd (Qn 0)),Qa (Qv 14) (Qd (Qn 6)),Qa (Qv 15) (Qe Qt Go.BinOp.eql (Qn 13) (Qn 14))]
def f170_c7:MC:=.r0 f170_r7
def f170_r8:List MO:=[Qa (Qv 4) (Qd (Qo (Qp (Qq (Qs true)))))]
def f170_c8:MC:=.r0 f170_r8
def f170_r16:List MO:=[Qa (Qv 16) (Qe Qt Go.BinOp.add (Qn 9) (Qo (Qp (Qq (Qr Qu 1))))),Qa (Qv 9) (Qd (Qn 16))]
def f170_c16:MC:=.r0 f170_r16
def f170_c17:MC:=.seq (.blk 1 (.seq f170_c6 (.seq f170_c7 (.cond (Qn 15) (.seq f170_c8 .ret) .skip)))) f170_c16
def f170_r23:List MO:=[Qa (Qv 4) (Qd (Qo (Qp (Qq (Qs false)))))]
def f170_c23:MC:=.r0 f170_r23
def f170_c26:MC:=.seq (.seq f170_c1 (.blk 0 (.loop (.seq f170_c2 (.seq (.cond (Qn 10) .skip (MC.exit 0)) f170_c17))))) (.seq f170_c23 .ret)
def f170_c27:MC:=.seq f170_c0 f170_c26
attribute [go_sem] f170_r0 f170_r1 f170_r2 f170_r6 f170_r7 f170_r8 f170_r16 f170_r23
theorem f170_k : KK QP 170 f170 [] f170_c27 [(RV.t 4)] 17 := ⟨func170,by kernel_rfl,by kernel_rfl,by kernel_rfl,by kernel_rfl⟩
theorem f170_ok : callable QP 170 = true := by kernel_rfl
theorem f170_in (h : GI QP gp [(RV.t 4)] res 17 f170_c27 args) : Does QP gp 170 args res := f170_k.i f170_ok h
def f171_r0:List MO:=[Qa (Qv 2) (Qd (Qo (Qp (Qq (Qs false)))))]
def f171_c0:MC:=.r0 f171_r0
def f171_r1:List MO:=[Qa (Qv 3) (Qd (Qn 0)),Qa (Qv 4) (Qe Qt Go.BinOp.geq (Qn 3) (Qo (Qp (Qq (Qr Go.IntKind.i32 32))))),Qa (Qv 5) (Qd (Qn 4)),Qb 5 true (Qv 6),Qa (Qv 6) (Qd (Qn 0)),Qb 5 true (Qv 7),Qa (Qv 7) (Qe Qt Go.BinOp.neq (Qn 6) (Qo (Qp (Qq (Qr Go.IntKind.i32 127))))),Qa (Qv 8) (Qm (Qn 5) (Qn 7) (Qo (Qp (Qq (Qs false))))),Qa (Qv 2) (Qd (Qn 8))]
def f171_c1:MC:=.r0 f171_r1
def f171_c4:MC:=.seq f171_c0 (.seq f171_c1 .ret)
attribute [go_sem] f171_r0 f171_r1
theorem f171_k : KK QP 171 f171 [] f171_c4 [(RV.t 2)] 9 := ⟨func171,by kernel_rfl,by kernel_rfl,by kernel_rfl,by kernel_rfl⟩
theorem f171_ok : callable QP 171 = true := by kernel_rfl
theorem f171_in (h : GI QP gp [(RV.t 2)] res 9 f171_c4 args) : Does QP gp 171 args res := f171_k.i f171_ok h
def f184_r0:List MO:=[Qa (Qv 4) (Qd (Qo (Qp A.nil)))]
def f184_c0:MC:=.r0 f184_r0
def f184_r1:List MO:=[Qa (Qv 5) (Qd (Qn 1)),Qa (Qv 6) (MOp.conv Go.IntKind.u32 (Qn 5)),Qa (Qv 7) (Qe Qt Go.BinOp.leq (Qn 6) (Qo (Qp (Qq (Qr Go.IntKind.u32 127)))))]
def f184_c1:MC:=.r0 f184_r1
def f184_r2:List MO:=[Qa (Qv 8) (Qd (Qn 0)),Qa (Qv 9) (Qd (Qn 1)),Qa (Qv 10) (MOp.conv Go.IntKind.u8 (Qn 9)),Qa (Qv 11) (MOp.bslice 1 [(Qr Go.IntKind.u8 0)] 1 [(0,(Qn 10))]),Qa (Qv 12) (MOp.app 5 1 1 (Qn 8) (Qn 11)),Qa (Qv 4) (Qd (Qn 12))]
def f184_c2:MC:=.r0 f184_r2
def f184_r8:List MO:=[Qa (Qv 13) (Qd (Qn 0)),Qa (Qv 14) (Qd (Qn 1)),Qa (Qv 15) (Qh 191 [(Qn 13),(Qn 14)]),Qa (Qv 4) (Qd (Qn 15))]
def f184_c8:MC:=.r0 f184_r8
def f184_c12:MC:=.seq f184_c0 (.seq (.seq f184_c1 (.cond (Qn 7) (.seq f184_c2 .ret) .skip)) (.seq f184_c8 .ret))
attribute [go_sem] f184_r0 f184_r1 f184_r2 f184_r8
theorem f184_k : KK QP 184 f184 [] f184_c12 [(RV.t 4)] 16 := ⟨func184,by kernel_rfl,by kernel_rfl,by kernel_rfl,by kernel_rfl⟩
theorem f184_ok : callable QP 184 = true := by kernel_rfl
theorem f184_tri (h : GT QP gp [(RV.t 4)] pre R 16 f184_c12 args) : Tri QP gp 184 args pre R := f184_k.t h
def f191_r0:List MO:=[Qa (Qv 4) (Qd (Qo (Qp A.nil)))]
def f191_c0:MC:=.r0 f191_r0
def f191_r1:List MO:=[Qa (Qv 6) (Qd (Qn 1)),Qa (Qv 7) (MOp.conv Go.IntKind.u32 (Qn 6)),Qa (Qv 5) (Qd (Qn 7))]
def f191_c1:MC:=.r0 f191_r1
def f191_r2:List MO:=[Qa (Qv 12) (Qd (Qn 5)),Qa (Qv 13) (Qe Qt Go.BinOp.leq (Qn 12) (Qo (Qp (Qq (Qr Go.IntKind.u32 2047))))),Qa (Qv 11) (Qd (Qn 13))]
def f191_c2:MC:=.r0 f191_r2
def f191_r3:List MO:=[Qa (Qv 14) (Qd (Qn 0)),Qa (Qv 15) (Qd (Qn 1)),Qa (Qv 16) (Qe Qt Go.BinOp.shr (Qn 15) (Qo (Qp (Qq (Qr Go.IntKind.u64 6))))),Qa (Qv 17) (MOp.conv Go.IntKind.u8 (Qn 16)),Qa (Qv 18) (Qe Qt Go.BinOp.or (Qo (Qp (Qq (Qr Go.IntKind.u8 192)))) (Qn 17)),Qa (Qv 19) (Qd (Qn 1)),Qa (Qv 20) (MOp.conv Go.IntKind.u8 (Qn 19)),Qa (Qv 21) (Qe Qt Go.BinOp.and (Qn 20) (Qo (Qp (Qq (Qr Go.IntKind.u8 63))))),Qa (Qv 22) (Qe Qt Go.BinOp.or (Qo (Qp (Qq (Qr Go.IntKind.u8 128)))) (Qn 21)),Qa (Qv 23) (MOp.bslice 1 [(Qr Go.IntKind.u8 0)] 2 [(0,(Qn 18)),(1,(Qn 22))]),Qa (Qv 24) (MOp.app 5 1 1 (Qn 14) (Qn 23)),Qa (Qv 4) (Qd (Qn 24))]
def f191_c3:MC:=.r0 f191_r3
def f191_r6:List MO:=[Qa (Qv 26) (Qd (Qn 5)),Qa (Qv 27) (Qe Qt Go.BinOp.lss (Qn 26) (Qo (Qp (Qq (Qr Go.IntKind.u32 55296))))),Qa (Qv 25) (Qd (Qn 27))]
def f191_c6:MC:=.r0 f191_r6
def f191_r8:List MO:=[Qa (Qv 28) (Qd (Qn 5)),Qa (Qv 29) (Qe Qt Go.BinOp.lss (Qo (Qp (Qq (Qr Go.IntKind.u32 57343)))) (Qn 28)),Qa (Qv 30) (Qd (Qn 29)),Qb 30 true (Qv 31),Qa (Qv 31) (Qd (Qn 5)),Qb 30 true (Qv 32),Qa (Qv 32) (Qe Qt Go.BinOp.leq (Qn 31) (Qo (Qp (Qq (Qr Go.IntKind.u32 65535))))),Qa (Qv 33) (Qm (Qn 30) (Qn 32) (Qo (Qp (Qq (Qs false))))),Qa (Qv 25) (Qd (Qn 33))]
def f191_c8:MC:=.r0 f191_r8
def f191_r11:List MO:=[Qa (Qv 34) (Qd (Qn 0)),Qa (Qv 35) (Qd (Qn 1)),Qa (Qv 36) (Qe Qt Go.BinOp.shr (Qn 35) (Qo (Qp (Qq (Qr Go.IntKind.u64 12))))),Qa (Qv 37) (MOp.conv Go.IntKind.u8 (Qn 36)),Qa (Qv 38) (Qe Qt Go.BinOp.or (Qo (Qp (Qq (Qr Go.IntKind.u8 224)))) (Qn 37)),Qa (Qv 39) (Qd (Qn 1)),Qa (Qv 40) (Qe Qt Go.BinOp.shr (Qn 39) (Qo (Qp (Qq (Qr Go.IntKind.u64 6))))),Qa (Qv 41) (MOp.conv Go.IntKind.u8 (Qn 40)),Qa (Qv 42) (Qe Qt Go.BinOp.and (Qn 41) (Qo (Qp (Qq (Qr Go.IntKind.u8 63))))),Qa (Qv 43) (Qe Qt Go.BinOp.or (Qo (Qp (Qq (Qr Go.IntKind.u8 128)))) (Qn 42)),Qa (Qv 44) (Qd (Qn 1)),Qa (Qv 45) (MOp.conv Go.IntKind.u8 (Qn 44)),Qa (Qv 46) (Qe Qt Go.BinOp.and (Qn 45) (Qo (Qp (Qq (Qr Go.IntKind.u8 63))))),Qa (Qv 47) (Qe Qt Go.BinOp.or (Qo (Qp (Qq (Qr Go.IntKind.u8 128)))) (Qn 46)),Qa (Qv 48) (MOp.bslice 1 [(Qr Go.IntKind.u8 0)] 3 [(0,(Qn 38)),(1,(Qn 43)),(2,(Qn 47))]),Qa (Qv 49) (MOp.app 5 1 1 (Qn 34) (Qn 48)),Qa (Qv 4) (Qd (Qn 49))]
def f191_c11:MC:=.r0 f191_r11
def f191_r14:List MO:=[Qa (Qv 51) (Qd (Qn 5)),Qa (Qv 52) (Qe Qt Go.BinOp.gtr (Qn 51) (Qo (Qp (Qq (Qr Go.IntKind.u32 65535))))),Qa (Qv 53) (Qd (Qn 52)),Qb 53 true (Qv 54),Qa (Qv 54) (Qd (Qn 5)),Qb 53 true (Qv 55),Qa (Qv 55) (Qe Qt Go.BinOp.leq (Qn 54) (Qo (Qp (Qq (Qr Go.IntKind.u32 1114111))))),Qa (Qv 56) (Qm (Qn 53) (Qn 55) (Qo (Qp (Qq (Qs false))))),Qa (Qv 50) (Qd (Qn 56))]
def f191_c14:MC:=.r0 f191_r14
def f191_r15:List MO:=[Qa (Qv 57) (Qd (Qn 0)),Qa (Qv 58) (Qd (Qn 1)),Qa (Qv 59) (Qe Qt Go.BinOp.shr (Qn 58) (Qo (Qp (Qq (Qr Go.IntKind.u64 18))))),Qa (Qv 60) (MOp.conv Go.IntKind.u8 (Qn 59)),Qa (Qv 61) (Qe Qt Go.BinOp.or (Qo (Qp (Qq (Qr Go.IntKind.u8 240)))) (Qn 60)),Qa (Qv 62) (Qd (Qn 1)),Qa (Qv 63) (Qe Qt Go.BinOp.shr (Qn 62) (Qo (Qp (Qq (Qr Go.IntKind.u64 12))))),Qa (Qv 64) (MOp.conv Go.IntKind.u8 (Qn 63)),Qa (Qv 65) (Qe Qt Go.BinOp.and (Qn 64) (Qo (Qp (Qq (Qr Go.IntKind.u8 63))))),Qa (Qv 66) (Qe Qt Go.BinOp.or (Qo (Qp (Qq (Qr Go.IntKind.u8 128)))) (Qn 65)),Qa (Qv 67) (Qd (Qn 1)),Qa (Qv 68) (Qe Qt Go.BinOp.shr (Qn 67) (Qo (Qp (Qq (Qr Go.IntKind.u64 6))))),Qa (Qv 69) (MOp.conv Go.IntKind.u8 (Qn 68)),Qa (Qv 70) (Qe Qt Go.BinOp.and (Qn 69) (Qo (Qp (Qq (Qr Go.IntKind.u8 63))))),Qa (Qv 71) (Qe Qt Go.BinOp.or (Qo (Qp (Qq (Qr Go.IntKind.u8 128)))) (Qn 70)),Qa (Qv 72) (Qd (Qn 1)),Qa (Qv 73) (MOp.conv Go.IntKind.u8 (Qn 72)),Qa (Qv 74) (Qe Qt Go.BinOp.and (Qn 73) (Qo (Qp (Qq (Qr Go.IntKind.u8 63))))),Qa (Qv 75) (Qe Qt Go.BinOp.or (Qo (Qp (Qq (Qr Go.IntKind.u8 128)))) (Qn 74)),Qa (Qv 76) (MOp.bslice 1 [(Qr Go.IntKind.u8 0)] 4 [(0,(Qn 61)),(1,(Qn 66)),(2,(Qn 71)),(3,(Qn 75))]),Qa (Qv 77) (MOp.app 5 1 1 (Qn 57) (Qn 76)),Qa (Qv 4) (Qd (Qn 77))]
def f191_c15:MC:=.r0 f191_r15
def f191_r18:List MO:=[Qa (Qv 8) (Qd (Qn 0)),Qa (Qv 9) (MOp.bslice 1 [(Qr Go.IntKind.u8 0)] 3 [(0,(Qo (Qp (Qq (Qr Go.IntKind.u8 239))))),(1,(Qo (Qp (Qq (Qr Go.IntKind.u8 191))))),(2,(Qo (Qp (Qq (Qr Go.IntKind.u8 189)))))]),Qa (Qv 10) (MOp.app 5 1 1 (Qn 8) (Qn 9)),Qa (Qv 4) (Qd (Qn 10))]
def f191_c18:MC:=.r0 f191_r18
def f191_c23:MC:=.cond (Qn 25) (.seq f191_c11 .ret) (.seq f191_c14 (.cond (Qn 50) (.seq f191_c15 .ret) (.seq f191_c18 .ret)))
def f191_c25:MC:=.cond (Qn 11) (.seq f191_c3 .ret) (.seq (.seq f191_c6 (.cond (Qn 25) .skip f191_c8)) f191_c23)
def f191_c29:MC:=.seq f191_c0 (.seq f191_c1 (.blk 0 (.seq f191_c2 f191_c25)))
attribute [go_sem] f191_r0 f191_r1 f191_r2 f191_r3 f191_r6 f191_r8 f191_r11 f191_r14 f191_r15 f191_r18
theorem f191_k : KK QP 191 f191 [] f191_c29 [(RV.t 4)] 78 := ⟨func191,by kernel_rfl,by kernel_rfl,by kernel_rfl,by kernel_rfl⟩
theorem f191_ok : callable QP 191 = true := by kernel_rfl
theorem f191_tri (h : GT QP gp [(RV.t 4)] pre R 78 f191_c29 args) : Tri QP gp 191 args pre R := f191_k.t h
-- f192: trC none
-- f193: trC none
-- f194: no body
-- f195: no body
-- f196: no body
-- f197: no body
-- f198: no body
-- f199: no body
-- f200: no body
-- f201: no body
-- f202: no body
-- f203: no body
-- f204: no body
-- f205: no body
-- f206: no body
-- f207: no body
-- f208: no body
-- f209: no body
-- f210: no body
-- f211: no body
-- f212: no body
-- f213: no body
-- f214: no body
-- f215: no body
-- f216: no body
-- f217: no body
-- f218: no body
-- f219: no body
-- f220: no body
-- f221: no body
-- f222: no body
-- f223: no body
-- f224: no body
-- f225: no body
-- f226: no body
-- f227: no body
-- f228: no body
-- f229: no body
end Go.Fw.L07
