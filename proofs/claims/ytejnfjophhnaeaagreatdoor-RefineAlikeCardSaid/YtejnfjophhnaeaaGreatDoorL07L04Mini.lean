/- Small codes. -/
import Derived.Test.YtejnfjophhnaeaaGreatDoorFd
import Derived.Test.YtejnfjophhnaeaaGreatDoorProg
set_option linter.all false
namespace Go.Fw.L07
open Go Go.Fw
open Go.Proofs.Tryz renaming prog -> QP
open Go.Proofs.Tryz (f100 f101 f128 f129 f130 f131 f148 f149 f162 f163 f164 f165 f166 f167 f180 f187 func100 func101 func128 func129 func130 func131 func148 func149 func162 func163 func164 func165 func166 func167 func180 func187)
open Go.Fw.MO renaming op -> Qa,chk -> Qb,opx -> Qc
open Go.Fw.MOp renaming mv -> Qd,bin -> Qe,load -> Qf,fad -> Qg,call -> Qh,ext -> Qi,iad -> Qj,len -> Qk,store -> Ql,pick -> Qm
open Go.Fw.Opd renaming t -> Qn,c -> Qo
open Go.Fw.V renaming one -> Qp
open Go.Fw.A renaming d -> Qq
open Go.Fw.D renaming int -> Qr,bool -> Qs
open Go.Fw.Leaf renaming i -> Qt
open Go.IntKind renaming i64 -> Qu
open Option renaming some -> Qv
variable {gp : Heap} {args : List V} {res : V} {pre : List Ch} {R : V -> List Ch -> Prop}
def X4k:List MO:=[Qa (Qv 1) (MOp.ibox (Qn 0)),Qa (Qv 2) (Qd (Qo (Qp (Qq (D.str (ByteArray.mk #[])))))),Qa (Qv 3) (Qd (Qo (Qp (Qq (Qr Qu 0)))))]
def Ywk:MC:=.r0 X4k
def X4l:List MO:=[Qa (Qv 6) (Qf 3 true (Qn 1)),Qa (Qv 7) (Qh 127 [(Qn 6)]),Qa (Qv 8) (MOp.not (Qn 7))]
def Ywl:MC:=.r0 X4l
def X4m:List MO:=[Qa (Qv 2) (Qd (Qo (Qp (Qq (D.str (ByteArray.mk #[])))))),Qa (Qv 3) (Qd (Qo (Qp (Qq (Qr Qu 60)))))]
def Ywm:MC:=.r0 X4m
def X4n:List MO:=[Qa (Qv 9) (Qf 3 true (Qn 1)),Qa (Qv 10) (MOp.build [(Qr Qu 0),(Qr Qu 0),(D.str (ByteArray.mk #[]))] [(0,(3,(Qn 9)))]),Qa (Qv 4) (MOp.alloc [(Qr Qu 0),(Qr Qu 0),(D.str (ByteArray.mk #[]))]),Qa none (Ql 3 (Qn 4) (Qn 10))]
def Ywn:MC:=.r0 X4n
def X4o:List MO:=[Qa (Qv 11) (Qf 3 true (Qn 4)),Qa (Qv 12) (MOp.mkMv (Go.Fn.func 128) (Qn 11)),Qa (Qv 13) (Qf 3 true (Qn 4)),Qa (Qv 14) (MOp.mkMv (Go.Fn.func 129) (Qn 13)),Qa (Qv 15) (Qf 3 true (Qn 4)),Qa (Qv 16) (MOp.mkMv (Go.Fn.func 130) (Qn 15)),Qa (Qv 17) (Qf 3 true (Qn 4)),Qa (Qv 18) (MOp.mkMv (Go.Fn.func 131) (Qn 17)),Qa (Qv 19) (MOp.build [D.nilF,D.nilF,D.nilF,D.nilF] [(0,(1,(Qn 12))),(1,(1,(Qn 14))),(2,(1,(Qn 16))),(3,(1,(Qn 18)))]),Qa (Qv 5) (MOp.alloc [D.nilF,D.nilF,D.nilF,D.nilF]),Qa none (Ql 4 (Qn 5) (Qn 19))]
def Ywo:MC:=.r0 X4o
def Xup:List MO:=[Qa (Qv 20) (Qg 0 (Qn 1)),Qa (Qv 21) (Qf 1 false (Qn 20)),Qa (Qv 22) (MOp.iadA 4 1 (Qn 5) (Qn 21)),Qa (Qv 23) (Qf 1 false (Qn 22)),Qa (Qv 24) (MOp.callv (Qn 23) []),Qa (Qv 2) (Qd (Qn 24)),Qa (Qv 3) (Qd (Qo (Qp (Qq (Qr Qu 0)))))]
def Yft:MC:=.r0 Xup
def Yfu:MC:=.seq (.seq Ywl (.cond (Qn 8) (.seq Ywm .ret) .skip)) (.seq Ywn (.seq Ywo (.seq Yft .ret)))
def Xuq:MC:=.seq Ywk Yfu
attribute [go_sem] X4k X4l X4m X4n X4o Xup
theorem Y9z : KK QP 100 f100 [1] Xuq [(RV.t 2),(RV.t 3)] 25 := by refine ⟨func100,?_,?_,?_,?_⟩<;>kernel_rfl
theorem Ywp : Xaa QP 100 = true := by kernel_rfl
theorem Ywq (h : GI QP gp [(RV.t 2),(RV.t 3)] res 25 Xuq args) : Does QP gp 100 args res := Y9z.i Ywp h
def X4p:List MO:=[Qa (Qv 4) (Qd (Qo (Qp (Qq (Qr Qu 0))))),Qa (Qv 5) (Qd (Qo (Qp (Qq D.nilI))))]
def Ywr:MC:=.r0 X4p
def X4q:List MO:=[Qa (Qv 6) (Qd (Qn 0)),Qa (Qv 7) (Qh 132 [(Qn 6)])]
def Yws:MC:=.r0 X4q
def X4r:List MO:=[Qa (Qv 8) (Qd (Qn 0)),Qa (Qv 9) (Qd (Qn 0)),Qa (Qv 10) (MOp.nck (Qn 9)),Qa (Qv 11) (Qg 1 (Qn 10)),Qa (Qv 12) (Qf 1 false (Qn 11)),Qa (Qv 13) (Qd (Qn 1)),Qa (Qv 14) (MOp.appS 5 (Qn 12) (Qn 13)),Qa (Qv 15) (MOp.nck (Qn 8)),Qa (Qv 16) (Qg 1 (Qn 15)),Qa none (Ql 1 (Qn 16) (Qn 14))]
def Ywt:MC:=.r0 X4r
def X4s:List MO:=[Qa (Qv 17) (Qd (Qn 1)),Qa (Qv 18) (Qk Leaf.s (Qn 17)),Qa (Qv 4) (Qd (Qn 18)),Qa (Qv 5) (Qd (Qo (Qp (Qq D.nilI))))]
def Ywu:MC:=.r0 X4s
def X4t:MC:=.seq Ywr (.seq Yws (.seq Ywt (.seq Ywu .ret)))
attribute [go_sem] X4p X4q X4r X4s
theorem Y90 : KK QP 101 f101 [] X4t [(RV.t 4),(RV.t 5)] 19 := by refine ⟨func101,?_,?_,?_,?_⟩<;>kernel_rfl
theorem X4u : Xaa QP 101 = true := by kernel_rfl
theorem Yfv (h : GT QP gp [(RV.t 4),(RV.t 5)] pre R 19 X4t args) : Tri QP gp 101 args pre R := Y90.t h
-- f102: trC none
def X4v:List MO:=[Qa (Qv 1) (MOp.ibox (Qn 0)),Qa (Qv 2) (Qd (Qo (Qp (Qq (D.str (ByteArray.mk #[]))))))]
def Ywv:MC:=.r0 X4v
def X4w:List MO:=[Qa (Qv 2) (Qd (Qo (Qp (Qq (D.str (ByteArray.mk #[110,117,108,108]))))))]
def Yww:MC:=.r0 X4w
def X4x:MC:=.seq Ywv (.seq Yww .ret)
attribute [go_sem] X4v X4w
theorem Y91 : KK QP 128 f128 [1] X4x [(RV.t 2)] 3 := by refine ⟨func128,?_,?_,?_,?_⟩<;>kernel_rfl
theorem Ywx : Xaa QP 128 = true := by kernel_rfl
theorem Ywy (h : GI QP gp [(RV.t 2)] res 3 X4x args) : Does QP gp 128 args res := Y91.i Ywx h
def X4y:List MO:=[Qa (Qv 1) (MOp.ibox (Qn 0)),Qa (Qv 2) (Qd (Qo (Qp (Qq (D.str (ByteArray.mk #[]))))))]
def Ywz:MC:=.r0 X4y
def X4z:List MO:=[Qa (Qv 3) (Qg 0 (Qn 1)),Qa (Qv 4) (Qg 1 (Qn 3)),Qa (Qv 5) (Qf 1 false (Qn 4)),Qa (Qv 6) (Qe Qt Go.BinOp.eql (Qn 5) (Qo (Qp (Qq (Qr Qu 1))))),Qa (Qv 7) (Qh 148 [(Qn 6)]),Qa (Qv 2) (Qd (Qn 7))]
def Yw0:MC:=.r0 X4z
def X40:MC:=.seq Ywz (.seq Yw0 .ret)
attribute [go_sem] X4y X4z
theorem Y92 : KK QP 129 f129 [1] X40 [(RV.t 2)] 8 := by refine ⟨func129,?_,?_,?_,?_⟩<;>kernel_rfl
theorem Yw1 : Xaa QP 129 = true := by kernel_rfl
theorem Yw2 (h : GI QP gp [(RV.t 2)] res 8 X40 args) : Does QP gp 129 args res := Y92.i Yw1 h
def X41:List MO:=[Qa (Qv 1) (MOp.ibox (Qn 0)),Qa (Qv 2) (Qd (Qo (Qp (Qq (D.str (ByteArray.mk #[]))))))]
def Yw3:MC:=.r0 X41
def X42:List MO:=[Qa (Qv 3) (Qg 0 (Qn 1)),Qa (Qv 4) (Qg 1 (Qn 3)),Qa (Qv 5) (Qf 1 false (Qn 4)),Qa (Qv 6) (Qh 103 [(Qn 5)]),Qa (Qv 2) (Qd (Qn 6))]
def Yw4:MC:=.r0 X42
def X43:MC:=.seq Yw3 (.seq Yw4 .ret)
attribute [go_sem] X41 X42
theorem Y93 : KK QP 130 f130 [1] X43 [(RV.t 2)] 7 := by refine ⟨func130,?_,?_,?_,?_⟩<;>kernel_rfl
theorem Yw5 : Xaa QP 130 = true := by kernel_rfl
theorem Yw6 (h : GI QP gp [(RV.t 2)] res 7 X43 args) : Does QP gp 130 args res := Y93.i Yw5 h
def X44:List MO:=[Qa (Qv 1) (MOp.ibox (Qn 0)),Qa (Qv 2) (Qd (Qo (Qp (Qq (D.str (ByteArray.mk #[]))))))]
def Yw7:MC:=.r0 X44
def X45:List MO:=[Qa (Qv 6) (Qg 0 (Qn 1)),Qa (Qv 7) (Qg 2 (Qn 6)),Qa (Qv 8) (Qf 1 false (Qn 7)),Qa (Qv 9) (Qh 149 [(Qn 8)]),Qa (Qv 5) (Qd (Qn 9)),Qa (Qv 10) (Qi (Qn 5) 0),Qa (Qv 11) (Qi (Qn 5) 1),Qa (Qv 3) (Qd (Qn 10)),Qa (Qv 4) (Qd (Qn 11))]
def Yw8:MC:=.r0 X45
def X46:List MO:=[Qa (Qv 12) (Qd (Qn 3)),Qa (Qv 2) (Qd (Qn 12))]
def Yw9:MC:=.r0 X46
def X47:MC:=.seq Yw7 (.seq Yw8 (.seq Yw9 .ret))
attribute [go_sem] X44 X45 X46
theorem Y94 : KK QP 131 f131 [1] X47 [(RV.t 2)] 13 := by refine ⟨func131,?_,?_,?_,?_⟩<;>kernel_rfl
theorem Yxa : Xaa QP 131 = true := by kernel_rfl
theorem Yxb (h : GI QP gp [(RV.t 2)] res 13 X47 args) : Does QP gp 131 args res := Y94.i Yxa h
def X48:List MO:=[Qa (Qv 2) (Qd (Qo (Qp (Qq (D.str (ByteArray.mk #[]))))))]
def Yxc:MC:=.r0 X48
def X49:List MO:=[Qa (Qv 3) (Qd (Qn 0)),Qa (Qv 4) (Qh 162 [(Qn 3)]),Qa (Qv 2) (Qd (Qn 4))]
def Yxd:MC:=.r0 X49
def X5a:MC:=.seq Yxc (.seq Yxd .ret)
attribute [go_sem] X48 X49
theorem Y95 : KK QP 148 f148 [] X5a [(RV.t 2)] 5 := by refine ⟨func148,?_,?_,?_,?_⟩<;>kernel_rfl
theorem Yxe : Xaa QP 148 = true := by kernel_rfl
theorem Yxf (h : GI QP gp [(RV.t 2)] res 5 X5a args) : Does QP gp 148 args res := Y95.i Yxe h
def X5b:List MO:=[Qa (Qv 2) (Qd (Qo (Qp (Qq (D.str (ByteArray.mk #[])))))),Qa (Qv 3) (Qd (Qo (Qp (Qq (Qr Qu 0)))))]
def Yxg:MC:=.r0 X5b
def X5c:List MO:=[Qa (Qv 10) (Qd (Qn 0)),Qa (Qv 11) (Qh 147 [(Qn 10)]),Qa (Qv 12) (MOp.not (Qn 11))]
def Yxh:MC:=.r0 X5c
def X5d:List MO:=[Qa (Qv 2) (Qd (Qo (Qp (Qq (D.str (ByteArray.mk #[])))))),Qa (Qv 3) (Qd (Qo (Qp (Qq (Qr Qu 40)))))]
def Yxi:MC:=.r0 X5d
def X5e:List MO:=[Qa (Qv 4) (MOp.bldN 169 5)]
def Yxj:MC:=.r0 X5e
def X5f:List MO:=[Qa (Qv 13) (MOp.mkF (Go.Fn.func 163) [(Qn 4)]),Qa (Qv 5) (Qd (Qn 13))]
def Yxk:MC:=.r0 X5f
def Xur:List MO:=[Qa (Qv 14) (Qd (Qn 5)),Qa (Qv 15) (MOp.bslice 1 [(Qr Go.IntKind.i32 0)] 1 [(0,(Qo (Qp (Qq (Qr Go.IntKind.i32 34)))))]),Qa (Qv 16) (MOp.callv (Qn 14) [(Qn 15)])]
def Yfw:MC:=.r0 Xur
def Xus:List MO:=[Qa (Qv 17) (Qd (Qn 0)),Qa (Qv 18) (MOp.rng (Qn 17))]
def Yfx:MC:=.r0 Xus
def Xut:List MO:=[Qa (Qv 19) (MOp.nxt (Qn 18)),Qa (Qv 20) (Qi (Qn 19) 0)]
def Yfy:MC:=.r0 Xut
def Xuu:List MO:=[Qa (Qv 21) (Qi (Qn 19) 2),Qa (Qv 7) (Qd (Qn 21))]
def Yfz:MC:=.r0 Xuu
def Xuv:List MO:=[Qa (Qv 23) (Qh 165 []),Qa (Qv 24) (Qd (Qn 7)),Qa (Qv 25) (MOp.lkp true (Qp (Qq (Qr Go.IntKind.i32 0))) false [Qt] (Qn 23) (Qn 24)),Qa (Qv 22) (Qd (Qn 25)),Qa (Qv 26) (Qi (Qn 22) 0),Qa (Qv 27) (Qi (Qn 22) 1),Qa (Qv 8) (Qd (Qn 26)),Qa (Qv 9) (Qd (Qn 27))]
def Yf0:MC:=.r0 Xuv
def Xuw:List MO:=[Qa (Qv 40) (Qd (Qn 9)),Qa (Qv 39) (Qd (Qn 40))]
def Yf1:MC:=.r0 Xuw
def Xux:List MO:=[Qa (Qv 41) (Qd (Qn 5)),Qa (Qv 42) (Qd (Qn 8)),Qa (Qv 43) (MOp.bslice 1 [(Qr Go.IntKind.i32 0)] 2 [(0,(Qo (Qp (Qq (Qr Go.IntKind.i32 92))))),(1,(Qn 42))]),Qa (Qv 44) (MOp.callv (Qn 41) [(Qn 43)])]
def Yf2:MC:=.r0 Xux
def Xuy:List MO:=[Qa (Qv 46) (Qd (Qn 7)),Qa (Qv 47) (MOp.bslice 1 [(Qr Go.IntKind.i32 0)] 2 [(0,(Qo (Qp (Qq (Qr Go.IntKind.i32 34))))),(1,(Qo (Qp (Qq (Qr Go.IntKind.i32 92)))))]),Qa (Qv 48) (Qh 166 [(Qn 46),(Qn 47)]),Qa (Qv 45) (Qd (Qn 48))]
def Yf3:MC:=.r0 Xuy
def Xuz:List MO:=[Qa (Qv 49) (Qd (Qn 5)),Qa (Qv 50) (Qd (Qn 7)),Qa (Qv 51) (MOp.bslice 1 [(Qr Go.IntKind.i32 0)] 2 [(0,(Qo (Qp (Qq (Qr Go.IntKind.i32 92))))),(1,(Qn 50))]),Qa (Qv 52) (MOp.callv (Qn 49) [(Qn 51)])]
def Yf4:MC:=.r0 Xuz
def Xu0:List MO:=[Qa (Qv 54) (Qd (Qn 7)),Qa (Qv 55) (Qh 167 [(Qn 54)]),Qa (Qv 53) (Qd (Qn 55))]
def Yf5:MC:=.r0 Xu0
def Xu1:List MO:=[Qa (Qv 56) (Qd (Qn 5)),Qa (Qv 57) (Qd (Qn 7)),Qa (Qv 58) (MOp.bslice 1 [(Qr Go.IntKind.i32 0)] 1 [(0,(Qn 57))]),Qa (Qv 59) (MOp.callv (Qn 56) [(Qn 58)])]
def Yf6:MC:=.r0 Xu1
def Xu2:List MO:=[Qa (Qv 28) (Qd (Qn 5)),Qa (Qv 29) (Qd (Qn 7)),Qa (Qv 30) (Qe Qt Go.BinOp.shr (Qn 29) (Qo (Qp (Qq (Qr Go.IntKind.u64 4))))),Qa (Qv 31) (MOp.idxS (Qo (Qp (Qq (D.str (ByteArray.mk #[48,49,50,51,52,53,54,55,56,57,97,98,99,100,101,102]))))) (Qn 30)),Qa (Qv 32) (MOp.conv Go.IntKind.i32 (Qn 31)),Qa (Qv 33) (Qd (Qn 7)),Qa (Qv 34) (Qe Qt Go.BinOp.and (Qn 33) (Qo (Qp (Qq (Qr Go.IntKind.i32 15))))),Qa (Qv 35) (MOp.idxS (Qo (Qp (Qq (D.str (ByteArray.mk #[48,49,50,51,52,53,54,55,56,57,97,98,99,100,101,102]))))) (Qn 34)),Qa (Qv 36) (MOp.conv Go.IntKind.i32 (Qn 35)),Qa (Qv 37) (MOp.bslice 1 [(Qr Go.IntKind.i32 0)] 4 [(0,(Qo (Qp (Qq (Qr Go.IntKind.i32 92))))),(1,(Qo (Qp (Qq (Qr Go.IntKind.i32 120))))),(2,(Qn 32)),(3,(Qn 36))]),Qc (Qv 38) (MOp.callv (Qn 28) [(Qn 37)])]
def Yf7:MC:=.reg true Xu2
def Yf8:MC:=.cond (Qn 45) Yf4 (.seq Yf5 (.cond (Qn 53) Yf6 Yf7))
def Yf9:MC:=.seq Yf1 (.cond (Qn 39) Yf2 (.seq Yf3 Yf8))
def Yga:MC:=.seq Yfy (.seq (.cond (Qn 20) .skip (MC.exit 0)) (.blk 1 (.seq Yfz (.seq Yf0 (.blk 2 Yf9)))))
def Xu3:List MO:=[Qa (Qv 60) (Qd (Qn 5)),Qa (Qv 61) (MOp.bslice 1 [(Qr Go.IntKind.i32 0)] 1 [(0,(Qo (Qp (Qq (Qr Go.IntKind.i32 34)))))]),Qa (Qv 62) (MOp.callv (Qn 60) [(Qn 61)])]
def Ygb:MC:=.r0 Xu3
def Xu4:List MO:=[Qa (Qv 63) (Qh 102 [(Qn 4)]),Qa (Qv 2) (Qd (Qn 63)),Qa (Qv 3) (Qd (Qo (Qp (Qq (Qr Qu 0)))))]
def Ygc:MC:=.r0 Xu4
def Ygd:MC:=.seq (.seq Yfx (.blk 0 (.loop Yga))) (.seq Ygb (.seq Ygc .ret))
def Yge:MC:=.seq Yxj (.seq Yxk (.seq Yfw Ygd))
def Xu5:MC:=.seq Yxg (.seq (.seq Yxh (.cond (Qn 12) (.seq Yxi .ret) .skip)) Yge)
attribute [go_sem] X5b X5c X5d X5e X5f Xur Xus Xut Xuu Xuv Xuw Xux Xuy Xuz Xu0 Xu1 Xu2 Xu3 Xu4
theorem Y96 : KK QP 149 f149 [] Xu5 [(RV.t 2),(RV.t 3)] 64 := by refine ⟨func149,?_,?_,?_,?_⟩<;>kernel_rfl
theorem Yxl : Xaa QP 149 = true := by kernel_rfl
theorem Yxm (h : GI QP gp [(RV.t 2),(RV.t 3)] res 64 Xu5 args) : Does QP gp 149 args res := Y96.i Yxl h
def X5g:List MO:=[Qa (Qv 2) (Qd (Qo (Qp (Qq (D.str (ByteArray.mk #[]))))))]
def Yxn:MC:=.r0 X5g
def X5h:List MO:=[Qa (Qv 3) (Qd (Qn 0))]
def Yxo:MC:=.r0 X5h
def X5i:List MO:=[Qa (Qv 2) (Qd (Qo (Qp (Qq (D.str (ByteArray.mk #[116,114,117,101]))))))]
def Yxp:MC:=.r0 X5i
def X5j:List MO:=[Qa (Qv 2) (Qd (Qo (Qp (Qq (D.str (ByteArray.mk #[102,97,108,115,101]))))))]
def Yxq:MC:=.r0 X5j
def Xu6:MC:=.seq Yxn (.seq (.seq Yxo (.cond (Qn 3) (.seq Yxp .ret) .skip)) (.seq Yxq .ret))
attribute [go_sem] X5g X5h X5i X5j
theorem Y97 : KK QP 162 f162 [] Xu6 [(RV.t 2)] 4 := by refine ⟨func162,?_,?_,?_,?_⟩<;>kernel_rfl
theorem Yxr : Xaa QP 162 = true := by kernel_rfl
theorem Yxs (h : GI QP gp [(RV.t 2)] res 4 Xu6 args) : Does QP gp 162 args res := Y97.i Yxr h
def X5k:List MO:=[Qa (Qv 5) (Qd (Qn 0)),Qa (Qv 6) (Qk Qt (Qn 5)),Qa (Qv 7) (Qd (Qo (Qp (Qq (Qr Qu 0)))))]
def Yxt:MC:=.r0 X5k
def X5l:List MO:=[Qa (Qv 8) (Qe Qt Go.BinOp.lss (Qn 7) (Qn 6))]
def Yxu:MC:=.r0 X5l
def X5m:List MO:=[Qa (Qv 9) (Qj 1 (Qn 5) (Qn 7)),Qa (Qv 10) (Qf 1 false (Qn 9)),Qa (Qv 4) (Qd (Qn 10))]
def Yxv:MC:=.r0 X5m
def X5n:List MO:=[Qa (Qv 11) (Qd (Qn 4)),Qa (Qv 12) (Qh 164 [(Qn 1),(Qn 11)])]
def Yxw:MC:=.r0 X5n
def X5o:List MO:=[Qa (Qv 13) (Qe Qt Go.BinOp.add (Qn 7) (Qo (Qp (Qq (Qr Qu 1))))),Qa (Qv 7) (Qd (Qn 13))]
def Yxx:MC:=.r0 X5o
def Ygf:MC:=.seq Yxu (.seq (.cond (Qn 8) .skip (MC.exit 0)) (.seq (.blk 1 (.seq Yxv Yxw)) Yxx))
def Xu7:MC:=.seq Yxt (.blk 0 (.loop Ygf))
attribute [go_sem] X5k X5l X5m X5n X5o
theorem Y98 : KK QP 163 f163 [] Xu7 [] 14 := by refine ⟨func163,?_,?_,?_,?_⟩<;>kernel_rfl
theorem Xis : Xaa QP 163 = true := by kernel_rfl
theorem Ygg (h : GT QP gp [] pre R 14 Xu7 args) : Tri QP gp 163 args pre R := Y98.t h
def X5p:List MO:=[Qa (Qv 4) (Qd (Qo (Qp (Qq (Qr Qu 0))))),Qa (Qv 5) (Qd (Qo (Qp (Qq D.nilI))))]
def Yxy:MC:=.r0 X5p
def X5q:List MO:=[Qa (Qv 7) (Qd (Qn 0)),Qa (Qv 8) (Qh 132 [(Qn 7)])]
def Yxz:MC:=.r0 X5q
def X5r:List MO:=[Qa (Qv 9) (Qd (Qn 0)),Qa (Qv 10) (MOp.nck (Qn 9)),Qa (Qv 11) (Qg 1 (Qn 10)),Qa (Qv 12) (Qf 1 false (Qn 11)),Qa (Qv 13) (Qk Qt (Qn 12)),Qa (Qv 6) (Qd (Qn 13))]
def Yx0:MC:=.r0 X5r
def X5s:List MO:=[Qa (Qv 14) (Qd (Qn 0)),Qa (Qv 15) (Qd (Qn 0)),Qa (Qv 16) (MOp.nck (Qn 15)),Qa (Qv 17) (Qg 1 (Qn 16)),Qa (Qv 18) (Qf 1 false (Qn 17)),Qa (Qv 19) (Qd (Qn 1)),Qa (Qv 20) (Qh 180 [(Qn 18),(Qn 19)]),Qa (Qv 21) (MOp.nck (Qn 14)),Qa (Qv 22) (Qg 1 (Qn 21)),Qa none (Ql 1 (Qn 22) (Qn 20))]
def Yx1:MC:=.r0 X5s
def X5t:List MO:=[Qa (Qv 23) (Qd (Qn 0)),Qa (Qv 24) (MOp.nck (Qn 23)),Qa (Qv 25) (Qg 1 (Qn 24)),Qa (Qv 26) (Qf 1 false (Qn 25)),Qa (Qv 27) (Qk Qt (Qn 26)),Qa (Qv 28) (Qd (Qn 6)),Qa (Qv 29) (Qe Qt Go.BinOp.sub (Qn 27) (Qn 28)),Qa (Qv 4) (Qd (Qn 29)),Qa (Qv 5) (Qd (Qo (Qp (Qq D.nilI))))]
def Yx2:MC:=.r0 X5t
def Yx3:MC:=.seq Yxz (.seq Yx0 (.seq Yx1 (.seq Yx2 .ret)))
def Xu8:MC:=.seq Yxy Yx3
attribute [go_sem] X5p X5q X5r X5s X5t
theorem Y99 : KK QP 164 f164 [] Xu8 [(RV.t 4),(RV.t 5)] 30 := by refine ⟨func164,?_,?_,?_,?_⟩<;>kernel_rfl
theorem Yx4 : Xaa QP 164 = true := by kernel_rfl
theorem Ygh (h : GT QP gp [(RV.t 4),(RV.t 5)] pre R 30 Xu8 args) : Tri QP gp 164 args pre R := Y99.t h
def X5u:List MO:=[Qa (Qv 0) (Qd (Qo (Qp (Qq (D.raw (Go.Value.map none))))))]
def Yx5:MC:=.r0 X5u
def X5v:List MO:=[Qa (Qv 1) MOp.mkM,Qa none (MOp.mupd false [Qt] (Qn 1) (Qo (Qp (Qq (Qr Go.IntKind.i32 10)))) (Qo (Qp (Qq (Qr Go.IntKind.i32 110))))),Qa none (MOp.mupd false [Qt] (Qn 1) (Qo (Qp (Qq (Qr Go.IntKind.i32 9)))) (Qo (Qp (Qq (Qr Go.IntKind.i32 116))))),Qa none (MOp.mupd false [Qt] (Qn 1) (Qo (Qp (Qq (Qr Go.IntKind.i32 13)))) (Qo (Qp (Qq (Qr Go.IntKind.i32 114))))),Qa (Qv 2) (Qd (Qn 1)),Qa (Qv 0) (Qd (Qn 2))]
def Yx6:MC:=.r0 X5v
def X5w:MC:=.seq Yx5 (.seq Yx6 .ret)
attribute [go_sem] X5u X5v
theorem Waa : KK QP 165 f165 [] X5w [(RV.t 0)] 3 := by refine ⟨func165,?_,?_,?_,?_⟩<;>kernel_rfl
theorem Xni : Xaa QP 165 = true := by kernel_rfl
theorem Ygi (h : GT QP gp [(RV.t 0)] pre R 3 X5w args) : Tri QP gp 165 args pre R := Waa.t h
def X5x:List MO:=[Qa (Qv 4) (Qd (Qo (Qp (Qq (Qs false)))))]
def Yx7:MC:=.r0 X5x
def X5y:List MO:=[Qa (Qv 7) (Qd (Qn 1)),Qa (Qv 8) (Qk Qt (Qn 7)),Qa (Qv 9) (Qd (Qo (Qp (Qq (Qr Qu 0)))))]
def Yx8:MC:=.r0 X5y
def X5z:List MO:=[Qa (Qv 10) (Qe Qt Go.BinOp.lss (Qn 9) (Qn 8))]
def Yx9:MC:=.r0 X5z
def X50:List MO:=[Qa (Qv 11) (Qj 1 (Qn 7) (Qn 9)),Qa (Qv 12) (Qf 1 false (Qn 11)),Qa (Qv 6) (Qd (Qn 12))]
def Yya:MC:=.r0 X50
def X51:List MO:=[Qa (Qv 13) (Qd (Qn 0)),Qa (Qv 14) (Qd (Qn 6)),Qa (Qv 15) (Qe Qt Go.BinOp.eql (Qn 13) (Qn 14))]
def Yyb:MC:=.r0 X51
def X52:List MO:=[Qa (Qv 4) (Qd (Qo (Qp (Qq (Qs true)))))]
def Yyc:MC:=.r0 X52
def Xu9:List MO:=[Qa (Qv 16) (Qe Qt Go.BinOp.add (Qn 9) (Qo (Qp (Qq (Qr Qu 1))))),Qa (Qv 9) (Qd (Qn 16))]
def Ygj:MC:=.r0 Xu9
def Ygk:MC:=.seq (.blk 1 (.seq Yya (.seq Yyb (.cond (Qn 15) (.seq Yyc .ret) .skip)))) Ygj
def Xva:List MO:=[Qa (Qv 4) (Qd (Qo (Qp (Qq (Qs false)))))]
def Ygl:MC:=.r0 Xva
def Ygm:MC:=.seq (.seq Yx8 (.blk 0 (.loop (.seq Yx9 (.seq (.cond (Qn 10) .skip (MC.exit 0)) Ygk))))) (.seq Ygl .ret)
def Xvb:MC:=.seq Yx7 Ygm
attribute [go_sem] X5x X5y X5z X50 X51 X52 Xu9 Xva
theorem Wab : KK QP 166 f166 [] Xvb [(RV.t 4)] 17 := by refine ⟨func166,?_,?_,?_,?_⟩<;>kernel_rfl
theorem Yyd : Xaa QP 166 = true := by kernel_rfl
theorem Yye (h : GI QP gp [(RV.t 4)] res 17 Xvb args) : Does QP gp 166 args res := Wab.i Yyd h
def X53:List MO:=[Qa (Qv 2) (Qd (Qo (Qp (Qq (Qs false)))))]
def Yyf:MC:=.r0 X53
def X54:List MO:=[Qa (Qv 3) (Qd (Qn 0)),Qa (Qv 4) (Qe Qt Go.BinOp.geq (Qn 3) (Qo (Qp (Qq (Qr Go.IntKind.i32 32))))),Qa (Qv 5) (Qd (Qn 4)),Qb 5 true (Qv 6),Qa (Qv 6) (Qd (Qn 0)),Qb 5 true (Qv 7),Qa (Qv 7) (Qe Qt Go.BinOp.neq (Qn 6) (Qo (Qp (Qq (Qr Go.IntKind.i32 127))))),Qa (Qv 8) (Qm (Qn 5) (Qn 7) (Qo (Qp (Qq (Qs false))))),Qa (Qv 2) (Qd (Qn 8))]
def Yyg:MC:=.r0 X54
def X55:MC:=.seq Yyf (.seq Yyg .ret)
attribute [go_sem] X53 X54
theorem Wac : KK QP 167 f167 [] X55 [(RV.t 2)] 9 := by refine ⟨func167,?_,?_,?_,?_⟩<;>kernel_rfl
theorem Yyh : Xaa QP 167 = true := by kernel_rfl
theorem Yyi (h : GI QP gp [(RV.t 2)] res 9 X55 args) : Does QP gp 167 args res := Wac.i Yyh h
def X56:List MO:=[Qa (Qv 4) (Qd (Qo (Qp A.nil)))]
def Yyj:MC:=.r0 X56
def X57:List MO:=[Qa (Qv 5) (Qd (Qn 1)),Qa (Qv 6) (MOp.conv Go.IntKind.u32 (Qn 5)),Qa (Qv 7) (Qe Qt Go.BinOp.leq (Qn 6) (Qo (Qp (Qq (Qr Go.IntKind.u32 127)))))]
def Yyk:MC:=.r0 X57
def X58:List MO:=[Qa (Qv 8) (Qd (Qn 0)),Qa (Qv 9) (Qd (Qn 1)),Qa (Qv 10) (MOp.conv Go.IntKind.u8 (Qn 9)),Qa (Qv 11) (MOp.bslice 1 [(Qr Go.IntKind.u8 0)] 1 [(0,(Qn 10))]),Qa (Qv 12) (MOp.app 5 1 1 (Qn 8) (Qn 11)),Qa (Qv 4) (Qd (Qn 12))]
def Yyl:MC:=.r0 X58
def X59:List MO:=[Qa (Qv 13) (Qd (Qn 0)),Qa (Qv 14) (Qd (Qn 1)),Qa (Qv 15) (Qh 187 [(Qn 13),(Qn 14)]),Qa (Qv 4) (Qd (Qn 15))]
def Yym:MC:=.r0 X59
def Xvc:MC:=.seq Yyj (.seq (.seq Yyk (.cond (Qn 7) (.seq Yyl .ret) .skip)) (.seq Yym .ret))
attribute [go_sem] X56 X57 X58 X59
theorem Wad : KK QP 180 f180 [] Xvc [(RV.t 4)] 16 := by refine ⟨func180,?_,?_,?_,?_⟩<;>kernel_rfl
theorem Wgt : Xaa QP 180 = true := by kernel_rfl
theorem Ygn (h : GT QP gp [(RV.t 4)] pre R 16 Xvc args) : Tri QP gp 180 args pre R := Wad.t h
def X6a:List MO:=[Qa (Qv 4) (Qd (Qo (Qp A.nil)))]
def Yyn:MC:=.r0 X6a
def X6b:List MO:=[Qa (Qv 6) (Qd (Qn 1)),Qa (Qv 7) (MOp.conv Go.IntKind.u32 (Qn 6)),Qa (Qv 5) (Qd (Qn 7))]
def Yyo:MC:=.r0 X6b
def X6c:List MO:=[Qa (Qv 12) (Qd (Qn 5)),Qa (Qv 13) (Qe Qt Go.BinOp.leq (Qn 12) (Qo (Qp (Qq (Qr Go.IntKind.u32 2047))))),Qa (Qv 11) (Qd (Qn 13))]
def Yyp:MC:=.r0 X6c
def X6d:List MO:=[Qa (Qv 14) (Qd (Qn 0)),Qa (Qv 15) (Qd (Qn 1)),Qa (Qv 16) (Qe Qt Go.BinOp.shr (Qn 15) (Qo (Qp (Qq (Qr Go.IntKind.u64 6))))),Qa (Qv 17) (MOp.conv Go.IntKind.u8 (Qn 16)),Qa (Qv 18) (Qe Qt Go.BinOp.or (Qo (Qp (Qq (Qr Go.IntKind.u8 192)))) (Qn 17)),Qa (Qv 19) (Qd (Qn 1)),Qa (Qv 20) (MOp.conv Go.IntKind.u8 (Qn 19)),Qa (Qv 21) (Qe Qt Go.BinOp.and (Qn 20) (Qo (Qp (Qq (Qr Go.IntKind.u8 63))))),Qa (Qv 22) (Qe Qt Go.BinOp.or (Qo (Qp (Qq (Qr Go.IntKind.u8 128)))) (Qn 21)),Qa (Qv 23) (MOp.bslice 1 [(Qr Go.IntKind.u8 0)] 2 [(0,(Qn 18)),(1,(Qn 22))]),Qa (Qv 24) (MOp.app 5 1 1 (Qn 14) (Qn 23)),Qa (Qv 4) (Qd (Qn 24))]
def Yyq:MC:=.r0 X6d
def X6e:List MO:=[Qa (Qv 26) (Qd (Qn 5)),Qa (Qv 27) (Qe Qt Go.BinOp.lss (Qn 26) (Qo (Qp (Qq (Qr Go.IntKind.u32 55296))))),Qa (Qv 25) (Qd (Qn 27))]
def Yyr:MC:=.r0 X6e
def X6f:List MO:=[Qa (Qv 28) (Qd (Qn 5)),Qa (Qv 29) (Qe Qt Go.BinOp.lss (Qo (Qp (Qq (Qr Go.IntKind.u32 57343)))) (Qn 28)),Qa (Qv 30) (Qd (Qn 29)),Qb 30 true (Qv 31),Qa (Qv 31) (Qd (Qn 5)),Qb 30 true (Qv 32),Qa (Qv 32) (Qe Qt Go.BinOp.leq (Qn 31) (Qo (Qp (Qq (Qr Go.IntKind.u32 65535))))),Qa (Qv 33) (Qm (Qn 30) (Qn 32) (Qo (Qp (Qq (Qs false))))),Qa (Qv 25) (Qd (Qn 33))]
def Yys:MC:=.r0 X6f
def Xvd:List MO:=[Qa (Qv 34) (Qd (Qn 0)),Qa (Qv 35) (Qd (Qn 1)),Qa (Qv 36) (Qe Qt Go.BinOp.shr (Qn 35) (Qo (Qp (Qq (Qr Go.IntKind.u64 12))))),Qa (Qv 37) (MOp.conv Go.IntKind.u8 (Qn 36)),Qa (Qv 38) (Qe Qt Go.BinOp.or (Qo (Qp (Qq (Qr Go.IntKind.u8 224)))) (Qn 37)),Qa (Qv 39) (Qd (Qn 1)),Qa (Qv 40) (Qe Qt Go.BinOp.shr (Qn 39) (Qo (Qp (Qq (Qr Go.IntKind.u64 6))))),Qa (Qv 41) (MOp.conv Go.IntKind.u8 (Qn 40)),Qa (Qv 42) (Qe Qt Go.BinOp.and (Qn 41) (Qo (Qp (Qq (Qr Go.IntKind.u8 63))))),Qa (Qv 43) (Qe Qt Go.BinOp.or (Qo (Qp (Qq (Qr Go.IntKind.u8 128)))) (Qn 42)),Qa (Qv 44) (Qd (Qn 1)),Qa (Qv 45) (MOp.conv Go.IntKind.u8 (Qn 44)),Qa (Qv 46) (Qe Qt Go.BinOp.and (Qn 45) (Qo (Qp (Qq (Qr Go.IntKind.u8 63))))),Qa (Qv 47) (Qe Qt Go.BinOp.or (Qo (Qp (Qq (Qr Go.IntKind.u8 128)))) (Qn 46)),Qa (Qv 48) (MOp.bslice 1 [(Qr Go.IntKind.u8 0)] 3 [(0,(Qn 38)),(1,(Qn 43)),(2,(Qn 47))]),Qa (Qv 49) (MOp.app 5 1 1 (Qn 34) (Qn 48)),Qa (Qv 4) (Qd (Qn 49))]
def Ygo:MC:=.r0 Xvd
def Xve:List MO:=[Qa (Qv 51) (Qd (Qn 5)),Qa (Qv 52) (Qe Qt Go.BinOp.gtr (Qn 51) (Qo (Qp (Qq (Qr Go.IntKind.u32 65535))))),Qa (Qv 53) (Qd (Qn 52)),Qb 53 true (Qv 54),Qa (Qv 54) (Qd (Qn 5)),Qb 53 true (Qv 55),Qa (Qv 55) (Qe Qt Go.BinOp.leq (Qn 54) (Qo (Qp (Qq (Qr Go.IntKind.u32 1114111))))),Qa (Qv 56) (Qm (Qn 53) (Qn 55) (Qo (Qp (Qq (Qs false))))),Qa (Qv 50) (Qd (Qn 56))]
def Ygp:MC:=.r0 Xve
def Xvf:List MO:=[Qa (Qv 57) (Qd (Qn 0)),Qa (Qv 58) (Qd (Qn 1)),Qa (Qv 59) (Qe Qt Go.BinOp.shr (Qn 58) (Qo (Qp (Qq (Qr Go.IntKind.u64 18))))),Qa (Qv 60) (MOp.conv Go.IntKind.u8 (Qn 59)),Qa (Qv 61) (Qe Qt Go.BinOp.or (Qo (Qp (Qq (Qr Go.IntKind.u8 240)))) (Qn 60)),Qa (Qv 62) (Qd (Qn 1)),Qa (Qv 63) (Qe Qt Go.BinOp.shr (Qn 62) (Qo (Qp (Qq (Qr Go.IntKind.u64 12))))),Qa (Qv 64) (MOp.conv Go.IntKind.u8 (Qn 63)),Qa (Qv 65) (Qe Qt Go.BinOp.and (Qn 64) (Qo (Qp (Qq (Qr Go.IntKind.u8 63))))),Qa (Qv 66) (Qe Qt Go.BinOp.or (Qo (Qp (Qq (Qr Go.IntKind.u8 128)))) (Qn 65)),Qa (Qv 67) (Qd (Qn 1)),Qa (Qv 68) (Qe Qt Go.BinOp.shr (Qn 67) (Qo (Qp (Qq (Qr Go.IntKind.u64 6))))),Qa (Qv 69) (MOp.conv Go.IntKind.u8 (Qn 68)),Qa (Qv 70) (Qe Qt Go.BinOp.and (Qn 69) (Qo (Qp (Qq (Qr Go.IntKind.u8 63))))),Qa (Qv 71) (Qe Qt Go.BinOp.or (Qo (Qp (Qq (Qr Go.IntKind.u8 128)))) (Qn 70)),Qa (Qv 72) (Qd (Qn 1)),Qa (Qv 73) (MOp.conv Go.IntKind.u8 (Qn 72)),Qa (Qv 74) (Qe Qt Go.BinOp.and (Qn 73) (Qo (Qp (Qq (Qr Go.IntKind.u8 63))))),Qa (Qv 75) (Qe Qt Go.BinOp.or (Qo (Qp (Qq (Qr Go.IntKind.u8 128)))) (Qn 74)),Qa (Qv 76) (MOp.bslice 1 [(Qr Go.IntKind.u8 0)] 4 [(0,(Qn 61)),(1,(Qn 66)),(2,(Qn 71)),(3,(Qn 75))]),Qa (Qv 77) (MOp.app 5 1 1 (Qn 57) (Qn 76)),Qa (Qv 4) (Qd (Qn 77))]
def Ygq:MC:=.r0 Xvf
def Xvg:List MO:=[Qa (Qv 8) (Qd (Qn 0)),Qa (Qv 9) (MOp.bslice 1 [(Qr Go.IntKind.u8 0)] 3 [(0,(Qo (Qp (Qq (Qr Go.IntKind.u8 239))))),(1,(Qo (Qp (Qq (Qr Go.IntKind.u8 191))))),(2,(Qo (Qp (Qq (Qr Go.IntKind.u8 189)))))]),Qa (Qv 10) (MOp.app 5 1 1 (Qn 8) (Qn 9)),Qa (Qv 4) (Qd (Qn 10))]
def Ygr:MC:=.r0 Xvg
def Ygs:MC:=.cond (Qn 25) (.seq Ygo .ret) (.seq Ygp (.cond (Qn 50) (.seq Ygq .ret) (.seq Ygr .ret)))
def Ygt:MC:=.cond (Qn 11) (.seq Yyq .ret) (.seq (.seq Yyr (.cond (Qn 25) .skip Yys)) Ygs)
def Xvh:MC:=.seq Yyn (.seq Yyo (.blk 0 (.seq Yyp Ygt)))
attribute [go_sem] X6a X6b X6c X6d X6e X6f Xvd Xve Xvf Xvg
theorem Wae : KK QP 187 f187 [] Xvh [(RV.t 4)] 78 := by refine ⟨func187,?_,?_,?_,?_⟩<;>kernel_rfl
theorem Yyt : Xaa QP 187 = true := by kernel_rfl
theorem Ygu (h : GT QP gp [(RV.t 4)] pre R 78 Xvh args) : Tri QP gp 187 args pre R := Wae.t h
-- f188: trC none
-- f189: trC none
-- f190: no body
-- f191: no body
-- f192: no body
-- f193: no body
-- f194: no body
-- f195: no body
-- f196: no body
-- f197: no body
-- f198: no body
-- f199: no body
-- f200: no body
-- f201: no body
-- f202: no body
-- f203: no body
-- f204: no body
-- f205: no body
-- f206: no body
-- f207: no body
-- f208: no body
-- f209: no body
-- f210: no body
-- f211: no body
-- f212: no body
-- f213: no body
-- f214: no body
-- f215: no body
-- f216: no body
-- f217: no body
-- f218: no body
-- f219: no body
-- f220: no body
-- f221: no body
-- f222: no body
-- f223: no body
-- f224: no body
-- f225: no body
end Go.Fw.L07
