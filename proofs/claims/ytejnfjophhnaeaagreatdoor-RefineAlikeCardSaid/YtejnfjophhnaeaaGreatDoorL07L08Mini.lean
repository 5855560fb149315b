/- Small codes. -/
import Derived.Test.YtejnfjophhnaeaaGreatDoorFd
import Derived.Test.YtejnfjophhnaeaaGreatDoorProg
set_option linter.all false
namespace Go.Fw.L07
open Go Go.Fw
open Go.Proofs.Tryz renaming prog -> QP
open Go.Proofs.Tryz (f114 f115 f33 f62 f63 f65 f91 func114 func115 func33 func62 func63 func65 func91)
open Go.Fw.MO renaming op -> Qa
open Go.Fw.MOp renaming mv -> Qd,bin -> Qe,load -> Qf,fad -> Qg,call -> Qh,ext -> Qi,iad -> Qj,len -> Qk,store -> Ql
open Go.Fw.Opd renaming t -> Qn,c -> Qo
open Go.Fw.V renaming one -> Qp
open Go.Fw.A renaming d -> Qq
open Go.Fw.D renaming int -> Qr
open Go.Fw.Leaf renaming i -> Qt
open Go.IntKind renaming i64 -> Qu
open Option renaming some -> Qv
variable {gp : Heap} {args : List V} {res : V} {pre : List Ch} {R : V -> List Ch -> Prop}
def Yk5:List MO:=[Qa (Qv 1) (MOp.ibox (Qn 0)),Qa (Qv 2) (MOp.alloc [(Qr Qu 0),(D.sl [])]),Qa (Qv 3) (Qd (Qo (Qp (Qq (Qr Qu 0)))))]
def Wah:MC:=.r0 Yk5
def Yk6:List MO:=[Qa (Qv 14) (Qf 2 true (Qn 1)),Qa (Qv 15) (Qh 36 [(Qn 14)]),Qa (Qv 13) (Qd (Qn 15)),Qa (Qv 16) (Qi (Qn 13) 0),Qa (Qv 17) (Qi (Qn 13) 1),Qa (Qv 4) (Qd (Qn 16)),Qa (Qv 5) (Qd (Qn 17))]
def Wai:MC:=.r0 Yk6
def Yk7:List MO:=[Qa (Qv 18) (Qd (Qn 5)),Qa (Qv 19) (Qe Qt Go.BinOp.neq (Qn 18) (Qo (Qp (Qq (Qr Qu 0)))))]
def Waj:MC:=.r0 Yk7
def Yk8:List MO:=[Qa (Qv 20) (MOp.build [(Qr Qu 0),(D.sl [])] []),Qa (Qv 21) (Qd (Qn 5)),Qa none (Ql 2 (Qn 2) (Qn 20)),Qa (Qv 3) (Qd (Qn 21))]
def Wak:MC:=.r0 Yk8
def Xcj:List MO:=[Qa (Qv 22) (Qf 2 true (Qn 1)),Qa (Qv 23) (Qh 62 [(Qn 22)]),Qa (Qv 6) (Qd (Qn 23))]
def Yyw:MC:=.r0 Xcj
def X6r:List MO:=[Qa (Qv 7) (MOp.alloc [(Qr Qu 0),(D.sl [])])]
def Yyx:MC:=.r0 X6r
def X6s:List MO:=[Qa (Qv 24) (Qd (Qn 6)),Qa (Qv 25) (Qh 63 [(Qn 24)]),Qa (Qv 26) (Qk Qt (Qn 25)),Qa (Qv 27) (Qd (Qo (Qp (Qq (Qr Qu 0)))))]
def Yyy:MC:=.r0 X6s
def X6t:List MO:=[Qa (Qv 28) (Qe Qt Go.BinOp.lss (Qn 27) (Qn 26))]
def Yyz:MC:=.r0 X6t
def X6u:List MO:=[Qa (Qv 29) (Qj 1 (Qn 25) (Qn 27)),Qa (Qv 30) (Qf 1 false (Qn 29)),Qa (Qv 9) (Qd (Qn 30))]
def Yy0:MC:=.r0 X6u
def X6v:List MO:=[Qa (Qv 31) (Qg 1 (Qn 1)),Qa (Qv 32) (Qf 1 false (Qn 31)),Qa (Qv 33) (Qd (Qn 9)),Qa (Qv 34) (Qj 6 (Qn 32) (Qn 33)),Qa (Qv 35) (Qg 0 (Qn 34)),Qa (Qv 36) (Qf 1 false (Qn 35)),Qa (Qv 37) (Qg 1 (Qn 1)),Qa (Qv 38) (Qf 1 false (Qn 37)),Qa (Qv 39) (Qd (Qn 9)),Qa (Qv 40) (Qj 6 (Qn 38) (Qn 39)),Qa (Qv 41) (Qg 1 (Qn 40)),Qa (Qv 42) (Qf 3 true (Qn 41)),Qa (Qv 43) (MOp.build [(Qr Qu 0),(Qr Qu 0),(Qr Qu 0),(D.str (ByteArray.mk #[])),(D.sl []),(D.sl [])] [(0,(1,(Qn 36))),(1,(3,(Qn 42)))]),Qa (Qv 10) (MOp.alloc [(Qr Qu 0),(Qr Qu 0),(Qr Qu 0),(D.str (ByteArray.mk #[])),(D.sl []),(D.sl [])]),Qa none (Ql 6 (Qn 10) (Qn 43))]
def Yy1:MC:=.reg true X6v
def X6w:List MO:=[Qa (Qv 45) (Qf 2 true (Qn 1)),Qa (Qv 46) (Qd (Qn 9)),Qa (Qv 47) (Qh 64 [(Qn 45),(Qn 46)]),Qa (Qv 44) (Qd (Qn 47)),Qa (Qv 48) (Qi (Qn 44) 0),Qa (Qv 49) (Qi (Qn 44) 1),Qa (Qv 50) (Qg 4 (Qn 10)),Qa none (Ql 1 (Qn 50) (Qn 48))]
def Yy2:MC:=.r0 X6w
def X6x:List MO:=[Qa (Qv 52) (Qf 2 true (Qn 1)),Qa (Qv 53) (Qd (Qn 9)),Qa (Qv 54) (Qh 21 [(Qn 52),(Qn 53)]),Qa (Qv 51) (Qd (Qn 54)),Qa (Qv 55) (Qi (Qn 51) 0),Qa (Qv 56) (Qi (Qn 51) 1),Qa (Qv 11) (Qd (Qn 55)),Qa (Qv 12) (Qd (Qn 56))]
def Yy3:MC:=.r0 X6x
def X6y:List MO:=[Qa (Qv 57) (Qd (Qn 6)),Qa (Qv 58) (Qd (Qn 11)),Qa (Qv 59) (Qh 65 [(Qn 57),(Qn 58)]),Qa (Qv 60) (Qg 5 (Qn 10)),Qa none (Ql 1 (Qn 60) (Qn 59))]
def Yy4:MC:=.r0 X6y
def X6z:List MO:=[Qa (Qv 61) (Qg 1 (Qn 7)),Qa (Qv 62) (Qf 1 false (Qn 61)),Qa (Qv 63) (Qf 6 true (Qn 10)),Qa (Qv 64) (MOp.bslice 6 [(Qr Qu 0),(Qr Qu 0),(Qr Qu 0),(D.str (ByteArray.mk #[])),(D.sl []),(D.sl [])] 1 [(0,(Qn 63))]),Qa (Qv 65) (MOp.app 44 6 88 (Qn 62) (Qn 64)),Qa (Qv 66) (Qg 1 (Qn 7)),Qa none (Ql 1 (Qn 66) (Qn 65))]
def Yy5:MC:=.r0 X6z
def Yy6:MC:=.seq Yy2 (.seq Yy3 (.seq Yy4 Yy5))
def X60:List MO:=[Qa (Qv 67) (Qe Qt Go.BinOp.add (Qn 27) (Qo (Qp (Qq (Qr Qu 1))))),Qa (Qv 27) (Qd (Qn 67))]
def Yy7:MC:=.r0 X60
def Yy8:MC:=.seq (.blk 1 (.seq Yy0 (.seq Yy1 Yy6))) Yy7
def X61:List MO:=[Qa (Qv 68) (Qf 2 true (Qn 7)),Qa none (Ql 2 (Qn 2) (Qn 68)),Qa (Qv 3) (Qd (Qo (Qp (Qq (Qr Qu 0)))))]
def Yy9:MC:=.r0 X61
def Yza:MC:=.seq (.seq Yyy (.blk 0 (.loop (.seq Yyz (.seq (.cond (Qn 28) .skip (MC.exit 0)) Yy8))))) (.seq Yy9 .ret)
def Yzb:MC:=.seq (.seq Wai (.seq Waj (.cond (Qn 19) (.seq Wak .ret) .skip))) (.seq Yyw (.seq Yyx Yza))
def X62:MC:=.seq Wah Yzb
attribute [go_sem] Yk5 Yk6 Yk7 Yk8 X6r X6s X6t X6u X6v X6w X6x X6y X6z X60 X61
theorem Wgu : KK QP 33 f33 [1] X62 [(RV.cell 2 2 true),(RV.t 3)] 69 := by refine ⟨func33,?_,?_,?_,?_⟩<;>kernel_rfl
theorem Wal : Xaa QP 33 = true := by kernel_rfl
theorem Wam (h : GI QP gp [(RV.cell 2 2 true),(RV.t 3)] res 69 X62 args) : Does QP gp 33 args res := Wgu.i Wal h
def Yk9:List MO:=[Qa (Qv 1) (MOp.ibox (Qn 0)),Qa (Qv 2) (Qd (Qo (Qp (Qq D.nilP))))]
def Wan:MC:=.r0 Yk9
def Yla:List MO:=[Qa (Qv 3) (Qf 2 true (Qn 1)),Qa (Qv 4) MOp.mkM,Qa (Qv 5) (MOp.build [(Qr Qu 0),(D.sl []),(D.raw (Go.Value.map none))] [(0,(2,(Qn 3))),(2,(1,(Qn 4)))]),Qa (Qv 6) (MOp.box (Qn 5)),Qa (Qv 2) (Qd (Qn 6))]
def Wao:MC:=.r0 Yla
def Ylb:MC:=.seq Wan (.seq Wao .ret)
attribute [go_sem] Yk9 Yla
theorem Wgv : KK QP 62 f62 [1] Ylb [(RV.t 2)] 7 := by refine ⟨func62,?_,?_,?_,?_⟩<;>kernel_rfl
theorem Wap : Xaa QP 62 = true := by kernel_rfl
theorem Yzc (h : GT QP gp [(RV.t 2)] pre R 7 Ylb args) : Tri QP gp 62 args pre R := Wgv.t h
def Ylc:List MO:=[Qa (Qv 2) (Qd (Qo (Qp A.nil)))]
def Waq:MC:=.r0 Ylc
def Yld:List MO:=[Qa (Qv 3) (MOp.alloc [(D.sl [])])]
def War:MC:=.r0 Yld
def Yle:List MO:=[Qa (Qv 5) (Qd (Qn 0)),Qa (Qv 6) (Qh 91 [(Qn 5)])]
def Was:MC:=.r0 Yle
def Ylf:List MO:=[Qa (Qv 4) (Qd (Qn 7))]
def Wat:MC:=.r0 Ylf
def Ylg:List MO:=[Qa (Qv 8) (Qf 1 false (Qn 3)),Qa (Qv 9) (Qd (Qn 4)),Qa (Qv 10) (MOp.bslice 1 [(Qr Qu 0)] 1 [(0,(Qn 9))]),Qa (Qv 11) (MOp.app 3 1 8 (Qn 8) (Qn 10)),Qa none (Ql 1 (Qn 3) (Qn 11))]
def Wau:MC:=.r0 Ylg
def Wav:MC:=.rf (Qn 6) [7] Wat (.blk 1 Wau)
def Ylh:List MO:=[Qa (Qv 12) (Qf 1 false (Qn 3)),Qa (Qv 2) (Qd (Qn 12))]
def Waw:MC:=.r0 Ylh
def Yzd:MC:=.seq War (.seq (.seq Was (.blk 0 Wav)) (.seq Waw .ret))
def X63:MC:=.seq Waq Yzd
attribute [go_sem] Ylc Yld Yle Ylf Ylg Ylh
theorem Wgw : KK QP 63 f63 [] X63 [(RV.t 2)] 13 := by refine ⟨func63,?_,?_,?_,?_⟩<;>kernel_rfl
theorem Wax : Xaa QP 63 = true := by kernel_rfl
theorem Yze (h : GT QP gp [(RV.t 2)] pre R 13 X63 args) : Tri QP gp 63 args pre R := Wgw.t h
def Yli:List MO:=[Qa (Qv 4) (Qd (Qo (Qp A.nil)))]
def Way:MC:=.r0 Yli
def Ylj:List MO:=[Qa (Qv 8) (Qd (Qn 1)),Qa (Qv 9) (Qk Qt (Qn 8)),Qa (Qv 10) (MOp.mkS 1 8 [(Qr Qu 0)] (Qn 9)),Qa (Qv 5) (Qd (Qn 10))]
def Waz:MC:=.r0 Ylj
def Ylk:List MO:=[Qa (Qv 11) (Qd (Qn 5)),Qa (Qv 12) (Qd (Qn 1)),Qa (Qv 13) (MOp.cpy 1 (Qn 11) (Qn 12))]
def Wa0:MC:=.r0 Ylk
def Yll:List MO:=[Qa (Qv 14) (Qd (Qn 5)),Qa (Qv 15) (Qk Qt (Qn 14)),Qa (Qv 16) (Qd (Qo (Qp (Qq (Qr Qu 0)))))]
def Wa1:MC:=.r0 Yll
def Ylm:List MO:=[Qa (Qv 17) (Qe Qt Go.BinOp.lss (Qn 16) (Qn 15))]
def Wa2:MC:=.r0 Ylm
def Yln:List MO:=[Qa (Qv 18) (Qd (Qn 16)),Qa (Qv 19) (Qj 1 (Qn 14) (Qn 16)),Qa (Qv 20) (Qf 1 false (Qn 19)),Qa (Qv 6) (Qd (Qn 18)),Qa (Qv 7) (Qd (Qn 20))]
def Wa3:MC:=.r0 Yln
def Ylo:List MO:=[Qa (Qv 21) (Qd (Qn 5)),Qa (Qv 22) (Qd (Qn 6)),Qa (Qv 23) (Qd (Qn 0)),Qa (Qv 24) (MOp.nck (Qn 23)),Qa (Qv 25) (Qg 2 (Qn 24)),Qa (Qv 26) (Qf 1 false (Qn 25)),Qa (Qv 27) (Qd (Qn 7)),Qa (Qv 28) (MOp.lkp false (Qp (Qq (Qr Qu 0))) false [Qt] (Qn 26) (Qn 27)),Qa (Qv 29) (Qj 1 (Qn 21) (Qn 22)),Qa none (Ql 1 (Qn 29) (Qn 28))]
def Wa4:MC:=.r0 Ylo
def X64:List MO:=[Qa (Qv 30) (Qe Qt Go.BinOp.add (Qn 16) (Qo (Qp (Qq (Qr Qu 1))))),Qa (Qv 16) (Qd (Qn 30))]
def Yzf:MC:=.r0 X64
def Yzg:MC:=.seq Wa2 (.seq (.cond (Qn 17) .skip (MC.exit 0)) (.seq (.blk 1 (.seq Wa3 Wa4)) Yzf))
def Xfq:List MO:=[Qa (Qv 31) (Qd (Qn 5)),Qa (Qv 4) (Qd (Qn 31))]
def Yzh:MC:=.r0 Xfq
def Yzi:MC:=.seq Wa0 (.seq (.seq Wa1 (.blk 0 (.loop Yzg))) (.seq Yzh .ret))
def X65:MC:=.seq Way (.seq Waz Yzi)
attribute [go_sem] Yli Ylj Ylk Yll Ylm Yln Ylo X64
theorem Wgx : KK QP 65 f65 [] X65 [(RV.t 4)] 32 := by refine ⟨func65,?_,?_,?_,?_⟩<;>kernel_rfl
theorem Wa5 : Xaa QP 65 = true := by kernel_rfl
theorem Yzj (h : GT QP gp [(RV.t 4)] pre R 32 X65 args) : Tri QP gp 65 args pre R := Wgx.t h
def Ylp:List MO:=[Qa (Qv 1) (MOp.box (Qn 0)),Qa (Qv 2) (Qd (Qo (Qp (Qq D.nilF))))]
def Wa6:MC:=.r0 Ylp
def Ylq:List MO:=[Qa (Qv 3) (MOp.mkF (Go.Fn.func 114) [(Qn 1)]),Qa (Qv 2) (Qd (Qn 3))]
def Wa7:MC:=.r0 Ylq
def Ylr:MC:=.seq Wa6 (.seq Wa7 .ret)
attribute [go_sem] Ylp Ylq
theorem Wgy : KK QP 91 f91 [] Ylr [(RV.t 2)] 4 := by refine ⟨func91,?_,?_,?_,?_⟩<;>kernel_rfl
theorem Wa8 : Xaa QP 91 = true := by kernel_rfl
theorem Yzk (h : GT QP gp [(RV.t 2)] pre R 4 Ylr args) : Tri QP gp 91 args pre R := Wgy.t h
def X66:List MO:=[Qa (Qv 10) (Qf 1 false (Qn 1)),Qa (Qv 11) (MOp.nck (Qn 10)),Qa (Qv 12) (Qg 0 (Qn 11)),Qa (Qv 13) (Qg 0 (Qn 12)),Qa (Qv 14) (Qf 1 false (Qn 13)),Qa (Qv 15) (MOp.bslO 1 [(Qr Qu 0)] 1 [(0,(Qn 14))]),Qa (Qv 3) (MOp.alloc [(D.sl [])]),Qa none (Ql 1 (Qn 3) (Qn 15))]
def Yzl:MC:=.r0 X66
def X67:List MO:=[Qa (Qv 16) (MOp.mkF (Go.Fn.func 115) [(Qn 3)]),Qa (Qv 4) (Qd (Qn 16))]
def Yzm:MC:=.r0 X67
def X68:List MO:=[Qa (Qv 17) (Qf 1 false (Qn 3)),Qa (Qv 18) (Qk Qt (Qn 17)),Qa (Qv 19) (Qe Qt Go.BinOp.gtr (Qn 18) (Qo (Qp (Qq (Qr Qu 0)))))]
def Yzn:MC:=.r0 X68
def X69:List MO:=[Qa (Qv 20) (Qf 1 false (Qn 3)),Qa (Qv 21) (Qf 1 false (Qn 3)),Qa (Qv 22) (Qk Qt (Qn 21)),Qa (Qv 23) (Qe Qt Go.BinOp.sub (Qn 22) (Qo (Qp (Qq (Qr Qu 1))))),Qa (Qv 24) (Qj 1 (Qn 20) (Qn 23)),Qa (Qv 25) (Qf 1 false (Qn 24)),Qa (Qv 5) (Qd (Qn 25))]
def Yzo:MC:=.r0 X69
def X7a:List MO:=[Qa (Qv 26) (Qf 1 false (Qn 3)),Qa (Qv 27) (Qf 1 false (Qn 3)),Qa (Qv 28) (Qk Qt (Qn 27)),Qa (Qv 29) (Qe Qt Go.BinOp.sub (Qn 28) (Qo (Qp (Qq (Qr Qu 1))))),Qa (Qv 30) (MOp.slc 1 (Qn 26) none (Qv (Qn 29))),Qa none (Ql 1 (Qn 3) (Qn 30))]
def Yzp:MC:=.r0 X7a
def Xvk:List MO:=[Qa (Qv 32) (Qf 1 false (Qn 1)),Qa (Qv 33) (MOp.nck (Qn 32)),Qa (Qv 34) (Qg 2 (Qn 33)),Qa (Qv 35) (Qf 1 false (Qn 34)),Qa (Qv 36) (Qd (Qn 5)),Qa (Qv 37) (MOp.lkp true (Qp (Qq (Qr Qu 0))) false [Qt] (Qn 35) (Qn 36)),Qa (Qv 31) (Qd (Qn 37)),Qa (Qv 38) (Qi (Qn 31) 0),Qa (Qv 39) (Qi (Qn 31) 1),Qa (Qv 6) (Qd (Qn 38)),Qa (Qv 7) (Qd (Qn 39))]
def Ygx:MC:=.r0 Xvk
def Xvl:List MO:=[Qa (Qv 40) (Qd (Qn 7))]
def Ygy:MC:=.r0 Xvl
def Xvm:List MO:=[Qa (Qv 41) (Qf 1 false (Qn 1)),Qa (Qv 42) (MOp.nck (Qn 41)),Qa (Qv 43) (Qg 2 (Qn 42)),Qa (Qv 44) (Qf 1 false (Qn 43)),Qa (Qv 45) (Qd (Qn 5)),Qa (Qv 46) (Qf 1 false (Qn 1)),Qa (Qv 47) (MOp.nck (Qn 46)),Qa (Qv 48) (Qg 2 (Qn 47)),Qa (Qv 49) (Qf 1 false (Qn 48)),Qa (Qv 50) (Qk Leaf.b (Qn 49)),Qa none (MOp.mupd false [Qt] (Qn 44) (Qn 45) (Qn 50))]
def Ygz:MC:=.reg true Xvm
def Xvn:List MO:=[Qa (Qv 51) (Qd (Qn 0)),Qa (Qv 52) (Qd (Qn 5)),Qa (Qv 53) (MOp.callv (Qn 51) [(Qn 52)]),Qa (Qv 54) (MOp.not (Qn 53))]
def Yg0:MC:=.r0 Xvn
def Xvo:List MO:=[Qa (Qv 56) (Qf 1 false (Qn 1)),Qa (Qv 57) (MOp.nck (Qn 56)),Qa (Qv 58) (Qg 0 (Qn 57)),Qa (Qv 59) (Qf 2 true (Qn 58)),Qa (Qv 60) (Qd (Qn 5)),Qa (Qv 61) (Qh 21 [(Qn 59),(Qn 60)]),Qa (Qv 55) (Qd (Qn 61)),Qa (Qv 62) (Qi (Qn 55) 0),Qa (Qv 63) (Qi (Qn 55) 1),Qa (Qv 8) (Qd (Qn 62)),Qa (Qv 9) (Qd (Qn 63))]
def Yg1:MC:=.r0 Xvo
def Xvp:List MO:=[Qa (Qv 64) (Qd (Qn 4)),Qa (Qv 65) (Qd (Qn 8)),Qa (Qv 66) (MOp.callv (Qn 64) [(Qn 65)])]
def Yg2:MC:=.r0 Xvp
def Yg3:MC:=.seq Ygz (.seq (.seq Yg0 (.cond (Qn 54) (MC.exit 0) .skip)) (.seq Yg1 Yg2))
def Yg4:MC:=.seq Yzp (.seq (.seq Ygx (.seq Ygy (.cond (Qn 40) (MC.exit 1) .skip))) Yg3)
def Yg5:MC:=.seq Yzm (.seq .skip (.blk 0 (.loop (.seq (.seq Yzn (.cond (Qn 19) .skip (MC.exit 0))) (.blk 1 (.seq Yzo Yg4))))))
def Xvq:MC:=.scope (.seq Yzl Yg5)
attribute [go_sem] X66 X67 X68 X69 X7a Xvk Xvl Xvm Xvn Xvo Xvp
theorem Wa9 : KK QP 114 f114 [15] Xvq [] 67 := by refine ⟨func114,?_,?_,?_,?_⟩<;>kernel_rfl
theorem Yzq : Xaa QP 114 = true := by kernel_rfl
theorem Yg6 (h : GT QP gp [] pre R 67 Xvq args) : Tri QP gp 114 args pre R := Wa9.t h
def X7b:List MO:=[Qa (Qv 4) (Qd (Qn 0)),Qa (Qv 5) (Qk Qt (Qn 4)),Qa (Qv 6) (Qe Qt Go.BinOp.sub (Qn 5) (Qo (Qp (Qq (Qr Qu 1))))),Qa (Qv 3) (Qd (Qn 6))]
def Yzr:MC:=.r0 X7b
def X7c:List MO:=[Qa (Qv 7) (Qd (Qn 3)),Qa (Qv 8) (Qe Qt Go.BinOp.geq (Qn 7) (Qo (Qp (Qq (Qr Qu 0)))))]
def Yzs:MC:=.r0 X7c
def X7d:List MO:=[Qa (Qv 11) (Qf 1 false (Qn 1)),Qa (Qv 12) (Qd (Qn 0)),Qa (Qv 13) (Qd (Qn 3)),Qa (Qv 14) (Qj 1 (Qn 12) (Qn 13)),Qa (Qv 15) (Qf 1 false (Qn 14)),Qa (Qv 16) (MOp.bslice 1 [(Qr Qu 0)] 1 [(0,(Qn 15))]),Qa (Qv 17) (MOp.app 3 1 8 (Qn 11) (Qn 16)),Qa none (Ql 1 (Qn 1) (Qn 17))]
def Yzt:MC:=.reg true X7d
def X7e:List MO:=[Qa (Qv 9) (Qd (Qn 3)),Qa (Qv 10) (Qe Qt Go.BinOp.sub (Qn 9) (Qo (Qp (Qq (Qr Qu 1))))),Qa (Qv 3) (Qd (Qn 10))]
def Yzu:MC:=.r0 X7e
def Xvr:MC:=.seq Yzr (.blk 0 (.loop (.seq (.seq Yzs (.cond (Qn 8) .skip (MC.exit 0))) (.seq (.blk 1 Yzt) Yzu))))
attribute [go_sem] X7b X7c X7d X7e
theorem Wba : KK QP 115 f115 [] Xvr [] 18 := by refine ⟨func115,?_,?_,?_,?_⟩<;>kernel_rfl
theorem Yzv : Xaa QP 115 = true := by kernel_rfl
theorem Yg7 (h : GT QP gp [] pre R 18 Xvr args) : Tri QP gp 115 args pre R := Wba.t h
end Go.Fw.L07
