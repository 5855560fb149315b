/- Small codes. -/
import Derived.Test.YtiklocoaghcliaaGreatDoorFd
import Derived.Test.YtiklocoaghcliaaGreatDoorProg
set_option linter.all false
namespace Go.Fw.L07
open Go Go.Fw
open Go.Proofs.Tryz renaming prog->QP
open Go.Proofs.Tryz (f150 f151 f154 f155 f156 f157 f160 f161 f163 f164 f165 f166 f167 f168 f169 f170 func150 func151 func154 func155 func156 func157 func160 func161 func163 func164 func165 func166 func167 func168 func169 func170)
open Go.Fw.MO renaming op->Qa,chk->Qb,opx->Qc
open Go.Fw.MOp renaming mv->Qd,bin->Qe,load->Qf,fad->Qg,call->Qh,ext->Qi,iad->Qj,len->Qk,store->Ql,pick->Qm
open Go.Fw.Opd renaming t->Qn,c->Qo
open Go.Fw.V renaming one->Qp
open Go.Fw.A renaming d->Qq
open Go.Fw.D renaming int->Qr,bool->Qs
open Go.Fw.Leaf renaming i->Qt
open Go.IntKind renaming i64->Qu
open Option renaming some->Qv
variable {gp:Xaj} {args:List V} {res:V} {pre:List Ch} {R:V->List Ch->Prop}
def Ycf:List MO:=[Qa (Qv 1) (MOp.ibox (Qn 0)),Qa (Qv 2) (Qd (Qo (Qp (Qq (D.str (ByteArray.mk #[])))))),Qa (Qv 3) (Qd (Qo (Qp (Qq (Qr Qu 0)))))]
def Wbc:MC:=.r0 Ycf
def Ycg:List MO:=[Qa (Qv 6) (Qf 3 true (Qn 1)),Qa (Qv 7) (Qh 18 [(Qn 6)]),Qa (Qv 8) (MOp.not (Qn 7))]
def Wbd:MC:=.r0 Ycg
def Ych:List MO:=[Qa (Qv 2) (Qd (Qo (Qp (Qq (D.str (ByteArray.mk #[])))))),Qa (Qv 3) (Qd (Qo (Qp (Qq (Qr Qu 60)))))]
def Wbe:MC:=.r0 Ych
def Yci:List MO:=[Qa (Qv 9) (Qf 3 true (Qn 1)),Qa (Qv 10) (MOp.build [(Qr Qu 0),(Qr Qu 0),(D.str (ByteArray.mk #[]))] [(0,(3,(Qn 9)))]),Qa (Qv 4) (MOp.alloc [(Qr Qu 0),(Qr Qu 0),(D.str (ByteArray.mk #[]))]),Qa none (Ql 3 (Qn 4) (Qn 10))]
def Wbf:MC:=.r0 Yci
def Ycj:List MO:=[Qa (Qv 11) (Qf 3 true (Qn 4)),Qa (Qv 12) (MOp.mkMv (Go.Fn.func 154) (Qn 11)),Qa (Qv 13) (Qf 3 true (Qn 4)),Qa (Qv 14) (MOp.mkMv (Go.Fn.func 155) (Qn 13)),Qa (Qv 15) (Qf 3 true (Qn 4)),Qa (Qv 16) (MOp.mkMv (Go.Fn.func 156) (Qn 15)),Qa (Qv 17) (Qf 3 true (Qn 4)),Qa (Qv 18) (MOp.mkMv (Go.Fn.func 157) (Qn 17)),Qa (Qv 19) (MOp.build [D.nilF,D.nilF,D.nilF,D.nilF] [(0,(1,(Qn 12))),(1,(1,(Qn 14))),(2,(1,(Qn 16))),(3,(1,(Qn 18)))]),Qa (Qv 5) (MOp.alloc [D.nilF,D.nilF,D.nilF,D.nilF]),Qa none (Ql 4 (Qn 5) (Qn 19))]
def Wbg:MC:=.r0 Ycj
def Xx7:List MO:=[Qa (Qv 20) (Qg 0 (Qn 1)),Qa (Qv 21) (Qf 1 false (Qn 20)),Qa (Qv 22) (MOp.iadA 4 1 (Qn 5) (Qn 21)),Qa (Qv 23) (Qf 1 false (Qn 22)),Qa (Qv 24) (MOp.callv (Qn 23) []),Qa (Qv 2) (Qd (Qn 24)),Qa (Qv 3) (Qd (Qo (Qp (Qq (Qr Qu 0)))))]
def Ym3:MC:=.r0 Xx7
def Ym4:MC:=.seq (.seq Wbd (.cond (Qn 8) (.seq Wbe .ret) .skip)) (.seq Wbf (.seq Wbg (.seq Ym3 .ret)))
def Xx8:MC:=.seq Wbc Ym4
attribute [go_sem] Ycf Ycg Ych Yci Ycj Xx7
theorem Wtj:KK QP 150 f150 [1] Xx8 [(RV.t 2),(RV.t 3)] 25:=by refine⟨func150,?_,?_,?_,?_⟩<;>kernel_rfl
theorem Wbh:Xaa QP 150=true:=by kernel_rfl
theorem Wbi (h:GI QP gp [(RV.t 2),(RV.t 3)] res 25 Xx8 args):Xao QP gp 150 args res:=Wtj.i Wbh h
def Yck:List MO:=[Qa (Qv 4) (Qd (Qo (Qp (Qq (Qr Qu 0))))),Qa (Qv 5) (Qd (Qo (Qp (Qq D.nilI))))]
def Wbj:MC:=.r0 Yck
def Ycl:List MO:=[Qa (Qv 6) (Qd (Qn 0)),Qa (Qv 7) (Qh 158 [(Qn 6)])]
def Wbk:MC:=.r0 Ycl
def Ycm:List MO:=[Qa (Qv 8) (Qd (Qn 0)),Qa (Qv 9) (Qd (Qn 0)),Qa (Qv 10) (MOp.nck (Qn 9)),Qa (Qv 11) (Qg 1 (Qn 10)),Qa (Qv 12) (Qf 1 false (Qn 11)),Qa (Qv 13) (Qd (Qn 1)),Qa (Qv 14) (MOp.appS 5 (Qn 12) (Qn 13)),Qa (Qv 15) (MOp.nck (Qn 8)),Qa (Qv 16) (Qg 1 (Qn 15)),Qa none (Ql 1 (Qn 16) (Qn 14))]
def Wbl:MC:=.r0 Ycm
def Ycn:List MO:=[Qa (Qv 17) (Qd (Qn 1)),Qa (Qv 18) (Qk Leaf.s (Qn 17)),Qa (Qv 4) (Qd (Qn 18)),Qa (Qv 5) (Qd (Qo (Qp (Qq D.nilI))))]
def Wbm:MC:=.r0 Ycn
def Yco:MC:=.seq Wbj (.seq Wbk (.seq Wbl (.seq Wbm .ret)))
attribute [go_sem] Yck Ycl Ycm Ycn
theorem Wtk:KK QP 151 f151 [] Yco [(RV.t 4),(RV.t 5)] 19:=by refine⟨func151,?_,?_,?_,?_⟩<;>kernel_rfl
theorem Ycp:Xaa QP 151=true:=by kernel_rfl
theorem Ym5 (h:GT QP gp [(RV.t 4),(RV.t 5)] pre R 19 Yco args):Tri QP gp 151 args pre R:=Wtk.t h
-- f152: trC none
def Ycq:List MO:=[Qa (Qv 1) (MOp.ibox (Qn 0)),Qa (Qv 2) (Qd (Qo (Qp (Qq (D.str (ByteArray.mk #[]))))))]
def Wbn:MC:=.r0 Ycq
def Ycr:List MO:=[Qa (Qv 2) (Qd (Qo (Qp (Qq (D.str (ByteArray.mk #[110,117,108,108]))))))]
def Wbo:MC:=.r0 Ycr
def Ycs:MC:=.seq Wbn (.seq Wbo .ret)
attribute [go_sem] Ycq Ycr
theorem Wtl:KK QP 154 f154 [1] Ycs [(RV.t 2)] 3:=by refine⟨func154,?_,?_,?_,?_⟩<;>kernel_rfl
theorem Wbp:Xaa QP 154=true:=by kernel_rfl
theorem Wbq (h:GI QP gp [(RV.t 2)] res 3 Ycs args):Xao QP gp 154 args res:=Wtl.i Wbp h
def Yct:List MO:=[Qa (Qv 1) (MOp.ibox (Qn 0)),Qa (Qv 2) (Qd (Qo (Qp (Qq (D.str (ByteArray.mk #[]))))))]
def Wbr:MC:=.r0 Yct
def Ycu:List MO:=[Qa (Qv 3) (Qg 0 (Qn 1)),Qa (Qv 4) (Qg 1 (Qn 3)),Qa (Qv 5) (Qf 1 false (Qn 4)),Qa (Qv 6) (Qe Qt Go.BinOp.eql (Qn 5) (Qo (Qp (Qq (Qr Qu 1))))),Qa (Qv 7) (Qh 160 [(Qn 6)]),Qa (Qv 2) (Qd (Qn 7))]
def Wbs:MC:=.r0 Ycu
def Ycv:MC:=.seq Wbr (.seq Wbs .ret)
attribute [go_sem] Yct Ycu
theorem Wtm:KK QP 155 f155 [1] Ycv [(RV.t 2)] 8:=by refine⟨func155,?_,?_,?_,?_⟩<;>kernel_rfl
theorem Wbt:Xaa QP 155=true:=by kernel_rfl
theorem Wbu (h:GI QP gp [(RV.t 2)] res 8 Ycv args):Xao QP gp 155 args res:=Wtm.i Wbt h
def Ycw:List MO:=[Qa (Qv 1) (MOp.ibox (Qn 0)),Qa (Qv 2) (Qd (Qo (Qp (Qq (D.str (ByteArray.mk #[]))))))]
def Wbv:MC:=.r0 Ycw
def Ycx:List MO:=[Qa (Qv 3) (Qg 0 (Qn 1)),Qa (Qv 4) (Qg 1 (Qn 3)),Qa (Qv 5) (Qf 1 false (Qn 4)),Qa (Qv 6) (Qh 31 [(Qn 5)]),Qa (Qv 2) (Qd (Qn 6))]
def Wbw:MC:=.r0 Ycx
def Ycy:MC:=.seq Wbv (.seq Wbw .ret)
attribute [go_sem] Ycw Ycx
theorem Wtn:KK QP 156 f156 [1] Ycy [(RV.t 2)] 7:=by refine⟨func156,?_,?_,?_,?_⟩<;>kernel_rfl
theorem Wbx:Xaa QP 156=true:=by kernel_rfl
theorem Wby (h:GI QP gp [(RV.t 2)] res 7 Ycy args):Xao QP gp 156 args res:=Wtn.i Wbx h
def Ycz:List MO:=[Qa (Qv 1) (MOp.ibox (Qn 0)),Qa (Qv 2) (Qd (Qo (Qp (Qq (D.str (ByteArray.mk #[]))))))]
def Wbz:MC:=.r0 Ycz
def Yc0:List MO:=[Qa (Qv 6) (Qg 0 (Qn 1)),Qa (Qv 7) (Qg 2 (Qn 6)),Qa (Qv 8) (Qf 1 false (Qn 7)),Qa (Qv 9) (Qh 161 [(Qn 8)]),Qa (Qv 5) (Qd (Qn 9)),Qa (Qv 10) (Qi (Qn 5) 0),Qa (Qv 11) (Qi (Qn 5) 1),Qa (Qv 3) (Qd (Qn 10)),Qa (Qv 4) (Qd (Qn 11))]
def Wb0:MC:=.r0 Yc0
def Yc1:List MO:=[Qa (Qv 12) (Qd (Qn 3)),Qa (Qv 2) (Qd (Qn 12))]
def Wb1:MC:=.r0 Yc1
def Yc2:MC:=.seq Wbz (.seq Wb0 (.seq Wb1 .ret))
attribute [go_sem] Ycz Yc0 Yc1
theorem Wto:KK QP 157 f157 [1] Yc2 [(RV.t 2)] 13:=by refine⟨func157,?_,?_,?_,?_⟩<;>kernel_rfl
theorem Wb2:Xaa QP 157=true:=by kernel_rfl
theorem Wb3 (h:GI QP gp [(RV.t 2)] res 13 Yc2 args):Xao QP gp 157 args res:=Wto.i Wb2 h
def Yc3:List MO:=[Qa (Qv 2) (Qd (Qo (Qp (Qq (D.str (ByteArray.mk #[]))))))]
def Wb4:MC:=.r0 Yc3
def Yc4:List MO:=[Qa (Qv 3) (Qd (Qn 0)),Qa (Qv 4) (Qh 163 [(Qn 3)]),Qa (Qv 2) (Qd (Qn 4))]
def Wb5:MC:=.r0 Yc4
def Yc5:MC:=.seq Wb4 (.seq Wb5 .ret)
attribute [go_sem] Yc3 Yc4
theorem Wtp:KK QP 160 f160 [] Yc5 [(RV.t 2)] 5:=by refine⟨func160,?_,?_,?_,?_⟩<;>kernel_rfl
theorem Wb6:Xaa QP 160=true:=by kernel_rfl
theorem Wb7 (h:GI QP gp [(RV.t 2)] res 5 Yc5 args):Xao QP gp 160 args res:=Wtp.i Wb6 h
def Yc6:List MO:=[Qa (Qv 2) (Qd (Qo (Qp (Qq (D.str (ByteArray.mk #[])))))),Qa (Qv 3) (Qd (Qo (Qp (Qq (Qr Qu 0)))))]
def Wb8:MC:=.r0 Yc6
def Yc7:List MO:=[Qa (Qv 10) (Qd (Qn 0)),Qa (Qv 11) (Qh 40 [(Qn 10)]),Qa (Qv 12) (MOp.not (Qn 11))]
def Wb9:MC:=.r0 Yc7
def Yc8:List MO:=[Qa (Qv 2) (Qd (Qo (Qp (Qq (D.str (ByteArray.mk #[])))))),Qa (Qv 3) (Qd (Qo (Qp (Qq (Qr Qu 40)))))]
def Wca:MC:=.r0 Yc8
def Yc9:List MO:=[Qa (Qv 4) (MOp.bldN 244 5)]
def Wcb:MC:=.r0 Yc9
def Yda:List MO:=[Qa (Qv 13) (MOp.mkF (Go.Fn.func 164) [(Qn 4)]),Qa (Qv 5) (Qd (Qn 13))]
def Wcc:MC:=.r0 Yda
def Xx9:List MO:=[Qa (Qv 14) (Qd (Qn 5)),Qa (Qv 15) (MOp.bslice 1 [(Qr Go.IntKind.i32 0)] 1 [(0,(Qo (Qp (Qq (Qr Go.IntKind.i32 34)))))]),Qa (Qv 16) (MOp.callv (Qn 14) [(Qn 15)])]
def Ym6:MC:=.r0 Xx9
def Xya:List MO:=[Qa (Qv 17) (Qd (Qn 0)),Qa (Qv 18) (MOp.rng (Qn 17))]
def Ym7:MC:=.r0 Xya
def Xyb:List MO:=[Qa (Qv 19) (MOp.nxt (Qn 18)),Qa (Qv 20) (Qi (Qn 19) 0)]
def Ym8:MC:=.r0 Xyb
def Xyc:List MO:=[Qa (Qv 21) (Qi (Qn 19) 2),Qa (Qv 7) (Qd (Qn 21))]
def Ym9:MC:=.r0 Xyc
def Xyd:List MO:=[Qa (Qv 23) (Qh 166 []),Qa (Qv 24) (Qd (Qn 7)),Qa (Qv 25) (MOp.lkp true (Qp (Qq (Qr Go.IntKind.i32 0))) false [Qt] (Qn 23) (Qn 24)),Qa (Qv 22) (Qd (Qn 25)),Qa (Qv 26) (Qi (Qn 22) 0),Qa (Qv 27) (Qi (Qn 22) 1),Qa (Qv 8) (Qd (Qn 26)),Qa (Qv 9) (Qd (Qn 27))]
def Yna:MC:=.r0 Xyd
def Xye:List MO:=[Qa (Qv 40) (Qd (Qn 9)),Qa (Qv 39) (Qd (Qn 40))]
def Ynb:MC:=.r0 Xye
def Xyf:List MO:=[Qa (Qv 41) (Qd (Qn 5)),Qa (Qv 42) (Qd (Qn 8)),Qa (Qv 43) (MOp.bslice 1 [(Qr Go.IntKind.i32 0)] 2 [(0,(Qo (Qp (Qq (Qr Go.IntKind.i32 92))))),(1,(Qn 42))]),Qa (Qv 44) (MOp.callv (Qn 41) [(Qn 43)])]
def Ync:MC:=.r0 Xyf
def Xyg:List MO:=[Qa (Qv 46) (Qd (Qn 7)),Qa (Qv 47) (MOp.bslice 1 [(Qr Go.IntKind.i32 0)] 2 [(0,(Qo (Qp (Qq (Qr Go.IntKind.i32 34))))),(1,(Qo (Qp (Qq (Qr Go.IntKind.i32 92)))))]),Qa (Qv 48) (Qh 167 [(Qn 46),(Qn 47)]),Qa (Qv 45) (Qd (Qn 48))]
def Ynd:MC:=.r0 Xyg
def Xyh:List MO:=[Qa (Qv 49) (Qd (Qn 5)),Qa (Qv 50) (Qd (Qn 7)),Qa (Qv 51) (MOp.bslice 1 [(Qr Go.IntKind.i32 0)] 2 [(0,(Qo (Qp (Qq (Qr Go.IntKind.i32 92))))),(1,(Qn 50))]),Qa (Qv 52) (MOp.callv (Qn 49) [(Qn 51)])]
def Yne:MC:=.r0 Xyh
def Xyi:List MO:=[Qa (Qv 54) (Qd (Qn 7)),Qa (Qv 55) (Qh 168 [(Qn 54)]),Qa (Qv 53) (Qd (Qn 55))]
def Ynf:MC:=.r0 Xyi
def Xyj:List MO:=[Qa (Qv 56) (Qd (Qn 5)),Qa (Qv 57) (Qd (Qn 7)),Qa (Qv 58) (MOp.bslice 1 [(Qr Go.IntKind.i32 0)] 1 [(0,(Qn 57))]),Qa (Qv 59) (MOp.callv (Qn 56) [(Qn 58)])]
def Yng:MC:=.r0 Xyj
def Xyk:List MO:=[Qa (Qv 28) (Qd (Qn 5)),Qa (Qv 29) (Qd (Qn 7)),Qa (Qv 30) (Qe Qt Go.BinOp.shr (Qn 29) (Qo (Qp (Qq (Qr Go.IntKind.u64 4))))),Qa (Qv 31) (MOp.idxS (Qo (Qp (Qq (D.str (ByteArray.mk #[48,49,50,51,52,53,54,55,56,57,97,98,99,100,101,102]))))) (Qn 30)),Qa (Qv 32) (MOp.conv Go.IntKind.i32 (Qn 31)),Qa (Qv 33) (Qd (Qn 7)),Qa (Qv 34) (Qe Qt Go.BinOp.and (Qn 33) (Qo (Qp (Qq (Qr Go.IntKind.i32 15))))),Qa (Qv 35) (MOp.idxS (Qo (Qp (Qq (D.str (ByteArray.mk #[48,49,50,51,52,53,54,55,56,57,97,98,99,100,101,102]))))) (Qn 34)),Qa (Qv 36) (MOp.conv Go.IntKind.i32 (Qn 35)),Qa (Qv 37) (MOp.bslice 1 [(Qr Go.IntKind.i32 0)] 4 [(0,(Qo (Qp (Qq (Qr Go.IntKind.i32 92))))),(1,(Qo (Qp (Qq (Qr Go.IntKind.i32 120))))),(2,(Qn 32)),(3,(Qn 36))]),Qc (Qv 38) (MOp.callv (Qn 28) [(Qn 37)])]
def Ynh:MC:=.reg true Xyk
def Yni:MC:=.cond (Qn 45) Yne (.seq Ynf (.cond (Qn 53) Yng Ynh))
def Ynj:MC:=.seq Ynb (.cond (Qn 39) Ync (.seq Ynd Yni))
def Ynk:MC:=.seq Ym8 (.seq (.cond (Qn 20) .skip (MC.exit 0)) (.blk 1 (.seq Ym9 (.seq Yna (.blk 2 Ynj)))))
def Xyl:List MO:=[Qa (Qv 60) (Qd (Qn 5)),Qa (Qv 61) (MOp.bslice 1 [(Qr Go.IntKind.i32 0)] 1 [(0,(Qo (Qp (Qq (Qr Go.IntKind.i32 34)))))]),Qa (Qv 62) (MOp.callv (Qn 60) [(Qn 61)])]
def Ynl:MC:=.r0 Xyl
def Xym:List MO:=[Qa (Qv 63) (Qh 152 [(Qn 4)]),Qa (Qv 2) (Qd (Qn 63)),Qa (Qv 3) (Qd (Qo (Qp (Qq (Qr Qu 0)))))]
def Ynm:MC:=.r0 Xym
def Ynn:MC:=.seq (.seq Ym7 (.blk 0 (.loop Ynk))) (.seq Ynl (.seq Ynm .ret))
def Yno:MC:=.seq Wcb (.seq Wcc (.seq Ym6 Ynn))
def Xyn:MC:=.seq Wb8 (.seq (.seq Wb9 (.cond (Qn 12) (.seq Wca .ret) .skip)) Yno)
attribute [go_sem] Yc6 Yc7 Yc8 Yc9 Yda Xx9 Xya Xyb Xyc Xyd Xye Xyf Xyg Xyh Xyi Xyj Xyk Xyl Xym
theorem Wtq:KK QP 161 f161 [] Xyn [(RV.t 2),(RV.t 3)] 64:=by refine⟨func161,?_,?_,?_,?_⟩<;>kernel_rfl
theorem Wcd:Xaa QP 161=true:=by kernel_rfl
theorem Wce (h:GI QP gp [(RV.t 2),(RV.t 3)] res 64 Xyn args):Xao QP gp 161 args res:=Wtq.i Wcd h
def Ydb:List MO:=[Qa (Qv 2) (Qd (Qo (Qp (Qq (D.str (ByteArray.mk #[]))))))]
def Wcf:MC:=.r0 Ydb
def Ydc:List MO:=[Qa (Qv 3) (Qd (Qn 0))]
def Wcg:MC:=.r0 Ydc
def Ydd:List MO:=[Qa (Qv 2) (Qd (Qo (Qp (Qq (D.str (ByteArray.mk #[116,114,117,101]))))))]
def Wch:MC:=.r0 Ydd
def Yde:List MO:=[Qa (Qv 2) (Qd (Qo (Qp (Qq (D.str (ByteArray.mk #[102,97,108,115,101]))))))]
def Wci:MC:=.r0 Yde
def Xyo:MC:=.seq Wcf (.seq (.seq Wcg (.cond (Qn 3) (.seq Wch .ret) .skip)) (.seq Wci .ret))
attribute [go_sem] Ydb Ydc Ydd Yde
theorem Wtr:KK QP 163 f163 [] Xyo [(RV.t 2)] 4:=by refine⟨func163,?_,?_,?_,?_⟩<;>kernel_rfl
theorem Wcj:Xaa QP 163=true:=by kernel_rfl
theorem Wck (h:GI QP gp [(RV.t 2)] res 4 Xyo args):Xao QP gp 163 args res:=Wtr.i Wcj h
def Ydf:List MO:=[Qa (Qv 5) (Qd (Qn 0)),Qa (Qv 6) (Qk Qt (Qn 5)),Qa (Qv 7) (Qd (Qo (Qp (Qq (Qr Qu 0)))))]
def Wcl:MC:=.r0 Ydf
def Ydg:List MO:=[Qa (Qv 8) (Qe Qt Go.BinOp.lss (Qn 7) (Qn 6))]
def Wcm:MC:=.r0 Ydg
def Ydh:List MO:=[Qa (Qv 9) (Qj 1 (Qn 5) (Qn 7)),Qa (Qv 10) (Qf 1 false (Qn 9)),Qa (Qv 4) (Qd (Qn 10))]
def Wcn:MC:=.r0 Ydh
def Ydi:List MO:=[Qa (Qv 11) (Qd (Qn 4)),Qa (Qv 12) (Qh 165 [(Qn 1),(Qn 11)])]
def Wco:MC:=.r0 Ydi
def Ydj:List MO:=[Qa (Qv 13) (Qe Qt Go.BinOp.add (Qn 7) (Qo (Qp (Qq (Qr Qu 1))))),Qa (Qv 7) (Qd (Qn 13))]
def Wcp:MC:=.r0 Ydj
def Ynp:MC:=.seq Wcm (.seq (.cond (Qn 8) .skip (MC.exit 0)) (.seq (.blk 1 (.seq Wcn Wco)) Wcp))
def Xyp:MC:=.seq Wcl (.blk 0 (.loop Ynp))
attribute [go_sem] Ydf Ydg Ydh Ydi Ydj
theorem Wts:KK QP 164 f164 [] Xyp [] 14:=by refine⟨func164,?_,?_,?_,?_⟩<;>kernel_rfl
theorem Xjz:Xaa QP 164=true:=by kernel_rfl
theorem Ynq (h:GT QP gp [] pre R 14 Xyp args):Tri QP gp 164 args pre R:=Wts.t h
def Ydk:List MO:=[Qa (Qv 4) (Qd (Qo (Qp (Qq (Qr Qu 0))))),Qa (Qv 5) (Qd (Qo (Qp (Qq D.nilI))))]
def Wcq:MC:=.r0 Ydk
def Ydl:List MO:=[Qa (Qv 7) (Qd (Qn 0)),Qa (Qv 8) (Qh 158 [(Qn 7)])]
def Wcr:MC:=.r0 Ydl
def Ydm:List MO:=[Qa (Qv 9) (Qd (Qn 0)),Qa (Qv 10) (MOp.nck (Qn 9)),Qa (Qv 11) (Qg 1 (Qn 10)),Qa (Qv 12) (Qf 1 false (Qn 11)),Qa (Qv 13) (Qk Qt (Qn 12)),Qa (Qv 6) (Qd (Qn 13))]
def Wcs:MC:=.r0 Ydm
def Ydn:List MO:=[Qa (Qv 14) (Qd (Qn 0)),Qa (Qv 15) (Qd (Qn 0)),Qa (Qv 16) (MOp.nck (Qn 15)),Qa (Qv 17) (Qg 1 (Qn 16)),Qa (Qv 18) (Qf 1 false (Qn 17)),Qa (Qv 19) (Qd (Qn 1)),Qa (Qv 20) (Qh 169 [(Qn 18),(Qn 19)]),Qa (Qv 21) (MOp.nck (Qn 14)),Qa (Qv 22) (Qg 1 (Qn 21)),Qa none (Ql 1 (Qn 22) (Qn 20))]
def Wct:MC:=.r0 Ydn
def Ydo:List MO:=[Qa (Qv 23) (Qd (Qn 0)),Qa (Qv 24) (MOp.nck (Qn 23)),Qa (Qv 25) (Qg 1 (Qn 24)),Qa (Qv 26) (Qf 1 false (Qn 25)),Qa (Qv 27) (Qk Qt (Qn 26)),Qa (Qv 28) (Qd (Qn 6)),Qa (Qv 29) (Qe Qt Go.BinOp.sub (Qn 27) (Qn 28)),Qa (Qv 4) (Qd (Qn 29)),Qa (Qv 5) (Qd (Qo (Qp (Qq D.nilI))))]
def Wcu:MC:=.r0 Ydo
def Wcv:MC:=.seq Wcr (.seq Wcs (.seq Wct (.seq Wcu .ret)))
def Xyq:MC:=.seq Wcq Wcv
attribute [go_sem] Ydk Ydl Ydm Ydn Ydo
theorem Wtt:KK QP 165 f165 [] Xyq [(RV.t 4),(RV.t 5)] 30:=by refine⟨func165,?_,?_,?_,?_⟩<;>kernel_rfl
theorem Wcw:Xaa QP 165=true:=by kernel_rfl
theorem Ynr (h:GT QP gp [(RV.t 4),(RV.t 5)] pre R 30 Xyq args):Tri QP gp 165 args pre R:=Wtt.t h
def Ydp:List MO:=[Qa (Qv 0) (Qd (Qo (Qp (Qq (D.raw (Go.Value.map none))))))]
def Wcx:MC:=.r0 Ydp
def Ydq:List MO:=[Qa (Qv 1) MOp.mkM,Qa none (MOp.mupd false [Qt] (Qn 1) (Qo (Qp (Qq (Qr Go.IntKind.i32 10)))) (Qo (Qp (Qq (Qr Go.IntKind.i32 110))))),Qa none (MOp.mupd false [Qt] (Qn 1) (Qo (Qp (Qq (Qr Go.IntKind.i32 9)))) (Qo (Qp (Qq (Qr Go.IntKind.i32 116))))),Qa none (MOp.mupd false [Qt] (Qn 1) (Qo (Qp (Qq (Qr Go.IntKind.i32 13)))) (Qo (Qp (Qq (Qr Go.IntKind.i32 114))))),Qa (Qv 2) (Qd (Qn 1)),Qa (Qv 0) (Qd (Qn 2))]
def Wcy:MC:=.r0 Ydq
def Ydr:MC:=.seq Wcx (.seq Wcy .ret)
attribute [go_sem] Ydp Ydq
theorem Wtu:KK QP 166 f166 [] Ydr [(RV.t 0)] 3:=by refine⟨func166,?_,?_,?_,?_⟩<;>kernel_rfl
theorem Xp4:Xaa QP 166=true:=by kernel_rfl
theorem Yns (h:GT QP gp [(RV.t 0)] pre R 3 Ydr args):Tri QP gp 166 args pre R:=Wtu.t h
def Yds:List MO:=[Qa (Qv 4) (Qd (Qo (Qp (Qq (Qs false)))))]
def Wcz:MC:=.r0 Yds
def Ydt:List MO:=[Qa (Qv 7) (Qd (Qn 1)),Qa (Qv 8) (Qk Qt (Qn 7)),Qa (Qv 9) (Qd (Qo (Qp (Qq (Qr Qu 0)))))]
def Wc0:MC:=.r0 Ydt
def Ydu:List MO:=[Qa (Qv 10) (Qe Qt Go.BinOp.lss (Qn 9) (Qn 8))]
def Wc1:MC:=.r0 Ydu
def Ydv:List MO:=[Qa (Qv 11) (Qj 1 (Qn 7) (Qn 9)),Qa (Qv 12) (Qf 1 false (Qn 11)),Qa (Qv 6) (Qd (Qn 12))]
def Wc2:MC:=.r0 Ydv
def Ydw:List MO:=[Qa (Qv 13) (Qd (Qn 0)),Qa (Qv 14) (Qd (Qn 6)),Qa (Qv 15) (Qe Qt Go.BinOp.eql (Qn 13) (Qn 14))]
def Wc3:MC:=.r0 Ydw
def Ydx:List MO:=[Qa (Qv 4) (Qd (Qo (Qp (Qq (Qs true)))))]
def Wc4:MC:=.r0 Ydx
def Xyr:List MO:=[Qa (Qv 16) (Qe Qt Go.BinOp.add (Qn 9) (Qo (Qp (Qq (Qr Qu 1))))),Qa (Qv 9) (Qd (Qn 16))]
def Ynt:MC:=.r0 Xyr
def Ynu:MC:=.seq (.blk 1 (.seq Wc2 (.seq Wc3 (.cond (Qn 15) (.seq Wc4 .ret) .skip)))) Ynt
def Xys:List MO:=[Qa (Qv 4) (Qd (Qo (Qp (Qq (Qs false)))))]
def Ynv:MC:=.r0 Xys
def Ynw:MC:=.seq (.seq Wc0 (.blk 0 (.loop (.seq Wc1 (.seq (.cond (Qn 10) .skip (MC.exit 0)) Ynu))))) (.seq Ynv .ret)
def Xyt:MC:=.seq Wcz Ynw
attribute [go_sem] Yds Ydt Ydu Ydv Ydw Ydx Xyr Xys
theorem Wtv:KK QP 167 f167 [] Xyt [(RV.t 4)] 17:=by refine⟨func167,?_,?_,?_,?_⟩<;>kernel_rfl
theorem Wc5:Xaa QP 167=true:=by kernel_rfl
theorem Wc6 (h:GI QP gp [(RV.t 4)] res 17 Xyt args):Xao QP gp 167 args res:=Wtv.i Wc5 h
def Ydy:List MO:=[Qa (Qv 2) (Qd (Qo (Qp (Qq (Qs false)))))]
def Wc7:MC:=.r0 Ydy
def Ydz:List MO:=[Qa (Qv 3) (Qd (Qn 0)),Qa (Qv 4) (Qe Qt Go.BinOp.geq (Qn 3) (Qo (Qp (Qq (Qr Go.IntKind.i32 32))))),Qa (Qv 5) (Qd (Qn 4)),Qb 5 true (Qv 6),Qa (Qv 6) (Qd (Qn 0)),Qb 5 true (Qv 7),Qa (Qv 7) (Qe Qt Go.BinOp.neq (Qn 6) (Qo (Qp (Qq (Qr Go.IntKind.i32 127))))),Qa (Qv 8) (Qm (Qn 5) (Qn 7) (Qo (Qp (Qq (Qs false))))),Qa (Qv 2) (Qd (Qn 8))]
def Wc8:MC:=.r0 Ydz
def Yd0:MC:=.seq Wc7 (.seq Wc8 .ret)
attribute [go_sem] Ydy Ydz
theorem Wtw:KK QP 168 f168 [] Yd0 [(RV.t 2)] 9:=by refine⟨func168,?_,?_,?_,?_⟩<;>kernel_rfl
theorem Wc9:Xaa QP 168=true:=by kernel_rfl
theorem Wda (h:GI QP gp [(RV.t 2)] res 9 Yd0 args):Xao QP gp 168 args res:=Wtw.i Wc9 h
def Yd1:List MO:=[Qa (Qv 4) (Qd (Qo (Qp A.nil)))]
def Wdb:MC:=.r0 Yd1
def Yd2:List MO:=[Qa (Qv 5) (Qd (Qn 1)),Qa (Qv 6) (MOp.conv Go.IntKind.u32 (Qn 5)),Qa (Qv 7) (Qe Qt Go.BinOp.leq (Qn 6) (Qo (Qp (Qq (Qr Go.IntKind.u32 127)))))]
def Wdc:MC:=.r0 Yd2
def Yd3:List MO:=[Qa (Qv 8) (Qd (Qn 0)),Qa (Qv 9) (Qd (Qn 1)),Qa (Qv 10) (MOp.conv Go.IntKind.u8 (Qn 9)),Qa (Qv 11) (MOp.bslice 1 [(Qr Go.IntKind.u8 0)] 1 [(0,(Qn 10))]),Qa (Qv 12) (MOp.app 5 1 1 (Qn 8) (Qn 11)),Qa (Qv 4) (Qd (Qn 12))]
def Wdd:MC:=.r0 Yd3
def Yd4:List MO:=[Qa (Qv 13) (Qd (Qn 0)),Qa (Qv 14) (Qd (Qn 1)),Qa (Qv 15) (Qh 170 [(Qn 13),(Qn 14)]),Qa (Qv 4) (Qd (Qn 15))]
def Wde:MC:=.r0 Yd4
def Xyu:MC:=.seq Wdb (.seq (.seq Wdc (.cond (Qn 7) (.seq Wdd .ret) .skip)) (.seq Wde .ret))
attribute [go_sem] Yd1 Yd2 Yd3 Yd4
theorem Wtx:KK QP 169 f169 [] Xyu [(RV.t 4)] 16:=by refine⟨func169,?_,?_,?_,?_⟩<;>kernel_rfl
theorem W0k:Xaa QP 169=true:=by kernel_rfl
theorem Ynx (h:GT QP gp [(RV.t 4)] pre R 16 Xyu args):Tri QP gp 169 args pre R:=Wtx.t h
def Yd5:List MO:=[Qa (Qv 4) (Qd (Qo (Qp A.nil)))]
def Wdf:MC:=.r0 Yd5
def Yd6:List MO:=[Qa (Qv 6) (Qd (Qn 1)),Qa (Qv 7) (MOp.conv Go.IntKind.u32 (Qn 6)),Qa (Qv 5) (Qd (Qn 7))]
def Wdg:MC:=.r0 Yd6
def Yd7:List MO:=[Qa (Qv 12) (Qd (Qn 5)),Qa (Qv 13) (Qe Qt Go.BinOp.leq (Qn 12) (Qo (Qp (Qq (Qr Go.IntKind.u32 2047))))),Qa (Qv 11) (Qd (Qn 13))]
def Wdh:MC:=.r0 Yd7
def Yd8:List MO:=[Qa (Qv 14) (Qd (Qn 0)),Qa (Qv 15) (Qd (Qn 1)),Qa (Qv 16) (Qe Qt Go.BinOp.shr (Qn 15) (Qo (Qp (Qq (Qr Go.IntKind.u64 6))))),Qa (Qv 17) (MOp.conv Go.IntKind.u8 (Qn 16)),Qa (Qv 18) (Qe Qt Go.BinOp.or (Qo (Qp (Qq (Qr Go.IntKind.u8 192)))) (Qn 17)),Qa (Qv 19) (Qd (Qn 1)),Qa (Qv 20) (MOp.conv Go.IntKind.u8 (Qn 19)),Qa (Qv 21) (Qe Qt Go.BinOp.and (Qn 20) (Qo (Qp (Qq (Qr Go.IntKind.u8 63))))),Qa (Qv 22) (Qe Qt Go.BinOp.or (Qo (Qp (Qq (Qr Go.IntKind.u8 128)))) (Qn 21)),Qa (Qv 23) (MOp.bslice 1 [(Qr Go.IntKind.u8 0)] 2 [(0,(Qn 18)),(1,(Qn 22))]),Qa (Qv 24) (MOp.app 5 1 1 (Qn 14) (Qn 23)),Qa (Qv 4) (Qd (Qn 24))]
def Wdi:MC:=.r0 Yd8
def Yd9:List MO:=[Qa (Qv 26) (Qd (Qn 5)),Qa (Qv 27) (Qe Qt Go.BinOp.lss (Qn 26) (Qo (Qp (Qq (Qr Go.IntKind.u32 55296))))),Qa (Qv 25) (Qd (Qn 27))]
def Wdj:MC:=.r0 Yd9
def Yea:List MO:=[Qa (Qv 28) (Qd (Qn 5)),Qa (Qv 29) (Qe Qt Go.BinOp.lss (Qo (Qp (Qq (Qr Go.IntKind.u32 57343)))) (Qn 28)),Qa (Qv 30) (Qd (Qn 29)),Qb 30 true (Qv 31),Qa (Qv 31) (Qd (Qn 5)),Qb 30 true (Qv 32),Qa (Qv 32) (Qe Qt Go.BinOp.leq (Qn 31) (Qo (Qp (Qq (Qr Go.IntKind.u32 65535))))),Qa (Qv 33) (Qm (Qn 30) (Qn 32) (Qo (Qp (Qq (Qs false))))),Qa (Qv 25) (Qd (Qn 33))]
def Wdk:MC:=.r0 Yea
def Xyv:List MO:=[Qa (Qv 34) (Qd (Qn 0)),Qa (Qv 35) (Qd (Qn 1)),Qa (Qv 36) (Qe Qt Go.BinOp.shr (Qn 35) (Qo (Qp (Qq (Qr Go.IntKind.u64 12))))),Qa (Qv 37) (MOp.conv Go.IntKind.u8 (Qn 36)),Qa (Qv 38) (Qe Qt Go.BinOp.or (Qo (Qp (Qq (Qr Go.IntKind.u8 224)))) (Qn 37)),Qa (Qv 39) (Qd (Qn 1)),Qa (Qv 40) (Qe Qt Go.BinOp.shr (Qn 39) (Qo (Qp (Qq (Qr Go.IntKind.u64 6))))),Qa (Qv 41) (MOp.conv Go.IntKind.u8 (Qn 40)),Qa (Qv 42) (Qe Qt Go.BinOp.and (Qn 41) (Qo (Qp (Qq (Qr Go.IntKind.u8 63))))),Qa (Qv 43) (Qe Qt Go.BinOp.or (Qo (Qp (Qq (Qr Go.IntKind.u8 128)))) (Qn 42)),Qa (Qv 44) (Qd (Qn 1)),Qa (Qv 45) (MOp.conv Go.IntKind.u8 (Qn 44)),Qa (Qv 46) (Qe Qt Go.BinOp.and (Qn 45) (Qo (Qp (Qq (Qr Go.IntKind.u8 63))))),Qa (Qv 47) (Qe Qt Go.BinOp.or (Qo (Qp (Qq (Qr Go.IntKind.u8 128)))) (Qn 46)),Qa (Qv 48) (MOp.bslice 1 [(Qr Go.IntKind.u8 0)] 3 [(0,(Qn 38)),(1,(Qn 43)),(2,(Qn 47))]),Qa (Qv 49) (MOp.app 5 1 1 (Qn 34) (Qn 48)),Qa (Qv 4) (Qd (Qn 49))]
def Yny:MC:=.r0 Xyv
def Xyw:List MO:=[Qa (Qv 51) (Qd (Qn 5)),Qa (Qv 52) (Qe Qt Go.BinOp.gtr (Qn 51) (Qo (Qp (Qq (Qr Go.IntKind.u32 65535))))),Qa (Qv 53) (Qd (Qn 52)),Qb 53 true (Qv 54),Qa (Qv 54) (Qd (Qn 5)),Qb 53 true (Qv 55),Qa (Qv 55) (Qe Qt Go.BinOp.leq (Qn 54) (Qo (Qp (Qq (Qr Go.IntKind.u32 1114111))))),Qa (Qv 56) (Qm (Qn 53) (Qn 55) (Qo (Qp (Qq (Qs false))))),Qa (Qv 50) (Qd (Qn 56))]
def Ynz:MC:=.r0 Xyw
def Xyx:List MO:=[Qa (Qv 57) (Qd (Qn 0)),Qa (Qv 58) (Qd (Qn 1)),Qa (Qv 59) (Qe Qt Go.BinOp.shr (Qn 58) (Qo (Qp (Qq (Qr Go.IntKind.u64 18))))),Qa (Qv 60) (MOp.conv Go.IntKind.u8 (Qn 59)),Qa (Qv 61) (Qe Qt Go.BinOp.or (Qo (Qp (Qq (Qr Go.IntKind.u8 240)))) (Qn 60)),Qa (Qv 62) (Qd (Qn 1)),Qa (Qv 63) (Qe Qt Go.BinOp.shr (Qn 62) (Qo (Qp (Qq (Qr Go.IntKind.u64 12))))),Qa (Qv 64) (MOp.conv Go.IntKind.u8 (Qn 63)),Qa (Qv 65) (Qe Qt Go.BinOp.and (Qn 64) (Qo (Qp (Qq (Qr Go.IntKind.u8 63))))),Qa (Qv 66) (Qe Qt Go.BinOp.or (Qo (Qp (Qq (Qr Go.IntKind.u8 128)))) (Qn 65)),Qa (Qv 67) (Qd (Qn 1)),Qa (Qv 68) (Qe Qt Go.BinOp.shr (Qn 67) (Qo (Qp (Qq (Qr Go.IntKind.u64 6))))),Qa (Qv 69) (MOp.conv Go.IntKind.u8 (Qn 68)),Qa (Qv 70) (Qe Qt Go.BinOp.and (Qn 69) (Qo (Qp (Qq (Qr Go.IntKind.u8 63))))),Qa (Qv 71) (Qe Qt Go.BinOp.or (Qo (Qp (Qq (Qr Go.IntKind.u8 128)))) (Qn 70)),Qa (Qv 72) (Qd (Qn 1)),Qa (Qv 73) (MOp.conv Go.IntKind.u8 (Qn 72)),Qa (Qv 74) (Qe Qt Go.BinOp.and (Qn 73) (Qo (Qp (Qq (Qr Go.IntKind.u8 63))))),Qa (Qv 75) (Qe Qt Go.BinOp.or (Qo (Qp (Qq (Qr Go.IntKind.u8 128)))) (Qn 74)),Qa (Qv 76) (MOp.bslice 1 [(Qr Go.IntKind.u8 0)] 4 [(0,(Qn 61)),(1,(Qn 66)),(2,(Qn 71)),(3,(Qn 75))]),Qa (Qv 77) (MOp.app 5 1 1 (Qn 57) (Qn 76)),Qa (Qv 4) (Qd (Qn 77))]
def Yn0:MC:=.r0 Xyx
def Xyy:List MO:=[Qa (Qv 8) (Qd (Qn 0)),Qa (Qv 9) (MOp.bslice 1 [(Qr Go.IntKind.u8 0)] 3 [(0,(Qo (Qp (Qq (Qr Go.IntKind.u8 239))))),(1,(Qo (Qp (Qq (Qr Go.IntKind.u8 191))))),(2,(Qo (Qp (Qq (Qr Go.IntKind.u8 189)))))]),Qa (Qv 10) (MOp.app 5 1 1 (Qn 8) (Qn 9)),Qa (Qv 4) (Qd (Qn 10))]
def Yn1:MC:=.r0 Xyy
def Yn2:MC:=.cond (Qn 25) (.seq Yny .ret) (.seq Ynz (.cond (Qn 50) (.seq Yn0 .ret) (.seq Yn1 .ret)))
def Yn3:MC:=.cond (Qn 11) (.seq Wdi .ret) (.seq (.seq Wdj (.cond (Qn 25) .skip Wdk)) Yn2)
def Xyz:MC:=.seq Wdf (.seq Wdg (.blk 0 (.seq Wdh Yn3)))
attribute [go_sem] Yd5 Yd6 Yd7 Yd8 Yd9 Yea Xyv Xyw Xyx Xyy
theorem Wty:KK QP 170 f170 [] Xyz [(RV.t 4)] 78:=by refine⟨func170,?_,?_,?_,?_⟩<;>kernel_rfl
theorem Wdl:Xaa QP 170=true:=by kernel_rfl
theorem Yn4 (h:GT QP gp [(RV.t 4)] pre R 78 Xyz args):Tri QP gp 170 args pre R:=Wty.t h
-- f171: no body
-- f172: no body
-- f173: no body
-- f174: no body
-- f175: no body
-- f176: no body
-- f177: no body
-- f178: no body
-- f179: no body
-- f180: no body
-- f181: no body
-- f182: no body
-- f183: no body
-- f184: no body
-- f185: no body
-- f186: no body
-- f187: no body
-- f188: no body
end Go.Fw.L07
