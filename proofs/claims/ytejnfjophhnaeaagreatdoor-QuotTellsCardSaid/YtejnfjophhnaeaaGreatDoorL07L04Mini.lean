/- Small codes. -/
import Derived.Test.YtejnfjophhnaeaaGreatDoorFd
import Derived.Test.YtejnfjophhnaeaaGreatDoorProg
set_option linter.all false
namespace Go.Fw.L07
open Go Go.Fw
open Go.Proofs.Tryz renaming prog->QP
open Go.Proofs.Tryz (f100 f101 f126 f128 f129 f130 f131 f146 f148 f149 f160 f162 f163 f164 f165 f166 f167 f177 f178 f180 f187 f98 func100 func101 func126 func128 func129 func130 func131 func146 func148 func149 func160 func162 func163 func164 func165 func166 func167 func177 func178 func180 func187 func98)
open Go.Fw.MO renaming op->Qa,chk->Qb,opx->Qc
open Go.Fw.MOp renaming mv->Qd,bin->Qe,load->Qf,fad->Qg,call->Qh,ext->Qi,iad->Qj,len->Qk,store->Ql,pick->Qm
open Go.Fw.Opd renaming t->Qn,c->Qo
open Go.Fw.V renaming one->Qp
open Go.Fw.A renaming d->Qq
open Go.Fw.D renaming int->Qr,bool->Qs
open Go.Fw.Leaf renaming i->Qt
open Go.IntKind renaming i64->Qu
open Option renaming some->Qv
variable {gp:Xal} {args:List V} {res:V} {pre:List Ch} {R:V->List Ch->Prop}
def Yws:List MO:=[Qa (Qv 1) (MOp.ibox (Qn 0)),Qa (Qv 2) (Qd (Qo (Qp (Qq (Qs false)))))]
def Wu7:MC:=.r0 Yws
def Ywt:List MO:=[Qa (Qv 3) (Qg 0 (Qn 1)),Qa (Qv 4) (Qf 1 false (Qn 3))]
def Wu8:MC:=.r0 Ywt
def Ywu:List MO:=[Qa (Qv 6) (Qe Qt Go.BinOp.eql (Qn 4) (Qo (Qp (Qq (Qr Qu 0))))),Qa (Qv 5) (Qd (Qn 6))]
def Wu9:MC:=.r0 Ywu
def Ywv:List MO:=[Qa (Qv 7) (Qg 1 (Qn 1)),Qa (Qv 8) (Qf 1 false (Qn 7)),Qa (Qv 9) (Qe Qt Go.BinOp.eql (Qn 8) (Qo (Qp (Qq (Qr Qu 0))))),Qa (Qv 10) (Qd (Qn 9)),Qb 10 true (Qv 11),Qa (Qv 11) (Qg 2 (Qn 1)),Qb 10 true (Qv 12),Qa (Qv 12) (Qf 1 false (Qn 11)),Qb 10 true (Qv 13),Qa (Qv 13) (Qe Leaf.s Go.BinOp.eql (Qn 12) (Qo (Qp (Qq (D.str (ByteArray.mk #[])))))),Qa (Qv 14) (Qm (Qn 10) (Qn 13) (Qo (Qp (Qq (Qs false))))),Qa (Qv 2) (Qd (Qn 14))]
def Wva:MC:=.r0 Ywv
def Yww:List MO:=[Qa (Qv 16) (Qe Qt Go.BinOp.eql (Qn 4) (Qo (Qp (Qq (Qr Qu 1))))),Qa (Qv 15) (Qd (Qn 16))]
def Wvb:MC:=.r0 Yww
def Ywx:List MO:=[Qa (Qv 17) (Qg 1 (Qn 1)),Qa (Qv 18) (Qf 1 false (Qn 17)),Qa (Qv 19) (Qe Qt Go.BinOp.eql (Qn 18) (Qo (Qp (Qq (Qr Qu 0))))),Qa (Qv 20) (Qd (Qn 19)),Qb 20 false (Qv 21),Qa (Qv 21) (Qg 1 (Qn 1)),Qb 20 false (Qv 22),Qa (Qv 22) (Qf 1 false (Qn 21)),Qb 20 false (Qv 23),Qa (Qv 23) (Qe Qt Go.BinOp.eql (Qn 22) (Qo (Qp (Qq (Qr Qu 1))))),Qa (Qv 24) (Qm (Qn 20) (Qo (Qp (Qq (Qs true)))) (Qn 23)),Qa (Qv 25) (Qd (Qn 24)),Qb 25 true (Qv 26),Qa (Qv 26) (Qg 2 (Qn 1)),Qb 25 true (Qv 27),Qa (Qv 27) (Qf 1 false (Qn 26)),Qb 25 true (Qv 28),Qa (Qv 28) (Qe Leaf.s Go.BinOp.eql (Qn 27) (Qo (Qp (Qq (D.str (ByteArray.mk #[])))))),Qa (Qv 29) (Qm (Qn 25) (Qn 28) (Qo (Qp (Qq (Qs false))))),Qa (Qv 2) (Qd (Qn 29))]
def Wvc:MC:=.r0 Ywx
def Yau:List MO:=[Qa (Qv 31) (Qe Qt Go.BinOp.eql (Qn 4) (Qo (Qp (Qq (Qr Qu 2))))),Qa (Qv 30) (Qd (Qn 31))]
def Wcl:MC:=.r0 Yau
def Yav:List MO:=[Qa (Qv 32) (Qg 1 (Qn 1)),Qa (Qv 33) (Qf 1 false (Qn 32)),Qa (Qv 34) (Qe Qt Go.BinOp.geq (Qn 33) (Qo (Qp (Qq (Qr Qu (-999999999999999)))))),Qa (Qv 35) (Qd (Qn 34)),Qb 35 true (Qv 36),Qa (Qv 36) (Qg 1 (Qn 1)),Qb 35 true (Qv 37),Qa (Qv 37) (Qf 1 false (Qn 36)),Qb 35 true (Qv 38),Qa (Qv 38) (Qe Qt Go.BinOp.leq (Qn 37) (Qo (Qp (Qq (Qr Qu 999999999999999))))),Qa (Qv 39) (Qm (Qn 35) (Qn 38) (Qo (Qp (Qq (Qs false))))),Qa (Qv 40) (Qd (Qn 39)),Qb 40 true (Qv 41),Qa (Qv 41) (Qg 2 (Qn 1)),Qb 40 true (Qv 42),Qa (Qv 42) (Qf 1 false (Qn 41)),Qb 40 true (Qv 43),Qa (Qv 43) (Qe Leaf.s Go.BinOp.eql (Qn 42) (Qo (Qp (Qq (D.str (ByteArray.mk #[])))))),Qa (Qv 44) (Qm (Qn 40) (Qn 43) (Qo (Qp (Qq (Qs false))))),Qa (Qv 2) (Qd (Qn 44))]
def Wcm:MC:=.r0 Yav
def Yaw:List MO:=[Qa (Qv 46) (Qe Qt Go.BinOp.eql (Qn 4) (Qo (Qp (Qq (Qr Qu 3))))),Qa (Qv 45) (Qd (Qn 46))]
def Wcn:MC:=.r0 Yaw
def Yax:List MO:=[Qa (Qv 47) (Qg 1 (Qn 1)),Qa (Qv 48) (Qf 1 false (Qn 47)),Qa (Qv 49) (Qe Qt Go.BinOp.eql (Qn 48) (Qo (Qp (Qq (Qr Qu 0))))),Qa (Qv 50) (Qd (Qn 49)),Qb 50 true (Qv 51),Qa (Qv 51) (Qg 2 (Qn 1)),Qb 50 true (Qv 52),Qa (Qv 52) (Qf 1 false (Qn 51)),Qb 50 true (Qv 53),Qa (Qv 53) (Qh 126 [(Qn 52)]),Qa (Qv 54) (Qm (Qn 50) (Qn 53) (Qo (Qp (Qq (Qs false))))),Qa (Qv 2) (Qd (Qn 54))]
def Wco:MC:=.r0 Yax
def Wcp:MC:=.seq Wcl (.cond (Qn 30) (.seq Wcm .ret) (.seq Wcn (.cond (Qn 45) (.seq Wco .ret) .skip)))
def Wcq:MC:=.cond (Qn 5) (.seq Wva .ret) (.seq Wvb (.cond (Qn 15) (.seq Wvc .ret) Wcp))
def Yay:List MO:=[Qa (Qv 2) (Qd (Qo (Qp (Qq (Qs false)))))]
def Wcr:MC:=.r0 Yay
def Wcs:MC:=.seq (.seq Wu8 (.blk 0 (.seq Wu9 Wcq))) (.seq Wcr .ret)
def Yaz:MC:=.seq Wu7 Wcs
attribute [go_sem] Yws Ywt Ywu Ywv Yww Ywx Yau Yav Yaw Yax Yay
theorem W5i:KK QP 98 f98 [1] Yaz [(RV.t 2)] 55:=by refine⟨func98,?_,?_,?_,?_⟩<;>kernel_rfl
theorem Wvd:Xaa QP 98=true:=by kernel_rfl
theorem Wve (h:GI QP gp [(RV.t 2)] res 55 Yaz args):Xak QP gp 98 args res:=W5i.i Wvd h
def Ya0:List MO:=[Qa (Qv 1) (MOp.ibox (Qn 0)),Qa (Qv 2) (Qd (Qo (Qp (Qq (D.str (ByteArray.mk #[])))))),Qa (Qv 3) (Qd (Qo (Qp (Qq (Qr Qu 0)))))]
def Wct:MC:=.r0 Ya0
def Ya1:List MO:=[Qa (Qv 6) (Qf 3 true (Qn 1)),Qa (Qv 7) (Qh 127 [(Qn 6)]),Qa (Qv 8) (MOp.not (Qn 7))]
def Wcu:MC:=.r0 Ya1
def Ya2:List MO:=[Qa (Qv 2) (Qd (Qo (Qp (Qq (D.str (ByteArray.mk #[])))))),Qa (Qv 3) (Qd (Qo (Qp (Qq (Qr Qu 60)))))]
def Wcv:MC:=.r0 Ya2
def Ya3:List MO:=[Qa (Qv 9) (Qf 3 true (Qn 1)),Qa (Qv 10) (MOp.build [(Qr Qu 0),(Qr Qu 0),(D.str (ByteArray.mk #[]))] [(0,(3,(Qn 9)))]),Qa (Qv 4) (MOp.alloc [(Qr Qu 0),(Qr Qu 0),(D.str (ByteArray.mk #[]))]),Qa none (Ql 3 (Qn 4) (Qn 10))]
def Wcw:MC:=.r0 Ya3
def Ya4:List MO:=[Qa (Qv 11) (Qf 3 true (Qn 4)),Qa (Qv 12) (MOp.mkMv (Go.Fn.func 128) (Qn 11)),Qa (Qv 13) (Qf 3 true (Qn 4)),Qa (Qv 14) (MOp.mkMv (Go.Fn.func 129) (Qn 13)),Qa (Qv 15) (Qf 3 true (Qn 4)),Qa (Qv 16) (MOp.mkMv (Go.Fn.func 130) (Qn 15)),Qa (Qv 17) (Qf 3 true (Qn 4)),Qa (Qv 18) (MOp.mkMv (Go.Fn.func 131) (Qn 17)),Qa (Qv 19) (MOp.build [D.nilF,D.nilF,D.nilF,D.nilF] [(0,(1,(Qn 12))),(1,(1,(Qn 14))),(2,(1,(Qn 16))),(3,(1,(Qn 18)))]),Qa (Qv 5) (MOp.alloc [D.nilF,D.nilF,D.nilF,D.nilF]),Qa none (Ql 4 (Qn 5) (Qn 19))]
def Wcx:MC:=.r0 Ya4
def Xxo:List MO:=[Qa (Qv 20) (Qg 0 (Qn 1)),Qa (Qv 21) (Qf 1 false (Qn 20)),Qa (Qv 22) (MOp.iadA 4 1 (Qn 5) (Qn 21)),Qa (Qv 23) (Qf 1 false (Qn 22)),Qa (Qv 24) (MOp.callv (Qn 23) []),Qa (Qv 2) (Qd (Qn 24)),Qa (Qv 3) (Qd (Qo (Qp (Qq (Qr Qu 0)))))]
def Yon:MC:=.r0 Xxo
def Yoo:MC:=.seq (.seq Wcu (.cond (Qn 8) (.seq Wcv .ret) .skip)) (.seq Wcw (.seq Wcx (.seq Yon .ret)))
def Xxp:MC:=.seq Wct Yoo
attribute [go_sem] Ya0 Ya1 Ya2 Ya3 Ya4 Xxo
theorem Wvf:KK QP 100 f100 [1] Xxp [(RV.t 2),(RV.t 3)] 25:=by refine⟨func100,?_,?_,?_,?_⟩<;>kernel_rfl
theorem Wcy:Xaa QP 100=true:=by kernel_rfl
theorem Wcz (h:GI QP gp [(RV.t 2),(RV.t 3)] res 25 Xxp args):Xak QP gp 100 args res:=Wvf.i Wcy h
def Ya5:List MO:=[Qa (Qv 4) (Qd (Qo (Qp (Qq (Qr Qu 0))))),Qa (Qv 5) (Qd (Qo (Qp (Qq D.nilI))))]
def Wc0:MC:=.r0 Ya5
def Ya6:List MO:=[Qa (Qv 6) (Qd (Qn 0)),Qa (Qv 7) (Qh 132 [(Qn 6)])]
def Wc1:MC:=.r0 Ya6
def Ya7:List MO:=[Qa (Qv 8) (Qd (Qn 0)),Qa (Qv 9) (Qd (Qn 0)),Qa (Qv 10) (MOp.nck (Qn 9)),Qa (Qv 11) (Qg 1 (Qn 10)),Qa (Qv 12) (Qf 1 false (Qn 11)),Qa (Qv 13) (Qd (Qn 1)),Qa (Qv 14) (MOp.appS 5 (Qn 12) (Qn 13)),Qa (Qv 15) (MOp.nck (Qn 8)),Qa (Qv 16) (Qg 1 (Qn 15)),Qa none (Ql 1 (Qn 16) (Qn 14))]
def Wc2:MC:=.r0 Ya7
def Ya8:List MO:=[Qa (Qv 17) (Qd (Qn 1)),Qa (Qv 18) (Qk Leaf.s (Qn 17)),Qa (Qv 4) (Qd (Qn 18)),Qa (Qv 5) (Qd (Qo (Qp (Qq D.nilI))))]
def Wc3:MC:=.r0 Ya8
def Ya9:MC:=.seq Wc0 (.seq Wc1 (.seq Wc2 (.seq Wc3 .ret)))
attribute [go_sem] Ya5 Ya6 Ya7 Ya8
theorem Wvg:KK QP 101 f101 [] Ya9 [(RV.t 4),(RV.t 5)] 19:=by refine⟨func101,?_,?_,?_,?_⟩<;>kernel_rfl
theorem Yba:Xaa QP 101=true:=by kernel_rfl
theorem Yop (h:GT QP gp [(RV.t 4),(RV.t 5)] pre R 19 Ya9 args):Tri QP gp 101 args pre R:=Wvg.t h
-- f102: trC none
def Ybb:List MO:=[Qa (Qv 2) (Qd (Qo (Qp (Qq (Qs false)))))]
def Wc4:MC:=.r0 Ybb
def Ybc:List MO:=[Qa (Qv 6) (Qd (Qn 0)),Qa (Qv 7) (Qh 146 [(Qn 6)]),Qa (Qv 5) (Qd (Qn 7)),Qa (Qv 8) (Qi (Qn 5) 0),Qa (Qv 9) (Qi (Qn 5) 1),Qa (Qv 3) (Qd (Qn 8)),Qa (Qv 4) (Qd (Qn 9))]
def Wc5:MC:=.r0 Ybc
def Ybd:List MO:=[Qa (Qv 10) (Qd (Qn 4)),Qa (Qv 11) (Qe Qt Go.BinOp.eql (Qn 10) (Qo (Qp (Qq (Qr Qu 0))))),Qa (Qv 2) (Qd (Qn 11))]
def Wc6:MC:=.r0 Ybd
def Ybe:MC:=.seq Wc4 (.seq Wc5 (.seq Wc6 .ret))
attribute [go_sem] Ybb Ybc Ybd
theorem Wvh:KK QP 126 f126 [] Ybe [(RV.t 2)] 12:=by refine⟨func126,?_,?_,?_,?_⟩<;>kernel_rfl
theorem Wc7:Xaa QP 126=true:=by kernel_rfl
theorem Wc8 (h:GI QP gp [(RV.t 2)] res 12 Ybe args):Xak QP gp 126 args res:=Wvh.i Wc7 h
def Ybf:List MO:=[Qa (Qv 1) (MOp.ibox (Qn 0)),Qa (Qv 2) (Qd (Qo (Qp (Qq (D.str (ByteArray.mk #[]))))))]
def Wc9:MC:=.r0 Ybf
def Ybg:List MO:=[Qa (Qv 2) (Qd (Qo (Qp (Qq (D.str (ByteArray.mk #[110,117,108,108]))))))]
def Wda:MC:=.r0 Ybg
def Ybh:MC:=.seq Wc9 (.seq Wda .ret)
attribute [go_sem] Ybf Ybg
theorem Wvi:KK QP 128 f128 [1] Ybh [(RV.t 2)] 3:=by refine⟨func128,?_,?_,?_,?_⟩<;>kernel_rfl
theorem Wdb:Xaa QP 128=true:=by kernel_rfl
theorem Wdc (h:GI QP gp [(RV.t 2)] res 3 Ybh args):Xak QP gp 128 args res:=Wvi.i Wdb h
def Ybi:List MO:=[Qa (Qv 1) (MOp.ibox (Qn 0)),Qa (Qv 2) (Qd (Qo (Qp (Qq (D.str (ByteArray.mk #[]))))))]
def Wdd:MC:=.r0 Ybi
def Ybj:List MO:=[Qa (Qv 3) (Qg 0 (Qn 1)),Qa (Qv 4) (Qg 1 (Qn 3)),Qa (Qv 5) (Qf 1 false (Qn 4)),Qa (Qv 6) (Qe Qt Go.BinOp.eql (Qn 5) (Qo (Qp (Qq (Qr Qu 1))))),Qa (Qv 7) (Qh 148 [(Qn 6)]),Qa (Qv 2) (Qd (Qn 7))]
def Wde:MC:=.r0 Ybj
def Ybk:MC:=.seq Wdd (.seq Wde .ret)
attribute [go_sem] Ybi Ybj
theorem Wvj:KK QP 129 f129 [1] Ybk [(RV.t 2)] 8:=by refine⟨func129,?_,?_,?_,?_⟩<;>kernel_rfl
theorem Wdf:Xaa QP 129=true:=by kernel_rfl
theorem Wdg (h:GI QP gp [(RV.t 2)] res 8 Ybk args):Xak QP gp 129 args res:=Wvj.i Wdf h
def Ybl:List MO:=[Qa (Qv 1) (MOp.ibox (Qn 0)),Qa (Qv 2) (Qd (Qo (Qp (Qq (D.str (ByteArray.mk #[]))))))]
def Wdh:MC:=.r0 Ybl
def Ybm:List MO:=[Qa (Qv 3) (Qg 0 (Qn 1)),Qa (Qv 4) (Qg 1 (Qn 3)),Qa (Qv 5) (Qf 1 false (Qn 4)),Qa (Qv 6) (Qh 103 [(Qn 5)]),Qa (Qv 2) (Qd (Qn 6))]
def Wdi:MC:=.r0 Ybm
def Ybn:MC:=.seq Wdh (.seq Wdi .ret)
attribute [go_sem] Ybl Ybm
theorem Wvk:KK QP 130 f130 [1] Ybn [(RV.t 2)] 7:=by refine⟨func130,?_,?_,?_,?_⟩<;>kernel_rfl
theorem Wdj:Xaa QP 130=true:=by kernel_rfl
theorem Wdk (h:GI QP gp [(RV.t 2)] res 7 Ybn args):Xak QP gp 130 args res:=Wvk.i Wdj h
def Ybo:List MO:=[Qa (Qv 1) (MOp.ibox (Qn 0)),Qa (Qv 2) (Qd (Qo (Qp (Qq (D.str (ByteArray.mk #[]))))))]
def Wdl:MC:=.r0 Ybo
def Ybp:List MO:=[Qa (Qv 6) (Qg 0 (Qn 1)),Qa (Qv 7) (Qg 2 (Qn 6)),Qa (Qv 8) (Qf 1 false (Qn 7)),Qa (Qv 9) (Qh 149 [(Qn 8)]),Qa (Qv 5) (Qd (Qn 9)),Qa (Qv 10) (Qi (Qn 5) 0),Qa (Qv 11) (Qi (Qn 5) 1),Qa (Qv 3) (Qd (Qn 10)),Qa (Qv 4) (Qd (Qn 11))]
def Wdm:MC:=.r0 Ybp
def Ybq:List MO:=[Qa (Qv 12) (Qd (Qn 3)),Qa (Qv 2) (Qd (Qn 12))]
def Wdn:MC:=.r0 Ybq
def Ybr:MC:=.seq Wdl (.seq Wdm (.seq Wdn .ret))
attribute [go_sem] Ybo Ybp Ybq
theorem Wvl:KK QP 131 f131 [1] Ybr [(RV.t 2)] 13:=by refine⟨func131,?_,?_,?_,?_⟩<;>kernel_rfl
theorem Wdo:Xaa QP 131=true:=by kernel_rfl
theorem Wdp (h:GI QP gp [(RV.t 2)] res 13 Ybr args):Xak QP gp 131 args res:=Wvl.i Wdo h
def Ybs:List MO:=[Qa (Qv 2) (Qd (Qo (Qp A.nil))),Qa (Qv 3) (Qd (Qo (Qp (Qq (Qr Qu 0)))))]
def Wdq:MC:=.r0 Ybs
def Ybt:List MO:=[Qa (Qv 4) (Qd (Qo (Qp A.nil)))]
def Wdr:MC:=.r0 Ybt
def Ybu:List MO:=[Qa (Qv 5) (Qd (Qo (Qp (Qq (Qr Qu 0)))))]
def Wds:MC:=.r0 Ybu
def Ybv:List MO:=[Qa (Qv 8) (Qd (Qn 5)),Qa (Qv 9) (Qd (Qn 0)),Qa (Qv 10) (Qk Leaf.s (Qn 9)),Qa (Qv 11) (Qe Qt Go.BinOp.lss (Qn 8) (Qn 10))]
def Wdt:MC:=.r0 Ybv
def Ybw:List MO:=[Qa (Qv 13) (Qd (Qn 0)),Qa (Qv 14) (Qd (Qn 5)),Qa (Qv 15) (Qh 160 [(Qn 13),(Qn 14)]),Qa (Qv 12) (Qd (Qn 15)),Qa (Qv 16) (Qi (Qn 12) 0),Qa (Qv 17) (Qi (Qn 12) 1),Qa (Qv 6) (Qd (Qn 16)),Qa (Qv 7) (Qd (Qn 17))]
def Wdu:MC:=.r0 Ybw
def Ybx:List MO:=[Qa (Qv 18) (Qd (Qn 7)),Qa (Qv 19) (Qe Qt Go.BinOp.eql (Qn 18) (Qo (Qp (Qq (Qr Qu 0)))))]
def Wdv:MC:=.r0 Ybx
def Xxq:List MO:=[Qa (Qv 2) (Qd (Qo (Qp A.nil))),Qa (Qv 3) (Qd (Qo (Qp (Qq (Qr Qu 40)))))]
def Yoq:MC:=.r0 Xxq
def Xxr:List MO:=[Qa (Qv 20) (Qd (Qn 4)),Qa (Qv 21) (Qd (Qn 6)),Qa (Qv 22) (MOp.bslice 1 [(Qr Qu 0)] 1 [(0,(Qn 21))]),Qa (Qv 23) (MOp.app 3 1 8 (Qn 20) (Qn 22)),Qa (Qv 4) (Qd (Qn 23))]
def Yor:MC:=.r0 Xxr
def Xxs:List MO:=[Qa (Qv 24) (Qd (Qn 5)),Qa (Qv 25) (Qd (Qn 7)),Qa (Qv 26) (Qe Qt Go.BinOp.add (Qn 24) (Qn 25)),Qa (Qv 5) (Qd (Qn 26))]
def Yos:MC:=.r0 Xxs
def Yot:MC:=.seq (.seq Wdv (.cond (Qn 19) (.seq Yoq .ret) .skip)) (.seq Yor Yos)
def Xdz:List MO:=[Qa (Qv 27) (Qd (Qn 4)),Qa (Qv 2) (Qd (Qn 27)),Qa (Qv 3) (Qd (Qo (Qp (Qq (Qr Qu 0)))))]
def You:MC:=.r0 Xdz
def Yov:MC:=.seq (.blk 0 (.loop (.seq (.seq Wdt (.cond (Qn 11) .skip (MC.exit 0))) (.blk 1 (.seq Wdu Yot))))) (.seq You .ret)
def Xxt:MC:=.seq Wdq (.seq Wdr (.seq Wds Yov))
attribute [go_sem] Ybs Ybt Ybu Ybv Ybw Ybx Xxq Xxr Xxs
theorem Wvm:KK QP 146 f146 [] Xxt [(RV.t 2),(RV.t 3)] 28:=by refine⟨func146,?_,?_,?_,?_⟩<;>kernel_rfl
theorem Wdw:Xaa QP 146=true:=by kernel_rfl
theorem Wdx (h:GI QP gp [(RV.t 2),(RV.t 3)] res 28 Xxt args):Xak QP gp 146 args res:=Wvm.i Wdw h
def Yby:List MO:=[Qa (Qv 2) (Qd (Qo (Qp (Qq (D.str (ByteArray.mk #[]))))))]
def Wdy:MC:=.r0 Yby
def Ybz:List MO:=[Qa (Qv 3) (Qd (Qn 0)),Qa (Qv 4) (Qh 162 [(Qn 3)]),Qa (Qv 2) (Qd (Qn 4))]
def Wdz:MC:=.r0 Ybz
def Yb0:MC:=.seq Wdy (.seq Wdz .ret)
attribute [go_sem] Yby Ybz
theorem Wvn:KK QP 148 f148 [] Yb0 [(RV.t 2)] 5:=by refine⟨func148,?_,?_,?_,?_⟩<;>kernel_rfl
theorem Wd0:Xaa QP 148=true:=by kernel_rfl
theorem Wd1 (h:GI QP gp [(RV.t 2)] res 5 Yb0 args):Xak QP gp 148 args res:=Wvn.i Wd0 h
def Yb1:List MO:=[Qa (Qv 2) (Qd (Qo (Qp (Qq (D.str (ByteArray.mk #[])))))),Qa (Qv 3) (Qd (Qo (Qp (Qq (Qr Qu 0)))))]
def Wd2:MC:=.r0 Yb1
def Yb2:List MO:=[Qa (Qv 10) (Qd (Qn 0)),Qa (Qv 11) (Qh 147 [(Qn 10)]),Qa (Qv 12) (MOp.not (Qn 11))]
def Wd3:MC:=.r0 Yb2
def Yb3:List MO:=[Qa (Qv 2) (Qd (Qo (Qp (Qq (D.str (ByteArray.mk #[])))))),Qa (Qv 3) (Qd (Qo (Qp (Qq (Qr Qu 40)))))]
def Wd4:MC:=.r0 Yb3
def Yb4:List MO:=[Qa (Qv 4) (MOp.bldN 169 5)]
def Wd5:MC:=.r0 Yb4
def Yb5:List MO:=[Qa (Qv 13) (MOp.mkF (Go.Fn.func 163) [(Qn 4)]),Qa (Qv 5) (Qd (Qn 13))]
def Wd6:MC:=.r0 Yb5
def Xxu:List MO:=[Qa (Qv 14) (Qd (Qn 5)),Qa (Qv 15) (MOp.bslice 1 [(Qr Go.IntKind.i32 0)] 1 [(0,(Qo (Qp (Qq (Qr Go.IntKind.i32 34)))))]),Qa (Qv 16) (MOp.callv (Qn 14) [(Qn 15)])]
def Yow:MC:=.r0 Xxu
def Xxv:List MO:=[Qa (Qv 17) (Qd (Qn 0)),Qa (Qv 18) (MOp.rng (Qn 17))]
def Yox:MC:=.r0 Xxv
def Xxw:List MO:=[Qa (Qv 19) (MOp.nxt (Qn 18)),Qa (Qv 20) (Qi (Qn 19) 0)]
def Yoy:MC:=.r0 Xxw
def Xxx:List MO:=[Qa (Qv 21) (Qi (Qn 19) 2),Qa (Qv 7) (Qd (Qn 21))]
def Yoz:MC:=.r0 Xxx
def Xxy:List MO:=[Qa (Qv 23) (Qh 165 []),Qa (Qv 24) (Qd (Qn 7)),Qa (Qv 25) (MOp.lkp true (Qp (Qq (Qr Go.IntKind.i32 0))) false [Qt] (Qn 23) (Qn 24)),Qa (Qv 22) (Qd (Qn 25)),Qa (Qv 26) (Qi (Qn 22) 0),Qa (Qv 27) (Qi (Qn 22) 1),Qa (Qv 8) (Qd (Qn 26)),Qa (Qv 9) (Qd (Qn 27))]
def Yo0:MC:=.r0 Xxy
def Xxz:List MO:=[Qa (Qv 40) (Qd (Qn 9)),Qa (Qv 39) (Qd (Qn 40))]
def Yo1:MC:=.r0 Xxz
def Xx0:List MO:=[Qa (Qv 41) (Qd (Qn 5)),Qa (Qv 42) (Qd (Qn 8)),Qa (Qv 43) (MOp.bslice 1 [(Qr Go.IntKind.i32 0)] 2 [(0,(Qo (Qp (Qq (Qr Go.IntKind.i32 92))))),(1,(Qn 42))]),Qa (Qv 44) (MOp.callv (Qn 41) [(Qn 43)])]
def Yo2:MC:=.r0 Xx0
def Xx1:List MO:=[Qa (Qv 46) (Qd (Qn 7)),Qa (Qv 47) (MOp.bslice 1 [(Qr Go.IntKind.i32 0)] 2 [(0,(Qo (Qp (Qq (Qr Go.IntKind.i32 34))))),(1,(Qo (Qp (Qq (Qr Go.IntKind.i32 92)))))]),Qa (Qv 48) (Qh 166 [(Qn 46),(Qn 47)]),Qa (Qv 45) (Qd (Qn 48))]
def Yo3:MC:=.r0 Xx1
def Xx2:List MO:=[Qa (Qv 49) (Qd (Qn 5)),Qa (Qv 50) (Qd (Qn 7)),Qa (Qv 51) (MOp.bslice 1 [(Qr Go.IntKind.i32 0)] 2 [(0,(Qo (Qp (Qq (Qr Go.IntKind.i32 92))))),(1,(Qn 50))]),Qa (Qv 52) (MOp.callv (Qn 49) [(Qn 51)])]
def Yo4:MC:=.r0 Xx2
def Xx3:List MO:=[Qa (Qv 54) (Qd (Qn 7)),Qa (Qv 55) (Qh 167 [(Qn 54)]),Qa (Qv 53) (Qd (Qn 55))]
def Yo5:MC:=.r0 Xx3
def Xx4:List MO:=[Qa (Qv 56) (Qd (Qn 5)),Qa (Qv 57) (Qd (Qn 7)),Qa (Qv 58) (MOp.bslice 1 [(Qr Go.IntKind.i32 0)] 1 [(0,(Qn 57))]),Qa (Qv 59) (MOp.callv (Qn 56) [(Qn 58)])]
def Yo6:MC:=.r0 Xx4
def Xx5:List MO:=[Qa (Qv 28) (Qd (Qn 5)),Qa (Qv 29) (Qd (Qn 7)),Qa (Qv 30) (Qe Qt Go.BinOp.shr (Qn 29) (Qo (Qp (Qq (Qr Go.IntKind.u64 4))))),Qa (Qv 31) (MOp.idxS (Qo (Qp (Qq (D.str (ByteArray.mk #[48,49,50,51,52,53,54,55,56,57,97,98,99,100,101,102]))))) (Qn 30)),Qa (Qv 32) (MOp.conv Go.IntKind.i32 (Qn 31)),Qa (Qv 33) (Qd (Qn 7)),Qa (Qv 34) (Qe Qt Go.BinOp.and (Qn 33) (Qo (Qp (Qq (Qr Go.IntKind.i32 15))))),Qa (Qv 35) (MOp.idxS (Qo (Qp (Qq (D.str (ByteArray.mk #[48,49,50,51,52,53,54,55,56,57,97,98,99,100,101,102]))))) (Qn 34)),Qa (Qv 36) (MOp.conv Go.IntKind.i32 (Qn 35)),Qa (Qv 37) (MOp.bslice 1 [(Qr Go.IntKind.i32 0)] 4 [(0,(Qo (Qp (Qq (Qr Go.IntKind.i32 92))))),(1,(Qo (Qp (Qq (Qr Go.IntKind.i32 120))))),(2,(Qn 32)),(3,(Qn 36))]),Qc (Qv 38) (MOp.callv (Qn 28) [(Qn 37)])]
def Yo7:MC:=.reg true Xx5
def Yo8:MC:=.cond (Qn 45) Yo4 (.seq Yo5 (.cond (Qn 53) Yo6 Yo7))
def Yo9:MC:=.seq Yo1 (.cond (Qn 39) Yo2 (.seq Yo3 Yo8))
def Ypa:MC:=.seq Yoy (.seq (.cond (Qn 20) .skip (MC.exit 0)) (.blk 1 (.seq Yoz (.seq Yo0 (.blk 2 Yo9)))))
def Xx6:List MO:=[Qa (Qv 60) (Qd (Qn 5)),Qa (Qv 61) (MOp.bslice 1 [(Qr Go.IntKind.i32 0)] 1 [(0,(Qo (Qp (Qq (Qr Go.IntKind.i32 34)))))]),Qa (Qv 62) (MOp.callv (Qn 60) [(Qn 61)])]
def Ypb:MC:=.r0 Xx6
def Xx7:List MO:=[Qa (Qv 63) (Qh 102 [(Qn 4)]),Qa (Qv 2) (Qd (Qn 63)),Qa (Qv 3) (Qd (Qo (Qp (Qq (Qr Qu 0)))))]
def Ypc:MC:=.r0 Xx7
def Ypd:MC:=.seq (.seq Yox (.blk 0 (.loop Ypa))) (.seq Ypb (.seq Ypc .ret))
def Ype:MC:=.seq Wd5 (.seq Wd6 (.seq Yow Ypd))
def Xx8:MC:=.seq Wd2 (.seq (.seq Wd3 (.cond (Qn 12) (.seq Wd4 .ret) .skip)) Ype)
attribute [go_sem] Yb1 Yb2 Yb3 Yb4 Yb5 Xxu Xxv Xxw Xxx Xxy Xxz Xx0 Xx1 Xx2 Xx3 Xx4 Xx5 Xx6 Xx7
theorem Wvo:KK QP 149 f149 [] Xx8 [(RV.t 2),(RV.t 3)] 64:=by refine⟨func149,?_,?_,?_,?_⟩<;>kernel_rfl
theorem Wd7:Xaa QP 149=true:=by kernel_rfl
theorem Wd8 (h:GI QP gp [(RV.t 2),(RV.t 3)] res 64 Xx8 args):Xak QP gp 149 args res:=Wvo.i Wd7 h
def Yb6:List MO:=[Qa (Qv 4) (Qd (Qo (Qp (Qq (Qr Qu 0))))),Qa (Qv 5) (Qd (Qo (Qp (Qq (Qr Qu 0)))))]
def Wd9:MC:=.r0 Yb6
def Yb7:List MO:=[Qa (Qv 9) (Qd (Qn 0)),Qa (Qv 10) (Qd (Qn 1)),Qa (Qv 11) (MOp.idxS (Qn 9) (Qn 10)),Qa (Qv 12) (MOp.conv Qu (Qn 11)),Qa (Qv 6) (Qd (Qn 12))]
def Wea:MC:=.r0 Yb7
def Yb8:List MO:=[Qa (Qv 7) (Qd (Qo (Qp (Qq (Qr Qu 1)))))]
def Web:MC:=.r0 Yb8
def Yb9:List MO:=[Qa (Qv 13) (Qd (Qn 6)),Qa (Qv 14) (Qe Qt Go.BinOp.geq (Qn 13) (Qo (Qp (Qq (Qr Qu 240)))))]
def Wec:MC:=.r0 Yb9
def Yca:List MO:=[Qa (Qv 7) (Qd (Qo (Qp (Qq (Qr Qu 4)))))]
def Wed:MC:=.r0 Yca
def Ycb:List MO:=[Qa (Qv 15) (Qd (Qn 6)),Qa (Qv 16) (Qe Qt Go.BinOp.sub (Qn 15) (Qo (Qp (Qq (Qr Qu 240))))),Qa (Qv 6) (Qd (Qn 16))]
def Wee:MC:=.r0 Ycb
def Ycc:List MO:=[Qa (Qv 17) (Qd (Qn 6)),Qa (Qv 18) (Qe Qt Go.BinOp.geq (Qn 17) (Qo (Qp (Qq (Qr Qu 224)))))]
def Wef:MC:=.r0 Ycc
def Ycd:List MO:=[Qa (Qv 7) (Qd (Qo (Qp (Qq (Qr Qu 3)))))]
def Weg:MC:=.r0 Ycd
def Yce:List MO:=[Qa (Qv 19) (Qd (Qn 6)),Qa (Qv 20) (Qe Qt Go.BinOp.sub (Qn 19) (Qo (Qp (Qq (Qr Qu 224))))),Qa (Qv 6) (Qd (Qn 20))]
def Weh:MC:=.r0 Yce
def Xx9:List MO:=[Qa (Qv 21) (Qd (Qn 6)),Qa (Qv 22) (Qe Qt Go.BinOp.geq (Qn 21) (Qo (Qp (Qq (Qr Qu 192)))))]
def Ypf:MC:=.r0 Xx9
def Xya:List MO:=[Qa (Qv 7) (Qd (Qo (Qp (Qq (Qr Qu 2)))))]
def Ypg:MC:=.r0 Xya
def Xyb:List MO:=[Qa (Qv 23) (Qd (Qn 6)),Qa (Qv 24) (Qe Qt Go.BinOp.sub (Qn 23) (Qo (Qp (Qq (Qr Qu 192))))),Qa (Qv 6) (Qd (Qn 24))]
def Yph:MC:=.r0 Xyb
def Ypi:MC:=.cond (Qn 18) (.seq Weg Weh) (.seq Ypf (.cond (Qn 22) (.seq Ypg Yph) .skip))
def Ypj:MC:=.cond (Qn 14) (.seq Wed Wee) (.seq Wef Ypi)
def Xyc:List MO:=[Qa (Qv 25) (Qd (Qn 7)),Qa (Qv 26) (Qd (Qn 0)),Qa (Qv 27) (Qk Leaf.s (Qn 26)),Qa (Qv 28) (Qd (Qn 1)),Qa (Qv 29) (Qe Qt Go.BinOp.sub (Qn 27) (Qn 28)),Qa (Qv 30) (Qe Qt Go.BinOp.gtr (Qn 25) (Qn 29))]
def Ypk:MC:=.r0 Xyc
def Xyd:List MO:=[Qa (Qv 4) (Qd (Qo (Qp (Qq (Qr Qu 0))))),Qa (Qv 5) (Qd (Qo (Qp (Qq (Qr Qu 0)))))]
def Ypl:MC:=.r0 Xyd
def Xye:List MO:=[Qa (Qv 8) (Qd (Qo (Qp (Qq (Qr Qu 1)))))]
def Ypm:MC:=.r0 Xye
def Xyf:List MO:=[Qa (Qv 31) (Qd (Qn 8)),Qa (Qv 32) (Qd (Qn 7)),Qa (Qv 33) (Qe Qt Go.BinOp.lss (Qn 31) (Qn 32))]
def Ypn:MC:=.r0 Xyf
def Xyg:List MO:=[Qa (Qv 36) (Qd (Qn 6)),Qa (Qv 37) (Qe Qt Go.BinOp.mul (Qo (Qp (Qq (Qr Qu 64)))) (Qn 36)),Qa (Qv 38) (Qd (Qn 0)),Qa (Qv 39) (Qd (Qn 1)),Qa (Qv 40) (Qd (Qn 8)),Qa (Qv 41) (Qe Qt Go.BinOp.add (Qn 39) (Qn 40)),Qa (Qv 42) (MOp.idxS (Qn 38) (Qn 41)),Qa (Qv 43) (MOp.conv Qu (Qn 42)),Qa (Qv 44) (Qe Qt Go.BinOp.rem (Qn 43) (Qo (Qp (Qq (Qr Qu 64))))),Qa (Qv 45) (Qe Qt Go.BinOp.add (Qn 37) (Qn 44)),Qa (Qv 6) (Qd (Qn 45))]
def Ypo:MC:=.r0 Xyg
def Xyh:List MO:=[Qa (Qv 34) (Qd (Qn 8)),Qa (Qv 35) (Qe Qt Go.BinOp.add (Qn 34) (Qo (Qp (Qq (Qr Qu 1))))),Qa (Qv 8) (Qd (Qn 35))]
def Ypp:MC:=.r0 Xyh
def Ypq:MC:=.seq Ypm (.blk 0 (.loop (.seq (.seq Ypn (.cond (Qn 33) .skip (MC.exit 0))) (.seq (.blk 1 Ypo) Ypp))))
def Xyi:List MO:=[Qa (Qv 46) (Qd (Qn 6)),Qc (Qv 47) (Qh 177 [(Qn 46)]),Qa (Qv 48) (MOp.not (Qn 47)),Qa (Qv 49) (Qd (Qn 48)),Qb 49 false (Qv 50),Qa (Qv 50) (Qd (Qn 6)),Qb 49 false (Qv 51),Qc (Qv 51) (Qh 178 [(Qn 50)]),Qb 49 false (Qv 52),Qa (Qv 52) (Qd (Qn 0)),Qb 49 false (Qv 53),Qa (Qv 53) (Qd (Qn 1)),Qb 49 false (Qv 54),Qa (Qv 54) (Qd (Qn 1)),Qb 49 false (Qv 55),Qa (Qv 55) (Qd (Qn 7)),Qb 49 false (Qv 56),Qa (Qv 56) (Qe Qt Go.BinOp.add (Qn 54) (Qn 55)),Qb 49 false (Qv 57),Qa (Qv 57) (MOp.slcS (Qn 52) (Qv (Qn 53)) (Qv (Qn 56))),Qb 49 false (Qv 58),Qa (Qv 58) (Qe Leaf.s Go.BinOp.neq (Qn 51) (Qn 57)),Qa (Qv 59) (Qm (Qn 49) (Qo (Qp (Qq (Qs true)))) (Qn 58))]
def Ypr:MC:=.reg true Xyi
def Xyj:List MO:=[Qa (Qv 4) (Qd (Qo (Qp (Qq (Qr Qu 0))))),Qa (Qv 5) (Qd (Qo (Qp (Qq (Qr Qu 0)))))]
def Yps:MC:=.r0 Xyj
def Xyk:List MO:=[Qa (Qv 60) (Qd (Qn 6)),Qa (Qv 61) (Qd (Qn 7)),Qa (Qv 4) (Qd (Qn 60)),Qa (Qv 5) (Qd (Qn 61))]
def Ypt:MC:=.r0 Xyk
def Ypu:MC:=.seq Ypq (.seq (.seq Ypr (.cond (Qn 59) (.seq Yps .ret) .skip)) (.seq Ypt .ret))
def Ypv:MC:=.seq (.seq Wec Ypj) (.seq (.seq Ypk (.cond (Qn 30) (.seq Ypl .ret) .skip)) Ypu)
def Xyl:MC:=.seq Wd9 (.seq Wea (.seq Web Ypv))
attribute [go_sem] Yb6 Yb7 Yb8 Yb9 Yca Ycb Ycc Ycd Yce Xx9 Xya Xyb Xyc Xyd Xye Xyf Xyg Xyh Xyi Xyj Xyk
theorem Wvp:KK QP 160 f160 [] Xyl [(RV.t 4),(RV.t 5)] 62:=by refine⟨func160,?_,?_,?_,?_⟩<;>kernel_rfl
theorem Wei:Xaa QP 160=true:=by kernel_rfl
theorem Wej (h:GI QP gp [(RV.t 4),(RV.t 5)] res 62 Xyl args):Xak QP gp 160 args res:=Wvp.i Wei h
def Ycf:List MO:=[Qa (Qv 2) (Qd (Qo (Qp (Qq (D.str (ByteArray.mk #[]))))))]
def Wek:MC:=.r0 Ycf
def Ycg:List MO:=[Qa (Qv 3) (Qd (Qn 0))]
def Wel:MC:=.r0 Ycg
def Ych:List MO:=[Qa (Qv 2) (Qd (Qo (Qp (Qq (D.str (ByteArray.mk #[116,114,117,101]))))))]
def Wem:MC:=.r0 Ych
def Yci:List MO:=[Qa (Qv 2) (Qd (Qo (Qp (Qq (D.str (ByteArray.mk #[102,97,108,115,101]))))))]
def Wen:MC:=.r0 Yci
def Xym:MC:=.seq Wek (.seq (.seq Wel (.cond (Qn 3) (.seq Wem .ret) .skip)) (.seq Wen .ret))
attribute [go_sem] Ycf Ycg Ych Yci
theorem Wvq:KK QP 162 f162 [] Xym [(RV.t 2)] 4:=by refine⟨func162,?_,?_,?_,?_⟩<;>kernel_rfl
theorem Weo:Xaa QP 162=true:=by kernel_rfl
theorem Wep (h:GI QP gp [(RV.t 2)] res 4 Xym args):Xak QP gp 162 args res:=Wvq.i Weo h
def Ycj:List MO:=[Qa (Qv 5) (Qd (Qn 0)),Qa (Qv 6) (Qk Qt (Qn 5)),Qa (Qv 7) (Qd (Qo (Qp (Qq (Qr Qu 0)))))]
def Weq:MC:=.r0 Ycj
def Yck:List MO:=[Qa (Qv 8) (Qe Qt Go.BinOp.lss (Qn 7) (Qn 6))]
def Wer:MC:=.r0 Yck
def Ycl:List MO:=[Qa (Qv 9) (Qj 1 (Qn 5) (Qn 7)),Qa (Qv 10) (Qf 1 false (Qn 9)),Qa (Qv 4) (Qd (Qn 10))]
def Wes:MC:=.r0 Ycl
def Ycm:List MO:=[Qa (Qv 11) (Qd (Qn 4)),Qa (Qv 12) (Qh 164 [(Qn 1),(Qn 11)])]
def Wet:MC:=.r0 Ycm
def Ycn:List MO:=[Qa (Qv 13) (Qe Qt Go.BinOp.add (Qn 7) (Qo (Qp (Qq (Qr Qu 1))))),Qa (Qv 7) (Qd (Qn 13))]
def Weu:MC:=.r0 Ycn
def Ypw:MC:=.seq Wer (.seq (.cond (Qn 8) .skip (MC.exit 0)) (.seq (.blk 1 (.seq Wes Wet)) Weu))
def Xyn:MC:=.seq Weq (.blk 0 (.loop Ypw))
attribute [go_sem] Ycj Yck Ycl Ycm Ycn
theorem Wvr:KK QP 163 f163 [] Xyn [] 14:=by refine⟨func163,?_,?_,?_,?_⟩<;>kernel_rfl
theorem Xj6:Xaa QP 163=true:=by kernel_rfl
theorem Ypx (h:GT QP gp [] pre R 14 Xyn args):Tri QP gp 163 args pre R:=Wvr.t h
def Yco:List MO:=[Qa (Qv 4) (Qd (Qo (Qp (Qq (Qr Qu 0))))),Qa (Qv 5) (Qd (Qo (Qp (Qq D.nilI))))]
def Wev:MC:=.r0 Yco
def Ycp:List MO:=[Qa (Qv 7) (Qd (Qn 0)),Qa (Qv 8) (Qh 132 [(Qn 7)])]
def Wew:MC:=.r0 Ycp
def Ycq:List MO:=[Qa (Qv 9) (Qd (Qn 0)),Qa (Qv 10) (MOp.nck (Qn 9)),Qa (Qv 11) (Qg 1 (Qn 10)),Qa (Qv 12) (Qf 1 false (Qn 11)),Qa (Qv 13) (Qk Qt (Qn 12)),Qa (Qv 6) (Qd (Qn 13))]
def Wex:MC:=.r0 Ycq
def Ycr:List MO:=[Qa (Qv 14) (Qd (Qn 0)),Qa (Qv 15) (Qd (Qn 0)),Qa (Qv 16) (MOp.nck (Qn 15)),Qa (Qv 17) (Qg 1 (Qn 16)),Qa (Qv 18) (Qf 1 false (Qn 17)),Qa (Qv 19) (Qd (Qn 1)),Qa (Qv 20) (Qh 180 [(Qn 18),(Qn 19)]),Qa (Qv 21) (MOp.nck (Qn 14)),Qa (Qv 22) (Qg 1 (Qn 21)),Qa none (Ql 1 (Qn 22) (Qn 20))]
def Wey:MC:=.r0 Ycr
def Ycs:List MO:=[Qa (Qv 23) (Qd (Qn 0)),Qa (Qv 24) (MOp.nck (Qn 23)),Qa (Qv 25) (Qg 1 (Qn 24)),Qa (Qv 26) (Qf 1 false (Qn 25)),Qa (Qv 27) (Qk Qt (Qn 26)),Qa (Qv 28) (Qd (Qn 6)),Qa (Qv 29) (Qe Qt Go.BinOp.sub (Qn 27) (Qn 28)),Qa (Qv 4) (Qd (Qn 29)),Qa (Qv 5) (Qd (Qo (Qp (Qq D.nilI))))]
def Wez:MC:=.r0 Ycs
def We0:MC:=.seq Wew (.seq Wex (.seq Wey (.seq Wez .ret)))
def Xyo:MC:=.seq Wev We0
attribute [go_sem] Yco Ycp Ycq Ycr Ycs
theorem Wvs:KK QP 164 f164 [] Xyo [(RV.t 4),(RV.t 5)] 30:=by refine⟨func164,?_,?_,?_,?_⟩<;>kernel_rfl
theorem We1:Xaa QP 164=true:=by kernel_rfl
theorem Ypy (h:GT QP gp [(RV.t 4),(RV.t 5)] pre R 30 Xyo args):Tri QP gp 164 args pre R:=Wvs.t h
def Yct:List MO:=[Qa (Qv 0) (Qd (Qo (Qp (Qq (D.raw (Go.Value.map none))))))]
def We2:MC:=.r0 Yct
def Ycu:List MO:=[Qa (Qv 1) MOp.mkM,Qa none (MOp.mupd false [Qt] (Qn 1) (Qo (Qp (Qq (Qr Go.IntKind.i32 10)))) (Qo (Qp (Qq (Qr Go.IntKind.i32 110))))),Qa none (MOp.mupd false [Qt] (Qn 1) (Qo (Qp (Qq (Qr Go.IntKind.i32 9)))) (Qo (Qp (Qq (Qr Go.IntKind.i32 116))))),Qa none (MOp.mupd false [Qt] (Qn 1) (Qo (Qp (Qq (Qr Go.IntKind.i32 13)))) (Qo (Qp (Qq (Qr Go.IntKind.i32 114))))),Qa (Qv 2) (Qd (Qn 1)),Qa (Qv 0) (Qd (Qn 2))]
def We3:MC:=.r0 Ycu
def Ycv:MC:=.seq We2 (.seq We3 .ret)
attribute [go_sem] Yct Ycu
theorem Wvt:KK QP 165 f165 [] Ycv [(RV.t 0)] 3:=by refine⟨func165,?_,?_,?_,?_⟩<;>kernel_rfl
theorem Xpp:Xaa QP 165=true:=by kernel_rfl
theorem Ypz (h:GT QP gp [(RV.t 0)] pre R 3 Ycv args):Tri QP gp 165 args pre R:=Wvt.t h
def Ycw:List MO:=[Qa (Qv 4) (Qd (Qo (Qp (Qq (Qs false)))))]
def We4:MC:=.r0 Ycw
def Ycx:List MO:=[Qa (Qv 7) (Qd (Qn 1)),Qa (Qv 8) (Qk Qt (Qn 7)),Qa (Qv 9) (Qd (Qo (Qp (Qq (Qr Qu 0)))))]
def We5:MC:=.r0 Ycx
def Ycy:List MO:=[Qa (Qv 10) (Qe Qt Go.BinOp.lss (Qn 9) (Qn 8))]
def We6:MC:=.r0 Ycy
def Ycz:List MO:=[Qa (Qv 11) (Qj 1 (Qn 7) (Qn 9)),Qa (Qv 12) (Qf 1 false (Qn 11)),Qa (Qv 6) (Qd (Qn 12))]
def We7:MC:=.r0 Ycz
def Yc0:List MO:=[Qa (Qv 13) (Qd (Qn 0)),Qa (Qv 14) (Qd (Qn 6)),Qa (Qv 15) (Qe Qt Go.BinOp.eql (Qn 13) (Qn 14))]
def We8:MC:=.r0 Yc0
def Yc1:List MO:=[Qa (Qv 4) (Qd (Qo (Qp (Qq (Qs true)))))]
def We9:MC:=.r0 Yc1
def Xyp:List MO:=[Qa (Qv 16) (Qe Qt Go.BinOp.add (Qn 9) (Qo (Qp (Qq (Qr Qu 1))))),Qa (Qv 9) (Qd (Qn 16))]
def Yp0:MC:=.r0 Xyp
def Yp1:MC:=.seq (.blk 1 (.seq We7 (.seq We8 (.cond (Qn 15) (.seq We9 .ret) .skip)))) Yp0
def Xyq:List MO:=[Qa (Qv 4) (Qd (Qo (Qp (Qq (Qs false)))))]
def Yp2:MC:=.r0 Xyq
def Yp3:MC:=.seq (.seq We5 (.blk 0 (.loop (.seq We6 (.seq (.cond (Qn 10) .skip (MC.exit 0)) Yp1))))) (.seq Yp2 .ret)
def Xyr:MC:=.seq We4 Yp3
attribute [go_sem] Ycw Ycx Ycy Ycz Yc0 Yc1 Xyp Xyq
theorem Wvu:KK QP 166 f166 [] Xyr [(RV.t 4)] 17:=by refine⟨func166,?_,?_,?_,?_⟩<;>kernel_rfl
theorem Wfa:Xaa QP 166=true:=by kernel_rfl
theorem Wfb (h:GI QP gp [(RV.t 4)] res 17 Xyr args):Xak QP gp 166 args res:=Wvu.i Wfa h
def Yc2:List MO:=[Qa (Qv 2) (Qd (Qo (Qp (Qq (Qs false)))))]
def Wfc:MC:=.r0 Yc2
def Yc3:List MO:=[Qa (Qv 3) (Qd (Qn 0)),Qa (Qv 4) (Qe Qt Go.BinOp.geq (Qn 3) (Qo (Qp (Qq (Qr Go.IntKind.i32 32))))),Qa (Qv 5) (Qd (Qn 4)),Qb 5 true (Qv 6),Qa (Qv 6) (Qd (Qn 0)),Qb 5 true (Qv 7),Qa (Qv 7) (Qe Qt Go.BinOp.neq (Qn 6) (Qo (Qp (Qq (Qr Go.IntKind.i32 127))))),Qa (Qv 8) (Qm (Qn 5) (Qn 7) (Qo (Qp (Qq (Qs false))))),Qa (Qv 2) (Qd (Qn 8))]
def Wfd:MC:=.r0 Yc3
def Yc4:MC:=.seq Wfc (.seq Wfd .ret)
attribute [go_sem] Yc2 Yc3
theorem Wvv:KK QP 167 f167 [] Yc4 [(RV.t 2)] 9:=by refine⟨func167,?_,?_,?_,?_⟩<;>kernel_rfl
theorem Wfe:Xaa QP 167=true:=by kernel_rfl
theorem Wff (h:GI QP gp [(RV.t 2)] res 9 Yc4 args):Xak QP gp 167 args res:=Wvv.i Wfe h
def Yc5:List MO:=[Qa (Qv 2) (Qd (Qo (Qp (Qq (Qs false)))))]
def Wfg:MC:=.r0 Yc5
def Yc6:List MO:=[Qa (Qv 3) (Qd (Qn 0)),Qa (Qv 4) (Qe Qt Go.BinOp.geq (Qn 3) (Qo (Qp (Qq (Qr Qu 0))))),Qa (Qv 5) (Qd (Qn 4)),Qb 5 true (Qv 6),Qa (Qv 6) (Qd (Qn 0)),Qb 5 true (Qv 7),Qa (Qv 7) (Qe Qt Go.BinOp.leq (Qn 6) (Qo (Qp (Qq (Qr Qu 1114111))))),Qa (Qv 8) (Qm (Qn 5) (Qn 7) (Qo (Qp (Qq (Qs false))))),Qa (Qv 9) (Qd (Qn 8)),Qb 9 true (Qv 10),Qa (Qv 10) (Qd (Qn 0)),Qb 9 true (Qv 11),Qa (Qv 11) (Qe Qt Go.BinOp.lss (Qn 10) (Qo (Qp (Qq (Qr Qu 55296))))),Qb 9 true (Qv 12),Qa (Qv 12) (Qd (Qn 11)),Qb 12 false (Qv 13),Qa (Qv 13) (Qd (Qn 0)),Qb 12 false (Qv 14),Qa (Qv 14) (Qe Qt Go.BinOp.gtr (Qn 13) (Qo (Qp (Qq (Qr Qu 57343))))),Qb 9 true (Qv 15),Qa (Qv 15) (Qm (Qn 12) (Qo (Qp (Qq (Qs true)))) (Qn 14)),Qa (Qv 16) (Qm (Qn 9) (Qn 15) (Qo (Qp (Qq (Qs false))))),Qa (Qv 2) (Qd (Qn 16))]
def Wfh:MC:=.r0 Yc6
def Yc7:MC:=.seq Wfg (.seq Wfh .ret)
attribute [go_sem] Yc5 Yc6
theorem Wvw:KK QP 177 f177 [] Yc7 [(RV.t 2)] 17:=by refine⟨func177,?_,?_,?_,?_⟩<;>kernel_rfl
theorem Wfi:Xaa QP 177=true:=by kernel_rfl
theorem Wfj (h:GI QP gp [(RV.t 2)] res 17 Yc7 args):Xak QP gp 177 args res:=Wvw.i Wfi h
def Yc8:List MO:=[Qa (Qv 2) (Qd (Qo (Qp (Qq (D.str (ByteArray.mk #[]))))))]
def Wfk:MC:=.r0 Yc8
def Yc9:List MO:=[Qa (Qv 3) (Qd (Qn 0)),Qa (Qv 4) (Qe Qt Go.BinOp.lss (Qn 3) (Qo (Qp (Qq (Qr Qu 128)))))]
def Wfl:MC:=.r0 Yc9
def Yda:List MO:=[Qa (Qv 5) (Qd (Qn 0)),Qa (Qv 6) (MOp.conv Go.IntKind.u8 (Qn 5)),Qa (Qv 7) (MOp.bslice 1 [(Qr Go.IntKind.u8 0)] 1 [(0,(Qn 6))]),Qa (Qv 8) (MOp.strB (Qn 7)),Qa (Qv 2) (Qd (Qn 8))]
def Wfm:MC:=.r0 Yda
def Ydb:List MO:=[Qa (Qv 9) (Qd (Qn 0)),Qa (Qv 10) (Qe Qt Go.BinOp.lss (Qn 9) (Qo (Qp (Qq (Qr Qu 2048)))))]
def Wfn:MC:=.r0 Ydb
def Ydc:List MO:=[Qa (Qv 11) (Qd (Qn 0)),Qa (Qv 12) (Qe Qt Go.BinOp.quo (Qn 11) (Qo (Qp (Qq (Qr Qu 64))))),Qa (Qv 13) (Qe Qt Go.BinOp.add (Qo (Qp (Qq (Qr Qu 192)))) (Qn 12)),Qa (Qv 14) (MOp.conv Go.IntKind.u8 (Qn 13)),Qa (Qv 15) (Qd (Qn 0)),Qa (Qv 16) (Qe Qt Go.BinOp.rem (Qn 15) (Qo (Qp (Qq (Qr Qu 64))))),Qa (Qv 17) (Qe Qt Go.BinOp.add (Qo (Qp (Qq (Qr Qu 128)))) (Qn 16)),Qa (Qv 18) (MOp.conv Go.IntKind.u8 (Qn 17)),Qa (Qv 19) (MOp.bslice 1 [(Qr Go.IntKind.u8 0)] 2 [(0,(Qn 14)),(1,(Qn 18))]),Qa (Qv 20) (MOp.strB (Qn 19)),Qa (Qv 2) (Qd (Qn 20))]
def Wfo:MC:=.r0 Ydc
def Xys:List MO:=[Qa (Qv 21) (Qd (Qn 0)),Qa (Qv 22) (Qe Qt Go.BinOp.lss (Qn 21) (Qo (Qp (Qq (Qr Qu 65536)))))]
def Yp4:MC:=.r0 Xys
def Xyt:List MO:=[Qa (Qv 23) (Qd (Qn 0)),Qa (Qv 24) (Qe Qt Go.BinOp.quo (Qn 23) (Qo (Qp (Qq (Qr Qu 4096))))),Qa (Qv 25) (Qe Qt Go.BinOp.add (Qo (Qp (Qq (Qr Qu 224)))) (Qn 24)),Qa (Qv 26) (MOp.conv Go.IntKind.u8 (Qn 25)),Qa (Qv 27) (Qd (Qn 0)),Qa (Qv 28) (Qe Qt Go.BinOp.quo (Qn 27) (Qo (Qp (Qq (Qr Qu 64))))),Qa (Qv 29) (Qe Qt Go.BinOp.rem (Qn 28) (Qo (Qp (Qq (Qr Qu 64))))),Qa (Qv 30) (Qe Qt Go.BinOp.add (Qo (Qp (Qq (Qr Qu 128)))) (Qn 29)),Qa (Qv 31) (MOp.conv Go.IntKind.u8 (Qn 30)),Qa (Qv 32) (Qd (Qn 0)),Qa (Qv 33) (Qe Qt Go.BinOp.rem (Qn 32) (Qo (Qp (Qq (Qr Qu 64))))),Qa (Qv 34) (Qe Qt Go.BinOp.add (Qo (Qp (Qq (Qr Qu 128)))) (Qn 33)),Qa (Qv 35) (MOp.conv Go.IntKind.u8 (Qn 34)),Qa (Qv 36) (MOp.bslice 1 [(Qr Go.IntKind.u8 0)] 3 [(0,(Qn 26)),(1,(Qn 31)),(2,(Qn 35))]),Qa (Qv 37) (MOp.strB (Qn 36)),Qa (Qv 2) (Qd (Qn 37))]
def Yp5:MC:=.r0 Xyt
def Xyu:List MO:=[Qa (Qv 38) (Qd (Qn 0)),Qa (Qv 39) (Qe Qt Go.BinOp.quo (Qn 38) (Qo (Qp (Qq (Qr Qu 262144))))),Qa (Qv 40) (Qe Qt Go.BinOp.add (Qo (Qp (Qq (Qr Qu 240)))) (Qn 39)),Qa (Qv 41) (MOp.conv Go.IntKind.u8 (Qn 40)),Qa (Qv 42) (Qd (Qn 0)),Qa (Qv 43) (Qe Qt Go.BinOp.quo (Qn 42) (Qo (Qp (Qq (Qr Qu 4096))))),Qa (Qv 44) (Qe Qt Go.BinOp.rem (Qn 43) (Qo (Qp (Qq (Qr Qu 64))))),Qa (Qv 45) (Qe Qt Go.BinOp.add (Qo (Qp (Qq (Qr Qu 128)))) (Qn 44)),Qa (Qv 46) (MOp.conv Go.IntKind.u8 (Qn 45)),Qa (Qv 47) (Qd (Qn 0)),Qa (Qv 48) (Qe Qt Go.BinOp.quo (Qn 47) (Qo (Qp (Qq (Qr Qu 64))))),Qa (Qv 49) (Qe Qt Go.BinOp.rem (Qn 48) (Qo (Qp (Qq (Qr Qu 64))))),Qa (Qv 50) (Qe Qt Go.BinOp.add (Qo (Qp (Qq (Qr Qu 128)))) (Qn 49)),Qa (Qv 51) (MOp.conv Go.IntKind.u8 (Qn 50)),Qa (Qv 52) (Qd (Qn 0)),Qa (Qv 53) (Qe Qt Go.BinOp.rem (Qn 52) (Qo (Qp (Qq (Qr Qu 64))))),Qa (Qv 54) (Qe Qt Go.BinOp.add (Qo (Qp (Qq (Qr Qu 128)))) (Qn 53)),Qa (Qv 55) (MOp.conv Go.IntKind.u8 (Qn 54)),Qa (Qv 56) (MOp.bslice 1 [(Qr Go.IntKind.u8 0)] 4 [(0,(Qn 41)),(1,(Qn 46)),(2,(Qn 51)),(3,(Qn 55))]),Qa (Qv 57) (MOp.strB (Qn 56)),Qa (Qv 2) (Qd (Qn 57))]
def Yp6:MC:=.r0 Xyu
def Yp7:MC:=.seq (.seq Wfn (.cond (Qn 10) (.seq Wfo .ret) .skip)) (.seq (.seq Yp4 (.cond (Qn 22) (.seq Yp5 .ret) .skip)) (.seq Yp6 .ret))
def Xyv:MC:=.seq Wfk (.seq (.seq Wfl (.cond (Qn 4) (.seq Wfm .ret) .skip)) Yp7)
attribute [go_sem] Yc8 Yc9 Yda Ydb Ydc Xys Xyt Xyu
theorem Wvx:KK QP 178 f178 [] Xyv [(RV.t 2)] 58:=by refine⟨func178,?_,?_,?_,?_⟩<;>kernel_rfl
theorem Wfp:Xaa QP 178=true:=by kernel_rfl
theorem Wfq (h:GI QP gp [(RV.t 2)] res 58 Xyv args):Xak QP gp 178 args res:=Wvx.i Wfp h
def Ydd:List MO:=[Qa (Qv 4) (Qd (Qo (Qp A.nil)))]
def Wfr:MC:=.r0 Ydd
def Yde:List MO:=[Qa (Qv 5) (Qd (Qn 1)),Qa (Qv 6) (MOp.conv Go.IntKind.u32 (Qn 5)),Qa (Qv 7) (Qe Qt Go.BinOp.leq (Qn 6) (Qo (Qp (Qq (Qr Go.IntKind.u32 127)))))]
def Wfs:MC:=.r0 Yde
def Ydf:List MO:=[Qa (Qv 8) (Qd (Qn 0)),Qa (Qv 9) (Qd (Qn 1)),Qa (Qv 10) (MOp.conv Go.IntKind.u8 (Qn 9)),Qa (Qv 11) (MOp.bslice 1 [(Qr Go.IntKind.u8 0)] 1 [(0,(Qn 10))]),Qa (Qv 12) (MOp.app 5 1 1 (Qn 8) (Qn 11)),Qa (Qv 4) (Qd (Qn 12))]
def Wft:MC:=.r0 Ydf
def Ydg:List MO:=[Qa (Qv 13) (Qd (Qn 0)),Qa (Qv 14) (Qd (Qn 1)),Qa (Qv 15) (Qh 187 [(Qn 13),(Qn 14)]),Qa (Qv 4) (Qd (Qn 15))]
def Wfu:MC:=.r0 Ydg
def Xyw:MC:=.seq Wfr (.seq (.seq Wfs (.cond (Qn 7) (.seq Wft .ret) .skip)) (.seq Wfu .ret))
attribute [go_sem] Ydd Yde Ydf Ydg
theorem Wvy:KK QP 180 f180 [] Xyw [(RV.t 4)] 16:=by refine⟨func180,?_,?_,?_,?_⟩<;>kernel_rfl
theorem W5j:Xaa QP 180=true:=by kernel_rfl
theorem Yp8 (h:GT QP gp [(RV.t 4)] pre R 16 Xyw args):Tri QP gp 180 args pre R:=Wvy.t h
def Ydh:List MO:=[Qa (Qv 4) (Qd (Qo (Qp A.nil)))]
def Wfv:MC:=.r0 Ydh
def Ydi:List MO:=[Qa (Qv 6) (Qd (Qn 1)),Qa (Qv 7) (MOp.conv Go.IntKind.u32 (Qn 6)),Qa (Qv 5) (Qd (Qn 7))]
def Wfw:MC:=.r0 Ydi
def Ydj:List MO:=[Qa (Qv 12) (Qd (Qn 5)),Qa (Qv 13) (Qe Qt Go.BinOp.leq (Qn 12) (Qo (Qp (Qq (Qr Go.IntKind.u32 2047))))),Qa (Qv 11) (Qd (Qn 13))]
def Wfx:MC:=.r0 Ydj
def Ydk:List MO:=[Qa (Qv 14) (Qd (Qn 0)),Qa (Qv 15) (Qd (Qn 1)),Qa (Qv 16) (Qe Qt Go.BinOp.shr (Qn 15) (Qo (Qp (Qq (Qr Go.IntKind.u64 6))))),Qa (Qv 17) (MOp.conv Go.IntKind.u8 (Qn 16)),Qa (Qv 18) (Qe Qt Go.BinOp.or (Qo (Qp (Qq (Qr Go.IntKind.u8 192)))) (Qn 17)),Qa (Qv 19) (Qd (Qn 1)),Qa (Qv 20) (MOp.conv Go.IntKind.u8 (Qn 19)),Qa (Qv 21) (Qe Qt Go.BinOp.and (Qn 20) (Qo (Qp (Qq (Qr Go.IntKind.u8 63))))),Qa (Qv 22) (Qe Qt Go.BinOp.or (Qo (Qp (Qq (Qr Go.IntKind.u8 128)))) (Qn 21)),Qa (Qv 23) (MOp.bslice 1 [(Qr Go.IntKind.u8 0)] 2 [(0,(Qn 18)),(1,(Qn 22))]),Qa (Qv 24) (MOp.app 5 1 1 (Qn 14) (Qn 23)),Qa (Qv 4) (Qd (Qn 24))]
def Wfy:MC:=.r0 Ydk
def Ydl:List MO:=[Qa (Qv 26) (Qd (Qn 5)),Qa (Qv 27) (Qe Qt Go.BinOp.lss (Qn 26) (Qo (Qp (Qq (Qr Go.IntKind.u32 55296))))),Qa (Qv 25) (Qd (Qn 27))]
def Wfz:MC:=.r0 Ydl
def Ydm:List MO:=[Qa (Qv 28) (Qd (Qn 5)),Qa (Qv 29) (Qe Qt Go.BinOp.lss (Qo (Qp (Qq (Qr Go.IntKind.u32 57343)))) (Qn 28)),Qa (Qv 30) (Qd (Qn 29)),Qb 30 true (Qv 31),Qa (Qv 31) (Qd (Qn 5)),Qb 30 true (Qv 32),Qa (Qv 32) (Qe Qt Go.BinOp.leq (Qn 31) (Qo (Qp (Qq (Qr Go.IntKind.u32 65535))))),Qa (Qv 33) (Qm (Qn 30) (Qn 32) (Qo (Qp (Qq (Qs false))))),Qa (Qv 25) (Qd (Qn 33))]
def Wf0:MC:=.r0 Ydm
def Xyx:List MO:=[Qa (Qv 34) (Qd (Qn 0)),Qa (Qv 35) (Qd (Qn 1)),Qa (Qv 36) (Qe Qt Go.BinOp.shr (Qn 35) (Qo (Qp (Qq (Qr Go.IntKind.u64 12))))),Qa (Qv 37) (MOp.conv Go.IntKind.u8 (Qn 36)),Qa (Qv 38) (Qe Qt Go.BinOp.or (Qo (Qp (Qq (Qr Go.IntKind.u8 224)))) (Qn 37)),Qa (Qv 39) (Qd (Qn 1)),Qa (Qv 40) (Qe Qt Go.BinOp.shr (Qn 39) (Qo (Qp (Qq (Qr Go.IntKind.u64 6))))),Qa (Qv 41) (MOp.conv Go.IntKind.u8 (Qn 40)),Qa (Qv 42) (Qe Qt Go.BinOp.and (Qn 41) (Qo (Qp (Qq (Qr Go.IntKind.u8 63))))),Qa (Qv 43) (Qe Qt Go.BinOp.or (Qo (Qp (Qq (Qr Go.IntKind.u8 128)))) (Qn 42)),Qa (Qv 44) (Qd (Qn 1)),Qa (Qv 45) (MOp.conv Go.IntKind.u8 (Qn 44)),Qa (Qv 46) (Qe Qt Go.BinOp.and (Qn 45) (Qo (Qp (Qq (Qr Go.IntKind.u8 63))))),Qa (Qv 47) (Qe Qt Go.BinOp.or (Qo (Qp (Qq (Qr Go.IntKind.u8 128)))) (Qn 46)),Qa (Qv 48) (MOp.bslice 1 [(Qr Go.IntKind.u8 0)] 3 [(0,(Qn 38)),(1,(Qn 43)),(2,(Qn 47))]),Qa (Qv 49) (MOp.app 5 1 1 (Qn 34) (Qn 48)),Qa (Qv 4) (Qd (Qn 49))]
def Yp9:MC:=.r0 Xyx
def Xyy:List MO:=[Qa (Qv 51) (Qd (Qn 5)),Qa (Qv 52) (Qe Qt Go.BinOp.gtr (Qn 51) (Qo (Qp (Qq (Qr Go.IntKind.u32 65535))))),Qa (Qv 53) (Qd (Qn 52)),Qb 53 true (Qv 54),Qa (Qv 54) (Qd (Qn 5)),Qb 53 true (Qv 55),Qa (Qv 55) (Qe Qt Go.BinOp.leq (Qn 54) (Qo (Qp (Qq (Qr Go.IntKind.u32 1114111))))),Qa (Qv 56) (Qm (Qn 53) (Qn 55) (Qo (Qp (Qq (Qs false))))),Qa (Qv 50) (Qd (Qn 56))]
def Yqa:MC:=.r0 Xyy
def Xyz:List MO:=[Qa (Qv 57) (Qd (Qn 0)),Qa (Qv 58) (Qd (Qn 1)),Qa (Qv 59) (Qe Qt Go.BinOp.shr (Qn 58) (Qo (Qp (Qq (Qr Go.IntKind.u64 18))))),Qa (Qv 60) (MOp.conv Go.IntKind.u8 (Qn 59)),Qa (Qv 61) (Qe Qt Go.BinOp.or (Qo (Qp (Qq (Qr Go.IntKind.u8 240)))) (Qn 60)),Qa (Qv 62) (Qd (Qn 1)),Qa (Qv 63) (Qe Qt Go.BinOp.shr (Qn 62) (Qo (Qp (Qq (Qr Go.IntKind.u64 12))))),Qa (Qv 64) (MOp.conv Go.IntKind.u8 (Qn 63)),Qa (Qv 65) (Qe Qt Go.BinOp.and (Qn 64) (Qo (Qp (Qq (Qr Go.IntKind.u8 63))))),Qa (Qv 66) (Qe Qt Go.BinOp.or (Qo (Qp (Qq (Qr Go.IntKind.u8 128)))) (Qn 65)),Qa (Qv 67) (Qd (Qn 1)),Qa (Qv 68) (Qe Qt Go.BinOp.shr (Qn 67) (Qo (Qp (Qq (Qr Go.IntKind.u64 6))))),Qa (Qv 69) (MOp.conv Go.IntKind.u8 (Qn 68)),Qa (Qv 70) (Qe Qt Go.BinOp.and (Qn 69) (Qo (Qp (Qq (Qr Go.IntKind.u8 63))))),Qa (Qv 71) (Qe Qt Go.BinOp.or (Qo (Qp (Qq (Qr Go.IntKind.u8 128)))) (Qn 70)),Qa (Qv 72) (Qd (Qn 1)),Qa (Qv 73) (MOp.conv Go.IntKind.u8 (Qn 72)),Qa (Qv 74) (Qe Qt Go.BinOp.and (Qn 73) (Qo (Qp (Qq (Qr Go.IntKind.u8 63))))),Qa (Qv 75) (Qe Qt Go.BinOp.or (Qo (Qp (Qq (Qr Go.IntKind.u8 128)))) (Qn 74)),Qa (Qv 76) (MOp.bslice 1 [(Qr Go.IntKind.u8 0)] 4 [(0,(Qn 61)),(1,(Qn 66)),(2,(Qn 71)),(3,(Qn 75))]),Qa (Qv 77) (MOp.app 5 1 1 (Qn 57) (Qn 76)),Qa (Qv 4) (Qd (Qn 77))]
def Yqb:MC:=.r0 Xyz
def Xy0:List MO:=[Qa (Qv 8) (Qd (Qn 0)),Qa (Qv 9) (MOp.bslice 1 [(Qr Go.IntKind.u8 0)] 3 [(0,(Qo (Qp (Qq (Qr Go.IntKind.u8 239))))),(1,(Qo (Qp (Qq (Qr Go.IntKind.u8 191))))),(2,(Qo (Qp (Qq (Qr Go.IntKind.u8 189)))))]),Qa (Qv 10) (MOp.app 5 1 1 (Qn 8) (Qn 9)),Qa (Qv 4) (Qd (Qn 10))]
def Yqc:MC:=.r0 Xy0
def Yqd:MC:=.cond (Qn 25) (.seq Yp9 .ret) (.seq Yqa (.cond (Qn 50) (.seq Yqb .ret) (.seq Yqc .ret)))
def Yqe:MC:=.cond (Qn 11) (.seq Wfy .ret) (.seq (.seq Wfz (.cond (Qn 25) .skip Wf0)) Yqd)
def Xy1:MC:=.seq Wfv (.seq Wfw (.blk 0 (.seq Wfx Yqe)))
attribute [go_sem] Ydh Ydi Ydj Ydk Ydl Ydm Xyx Xyy Xyz Xy0
theorem Wvz:KK QP 187 f187 [] Xy1 [(RV.t 4)] 78:=by refine⟨func187,?_,?_,?_,?_⟩<;>kernel_rfl
theorem Wf1:Xaa QP 187=true:=by kernel_rfl
theorem Yqf (h:GT QP gp [(RV.t 4)] pre R 78 Xy1 args):Tri QP gp 187 args pre R:=Wvz.t h
-- f188: trC none
-- f189: trC none
-- f190: no body
-- f191: no body
-- f192: no body
-- f193: no body
-- f194: no body
-- f195: no body
-- f196: no body
-- f197: no body
-- f198: no body
-- f199: no body
-- f200: no body
-- f201: no body
-- f202: no body
-- f203: no body
-- f204: no body
-- f205: no body
-- f206: no body
-- f207: no body
-- f208: no body
-- f209: no body
-- f210: no body
-- f211: no body
-- f212: no body
-- f213: no body
-- f214: no body
-- f215: no body
-- f216: no body
-- f217: no body
-- f218: no body
-- f219: no body
-- f220: no body
-- f221: no body
-- f222: no body
-- f223: no body
-- f224: no body
-- f225: no body
end Go.Fw.L07
