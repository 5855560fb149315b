/- Small codes. -/
import Derived.Test.YtejnfjophhnaeaaGreatDoorFd
import Derived.Test.YtejnfjophhnaeaaGreatDoorProg
set_option linter.all false
namespace Go.Fw.L07
open Go Go.Fw
open Go.Proofs.Tryz renaming prog -> QP
open Go.Proofs.Tryz (f116 f117 f119 f120 f13 f142 f153 f34 f66 f67 f92 f93 func116 func117 func119 func120 func13 func142 func153 func34 func66 func67 func92 func93)
open Go.Fw.MO renaming op -> Qa,chk -> Qb,opx -> Qc
open Go.Fw.MOp renaming mv -> Qd,bin -> Qe,load -> Qf,fad -> Qg,call -> Qh,ext -> Qi,iad -> Qj,len -> Qk,store -> Ql,pick -> Qm
open Go.Fw.Opd renaming t -> Qn,c -> Qo
open Go.Fw.V renaming one -> Qp
open Go.Fw.A renaming d -> Qq
open Go.Fw.D renaming int -> Qr,bool -> Qs
open Go.Fw.Leaf renaming i -> Qt
open Go.IntKind renaming i64 -> Qu
open Option renaming some -> Qv
variable {gp : Heap} {args : List V} {res : V} {pre : List Ch} {R : V -> List Ch -> Prop}
def Ylt:List MO:=[Qa (Qv 2) (MOp.ibox (Qn 0)),Qa (Qv 4) (MOp.alloc [(Qr Qu 0),(D.sl [])])]
def Wbd:MC:=.r0 Ylt
def Ylu:List MO:=[Qa (Qv 5) (Qg 1 (Qn 2)),Qa (Qv 6) (Qf 1 false (Qn 5)),Qa (Qv 7) (Qk Qt (Qn 6)),Qa (Qv 8) (Qd (Qn 1)),Qa (Qv 9) (Qe Qt Go.BinOp.gtr (Qn 7) (Qn 8))]
def Wbe:MC:=.r0 Ylu
def Ylv:List MO:=[Qa (Qv 10) (MOp.build [(Qr Qu 0),(D.sl [])] [(0,(1,(Qo (Qp (Qq (Qr Qu (-1)))))))]),Qa none (Ql 2 (Qn 4) (Qn 10))]
def Wbf:MC:=.r0 Ylv
def Ylw:List MO:=[Qa (Qv 11) (Qf 2 true (Qn 2)),Qa (Qv 12) (Qh 35 [(Qn 11)]),Qa none (Ql 2 (Qn 4) (Qn 12))]
def Wbg:MC:=.r0 Ylw
def X7k:MC:=.seq Wbd (.seq (.seq Wbe (.cond (Qn 9) (.seq Wbf .ret) .skip)) (.seq Wbg .ret))
attribute [go_sem] Ylt Ylu Ylv Ylw
theorem Wg0 : KK QP 13 f13 [2] X7k [(RV.cell 4 2 true)] 13 := by refine ⟨func13,?_,?_,?_,?_⟩<;>kernel_rfl
theorem Wbh : Xaa QP 13 = true := by kernel_rfl
theorem Wbi (h : GI QP gp [(RV.cell 4 2 true)] res 13 X7k args) : Does QP gp 13 args res := Wg0.i Wbh h
def Ylx:List MO:=[Qa (Qv 2) (MOp.ibox (Qn 0)),Qa (Qv 3) (MOp.ibox (Qn 1)),Qa (Qv 4) (Qd (Qo (Qp (Qq (Qs false))))),Qa (Qv 5) (Qd (Qo (Qp (Qq (Qr Qu 0)))))]
def Wbj:MC:=.r0 Ylx
def Yly:List MO:=[Qa (Qv 16) (Qf 2 true (Qn 2)),Qa (Qv 17) (Qf 2 true (Qn 3)),Qa (Qv 18) (Qh 66 [(Qn 16),(Qn 17)]),Qa (Qv 15) (Qd (Qn 18)),Qa (Qv 19) (Qi (Qn 15) 0),Qa (Qv 20) (Qi (Qn 15) 1),Qa (Qv 21) (Qi (Qn 15) 2),Qa (Qv 6) (Qd (Qn 19)),Qa (Qv 7) (Qd (Qn 20)),Qa (Qv 8) (Qd (Qn 21))]
def Wbk:MC:=.r0 Yly
def Ylz:List MO:=[Qa (Qv 22) MOp.mkM,Qa (Qv 23) (MOp.build [(D.raw (Go.Value.map none))] [(0,(1,(Qn 22)))]),Qa (Qv 24) (MOp.mkMv (Go.Fn.func 67) (Qn 23)),Qa (Qv 25) MOp.mkM,Qa (Qv 26) (MOp.build [(D.raw (Go.Value.map none))] [(0,(1,(Qn 25)))]),Qa (Qv 27) (MOp.mkMv (Go.Fn.func 67) (Qn 26)),Qa (Qv 9) (Qd (Qn 24)),Qa (Qv 10) (Qd (Qn 27))]
def Wbl:MC:=.r0 Ylz
def Yl0:List MO:=[Qa (Qv 28) (Qd (Qn 6)),Qa (Qv 29) (Qk Qt (Qn 28)),Qa (Qv 30) (Qd (Qo (Qp (Qq (Qr Qu 0)))))]
def Wbm:MC:=.r0 Yl0
def Yl1:List MO:=[Qa (Qv 31) (Qe Qt Go.BinOp.lss (Qn 30) (Qn 29))]
def Wbn:MC:=.r0 Yl1
def Yl2:List MO:=[Qa (Qv 32) (Qj 2 (Qn 28) (Qn 30)),Qa (Qv 33) (Qf 2 true (Qn 32)),Qa (Qv 12) (MOp.alloc [(Qr Qu 0),(Qr Qu 0)]),Qa none (Ql 2 (Qn 12) (Qn 33))]
def Wbo:MC:=.r0 Yl2
def Xfr:List MO:=[Qa (Qv 34) (Qd (Qn 9)),Qa (Qv 35) (Qg 0 (Qn 12)),Qa (Qv 36) (MOp.ild 1 false (Qn 35)),Qa (Qv 37) (Qg 1 (Qn 12)),Qa (Qv 38) (MOp.ild 1 false (Qn 37)),Qc (Qv 39) (MOp.callv (Qn 34) [(Qn 36),(Qn 38)]),Qa (Qv 40) (Qd (Qn 10)),Qa (Qv 41) (Qg 1 (Qn 12)),Qa (Qv 42) (MOp.ild 1 false (Qn 41)),Qa (Qv 43) (Qg 0 (Qn 12)),Qa (Qv 44) (MOp.ild 1 false (Qn 43)),Qc (Qv 45) (MOp.callv (Qn 40) [(Qn 42),(Qn 44)]),Qa (Qv 13) (Qd (Qn 39)),Qa (Qv 14) (Qd (Qn 45))]
def Wbp:MC:=.reg true Xfr
def X7l:List MO:=[Qa (Qv 46) (Qd (Qn 7)),Qa (Qv 47) (Qd (Qn 46)),Qb 47 true (Qv 48),Qa (Qv 48) (Qd (Qn 13)),Qa (Qv 49) (Qm (Qn 47) (Qn 48) (Qo (Qp (Qq (Qs false))))),Qa (Qv 50) (Qd (Qn 49)),Qb 50 true (Qv 51),Qa (Qv 51) (Qd (Qn 14)),Qa (Qv 52) (Qm (Qn 50) (Qn 51) (Qo (Qp (Qq (Qs false))))),Qa (Qv 7) (Qd (Qn 52))]
def Yz5:MC:=.r0 X7l
def X7m:List MO:=[Qa (Qv 53) (Qe Qt Go.BinOp.add (Qn 30) (Qo (Qp (Qq (Qr Qu 1))))),Qa (Qv 30) (Qd (Qn 53))]
def Yz6:MC:=.r0 X7m
def Yz7:MC:=.seq (.blk 1 (.seq Wbo (.seq Wbp Yz5))) Yz6
def X7n:List MO:=[Qa (Qv 54) (Qd (Qn 7)),Qa (Qv 55) (Qd (Qn 8)),Qa (Qv 4) (Qd (Qn 54)),Qa (Qv 5) (Qd (Qn 55))]
def Yz8:MC:=.r0 X7n
def Yz9:MC:=.seq (.seq Wbm (.blk 0 (.loop (.seq Wbn (.seq (.cond (Qn 31) .skip (MC.exit 0)) Yz7))))) (.seq Yz8 .ret)
def X7o:MC:=.seq Wbj (.seq Wbk (.seq Wbl Yz9))
attribute [go_sem] Ylx Yly Ylz Yl0 Yl1 Yl2 X7l X7m X7n
theorem Wg1 : KK QP 34 f34 [2,3,1012] X7o [(RV.t 4),(RV.t 5)] 56 := by refine ⟨func34,?_,?_,?_,?_⟩<;>kernel_rfl
theorem Wbq : Xaa QP 34 = true := by kernel_rfl
theorem Wbr (h : GI QP gp [(RV.t 4),(RV.t 5)] res 56 X7o args) : Does QP gp 34 args res := Wg1.i Wbq h
def Yl3:List MO:=[Qa (Qv 2) (MOp.ibox (Qn 0)),Qa (Qv 3) (MOp.ibox (Qn 1)),Qa (Qv 4) (Qd (Qo (Qp A.nil))),Qa (Qv 5) (Qd (Qo (Qp (Qq (Qs false))))),Qa (Qv 6) (Qd (Qo (Qp (Qq (Qr Qu 0)))))]
def Wbs:MC:=.r0 Yl3
def Yl4:List MO:=[Qa (Qv 13) (Qf 2 true (Qn 2)),Qa (Qv 14) (Qf 2 true (Qn 3)),Qa (Qv 15) (MOp.bslice 2 [(Qr Qu 0),(D.sl [])] 2 [(0,(Qn 13)),(1,(Qn 14))]),Qa (Qv 16) (Qh 92 [(Qn 15)]),Qa (Qv 7) (Qd (Qn 16))]
def Wbt:MC:=.r0 Yl4
def Yl5:List MO:=[Qa (Qv 17) (Qd (Qn 7)),Qa (Qv 18) (Qe Qt Go.BinOp.neq (Qn 17) (Qo (Qp (Qq (Qr Qu 0)))))]
def Wbu:MC:=.r0 Yl5
def Yl6:List MO:=[Qa (Qv 19) (Qd (Qn 7)),Qa (Qv 4) (Qd (Qo (Qp A.nil))),Qa (Qv 5) (Qd (Qo (Qp (Qq (Qs false))))),Qa (Qv 6) (Qd (Qn 19))]
def Wbv:MC:=.r0 Yl6
def X7p:List MO:=[Qa (Qv 8) (MOp.alloc [(D.sl [])])]
def Y0a:MC:=.r0 X7p
def X7q:List MO:=[Qa (Qv 9) (MOp.alloc [D.nilI])]
def Y0b:MC:=.r0 X7q
def X7r:List MO:=[Qa (Qv 20) (Qf 2 true (Qn 2)),Qa (Qv 21) (Qf 2 true (Qn 3)),Qa (Qv 22) (MOp.build [(Qr Qu 0),(D.sl []),(Qr Qu 0),(D.sl [])] [(0,(2,(Qn 20))),(2,(2,(Qn 21)))]),Qa (Qv 23) MOp.mkM,Qa (Qv 24) (Qg 0 (Qn 2)),Qa (Qv 25) (Qf 1 false (Qn 24)),Qa (Qv 26) (Qg 0 (Qn 3)),Qa (Qv 27) (Qf 1 false (Qn 26)),Qa (Qv 28) (MOp.build [(Qr Qu 0),(Qr Qu 0)] [(0,(1,(Qn 25))),(1,(1,(Qn 27)))]),Qa (Qv 29) (MOp.bslO 2 [(Qr Qu 0),(Qr Qu 0)] 1 [(0,(Qn 28))]),Qa (Qv 30) (MOp.build [(Qr Qu 0),(D.sl []),(Qr Qu 0),(D.sl []),(D.raw (Go.Value.map none)),(D.sl [])] [(0,(4,(Qn 22))),(4,(1,(Qn 23))),(5,(1,(Qn 29)))]),Qa (Qv 31) (MOp.box (Qn 30)),Qa (Qv 10) (Qd (Qn 31))]
def Y0c:MC:=.r0 X7r
def X7s:List MO:=[Qa (Qv 32) (Qd (Qn 10)),Qa (Qv 33) (Qh 93 [(Qn 32)])]
def Y0d:MC:=.r0 X7s
def X7t:List MO:=[Qa (Qv 11) (MOp.alloc [(Qr Qu 0),(Qr Qu 0)]),Qa none (Ql 2 (Qn 11) (Qn 34))]
def Y0e:MC:=.r0 X7t
def X7u:List MO:=[Qa (Qv 12) (Qd (Qn 35))]
def Y0f:MC:=.r0 X7u
def X7v:List MO:=[Qa (Qv 36) (Qf 1 false (Qn 8)),Qa (Qv 37) (Qf 2 true (Qn 11)),Qa (Qv 38) (MOp.bslice 2 [(Qr Qu 0),(Qr Qu 0)] 1 [(0,(Qn 37))]),Qa (Qv 39) (MOp.app 66 2 16 (Qn 36) (Qn 38)),Qa (Qv 40) (Qd (Qn 12)),Qa none (Ql 1 (Qn 8) (Qn 39)),Qa none (Ql 1 (Qn 9) (Qn 40))]
def Y0g:MC:=.r0 X7v
def Y0h:MC:=.rf (Qn 33) [34,35] (.seq Y0e Y0f) (.blk 1 Y0g)
def X7w:List MO:=[Qa (Qv 41) (Qf 1 false (Qn 8)),Qa (Qv 42) (Qf 1 false (Qn 9)),Qa (Qv 43) (MOp.nilq NK.ifc false (Qn 42)),Qa (Qv 4) (Qd (Qn 41)),Qa (Qv 5) (Qd (Qn 43)),Qa (Qv 6) (Qd (Qo (Qp (Qq (Qr Qu 0)))))]
def Y0i:MC:=.reg true X7w
def Y0j:MC:=.seq Y0c (.seq (.seq Y0d (.blk 0 Y0h)) (.seq Y0i .ret))
def Y0k:MC:=.seq (.seq Wbt (.seq Wbu (.cond (Qn 18) (.seq Wbv .ret) .skip))) (.seq Y0a (.seq Y0b Y0j))
def X7x:MC:=.seq Wbs Y0k
attribute [go_sem] Yl3 Yl4 Yl5 Yl6 X7p X7q X7r X7s X7t X7u X7v X7w
theorem Wg2 : KK QP 66 f66 [2,3,29] X7x [(RV.t 4),(RV.t 5),(RV.t 6)] 44 := by refine ⟨func66,?_,?_,?_,?_⟩<;>kernel_rfl
theorem Wbw : Xaa QP 66 = true := by kernel_rfl
theorem Yl7 (h : GI QP gp [(RV.t 4),(RV.t 5),(RV.t 6)] res 44 X7x args) : Does QP gp 66 args res := Wg2.i Wbw h
def Yl8:List MO:=[Qa (Qv 3) (MOp.box (Qn 0)),Qa (Qv 6) (Qd (Qo (Qp (Qq (Qs false)))))]
def Wbx:MC:=.r0 Yl8
def Yl9:List MO:=[Qa (Qv 10) (Qg 0 (Qn 3)),Qa (Qv 11) (Qf 1 false (Qn 10)),Qa (Qv 12) (Qd (Qn 1)),Qa (Qv 13) (MOp.lkp true (Qp (Qq (Qr Qu 0))) false [Qt] (Qn 11) (Qn 12)),Qa (Qv 9) (Qd (Qn 13)),Qa (Qv 14) (Qi (Qn 9) 0),Qa (Qv 15) (Qi (Qn 9) 1),Qa (Qv 7) (Qd (Qn 14)),Qa (Qv 8) (Qd (Qn 15))]
def Wby:MC:=.r0 Yl9
def Yma:List MO:=[Qa (Qv 16) (Qg 0 (Qn 3)),Qa (Qv 17) (Qf 1 false (Qn 16)),Qa (Qv 18) (Qd (Qn 1)),Qa (Qv 19) (Qd (Qn 2)),Qa none (MOp.mupd false [Qt] (Qn 17) (Qn 18) (Qn 19))]
def Wbz:MC:=.r0 Yma
def Xpq:List MO:=[Qa (Qv 20) (Qd (Qn 8)),Qa (Qv 21) (MOp.not (Qn 20)),Qa (Qv 22) (Qd (Qn 21)),Qb 22 false (Qv 23),Qa (Qv 23) (Qd (Qn 7)),Qb 22 false (Qv 24),Qa (Qv 24) (Qd (Qn 2)),Qb 22 false (Qv 25),Qa (Qv 25) (Qe Qt Go.BinOp.eql (Qn 23) (Qn 24)),Qa (Qv 26) (Qm (Qn 22) (Qo (Qp (Qq (Qs true)))) (Qn 25)),Qa (Qv 6) (Qd (Qn 26))]
def Wb0:MC:=.r0 Xpq
def Ymb:MC:=.seq Wbx (.seq Wby (.seq Wbz (.seq Wb0 .ret)))
attribute [go_sem] Yl8 Yl9 Yma
theorem Wg3 : KK QP 67 f67 [] Ymb [(RV.t 6)] 27 := by refine ⟨func67,?_,?_,?_,?_⟩<;>kernel_rfl
theorem Ymc : Xaa QP 67 = true := by kernel_rfl
theorem Y0l (h : GT QP gp [(RV.t 6)] pre R 27 Ymb args) : Tri QP gp 67 args pre R := Wg3.t h
def Ymd:List MO:=[Qa (Qv 2) (Qd (Qo (Qp (Qq (Qr Qu 0)))))]
def Wb1:MC:=.r0 Ymd
def Yme:List MO:=[Qa (Qv 7) (Qd (Qn 0)),Qa (Qv 8) (Qk Qt (Qn 7)),Qa (Qv 9) (Qd (Qo (Qp (Qq (Qr Qu 0)))))]
def Wb2:MC:=.r0 Yme
def Ymf:List MO:=[Qa (Qv 10) (Qe Qt Go.BinOp.lss (Qn 9) (Qn 8))]
def Wb3:MC:=.r0 Ymf
def Ymg:List MO:=[Qa (Qv 11) (Qj 2 (Qn 7) (Qn 9)),Qa (Qv 12) (Qf 2 true (Qn 11)),Qa (Qv 4) (MOp.alloc [(Qr Qu 0),(D.sl [])]),Qa none (Ql 2 (Qn 4) (Qn 12))]
def Wb4:MC:=.r0 Ymg
def Ymh:List MO:=[Qa (Qv 14) (Qf 2 true (Qn 4)),Qa (Qv 15) (Qh 36 [(Qn 14)]),Qa (Qv 13) (Qd (Qn 15)),Qa (Qv 16) (Qi (Qn 13) 0),Qa (Qv 17) (Qi (Qn 13) 1),Qa (Qv 5) (Qd (Qn 16)),Qa (Qv 6) (Qd (Qn 17))]
def Wb5:MC:=.r0 Ymh
def Ymi:List MO:=[Qa (Qv 18) (Qd (Qn 6)),Qa (Qv 19) (Qe Qt Go.BinOp.neq (Qn 18) (Qo (Qp (Qq (Qr Qu 0)))))]
def Wb6:MC:=.r0 Ymi
def Ymj:List MO:=[Qa (Qv 20) (Qd (Qn 6)),Qa (Qv 2) (Qd (Qn 20))]
def Wb7:MC:=.r0 Ymj
def Y0m:MC:=.seq Wb4 (.seq Wb5 (.seq Wb6 (.cond (Qn 19) (.seq Wb7 .ret) .skip)))
def X7y:List MO:=[Qa (Qv 21) (Qe Qt Go.BinOp.add (Qn 9) (Qo (Qp (Qq (Qr Qu 1))))),Qa (Qv 9) (Qd (Qn 21))]
def Y0n:MC:=.r0 X7y
def Y0o:MC:=.seq Wb2 (.blk 0 (.loop (.seq Wb3 (.seq (.cond (Qn 10) .skip (MC.exit 0)) (.seq (.blk 1 Y0m) Y0n)))))
def X7z:List MO:=[Qa (Qv 2) (Qd (Qo (Qp (Qq (Qr Qu 0)))))]
def Y0p:MC:=.r0 X7z
def X70:MC:=.seq Wb1 (.seq Y0o (.seq Y0p .ret))
attribute [go_sem] Ymd Yme Ymf Ymg Ymh Ymi Ymj X7y X7z
theorem Wg4 : KK QP 92 f92 [] X70 [(RV.t 2)] 22 := by refine ⟨func92,?_,?_,?_,?_⟩<;>kernel_rfl
theorem Wb8 : Xaa QP 92 = true := by kernel_rfl
theorem Wb9 (h : GI QP gp [(RV.t 2)] res 22 X70 args) : Does QP gp 92 args res := Wg4.i Wb8 h
def Ymk:List MO:=[Qa (Qv 1) (MOp.box (Qn 0)),Qa (Qv 2) (Qd (Qo (Qp (Qq D.nilF))))]
def Wca:MC:=.r0 Ymk
def Yml:List MO:=[Qa (Qv 3) (MOp.mkF (Go.Fn.func 116) [(Qn 1)]),Qa (Qv 2) (Qd (Qn 3))]
def Wcb:MC:=.r0 Yml
def Ymm:MC:=.seq Wca (.seq Wcb .ret)
attribute [go_sem] Ymk Yml
theorem Wg5 : KK QP 93 f93 [] Ymm [(RV.t 2)] 4 := by refine ⟨func93,?_,?_,?_,?_⟩<;>kernel_rfl
theorem Wcc : Xaa QP 93 = true := by kernel_rfl
theorem Y0q (h : GT QP gp [(RV.t 2)] pre R 4 Ymm args) : Tri QP gp 93 args pre R := Wg5.t h
def X71:List MO:=[Qa (Qv 6) (Qf 1 false (Qn 1)),Qa (Qv 7) (MOp.nck (Qn 6)),Qa (Qv 8) (Qg 5 (Qn 7)),Qa (Qv 9) (Qf 1 false (Qn 8)),Qa (Qv 10) (Qk Qt (Qn 9)),Qa (Qv 11) (Qe Qt Go.BinOp.gtr (Qn 10) (Qo (Qp (Qq (Qr Qu 0)))))]
def Y0r:MC:=.r0 X71
def X72:List MO:=[Qa (Qv 12) (Qf 1 false (Qn 1)),Qa (Qv 13) (MOp.nck (Qn 12)),Qa (Qv 14) (Qg 5 (Qn 13)),Qa (Qv 15) (Qf 1 false (Qn 14)),Qa (Qv 16) (Qk Qt (Qn 15)),Qa (Qv 17) (Qe Qt Go.BinOp.sub (Qn 16) (Qo (Qp (Qq (Qr Qu 1))))),Qa (Qv 3) (Qd (Qn 17))]
def Y0s:MC:=.r0 X72
def X73:List MO:=[Qa (Qv 18) (Qf 1 false (Qn 1)),Qa (Qv 19) (MOp.nck (Qn 18)),Qa (Qv 20) (Qg 5 (Qn 19)),Qa (Qv 21) (Qf 1 false (Qn 20)),Qa (Qv 22) (Qd (Qn 3)),Qa (Qv 23) (Qj 2 (Qn 21) (Qn 22)),Qa (Qv 24) (Qf 2 true (Qn 23)),Qa (Qv 4) (MOp.alloc [(Qr Qu 0),(Qr Qu 0)]),Qa none (Ql 2 (Qn 4) (Qn 24))]
def Y0t:MC:=.r0 X73
def Xb8:List MO:=[Qa (Qv 25) (MOp.cld 1 false (Qn 1)),Qa (Qv 26) (MOp.cld 1 false (Qn 1)),Qa (Qv 27) (MOp.nck (Qn 26)),Qa (Qv 28) (Qg 5 (Qn 27)),Qa (Qv 29) (MOp.cld 1 false (Qn 28)),Qa (Qv 30) (Qd (Qn 3)),Qa (Qv 31) (MOp.slcR 2 (Qn 29) none (Qv (Qn 30))),Qa (Qv 32) (MOp.nck (Qn 25)),Qa (Qv 33) (Qg 5 (Qn 32)),Qa none (Ql 1 (Qn 33) (Qn 31))]
def Y0u:MC:=.reg true Xb8
def X74:List MO:=[Qa (Qv 34) (MOp.cld 1 false (Qn 1)),Qa (Qv 35) (MOp.nck (Qn 34)),Qa (Qv 36) (Qg 4 (Qn 35)),Qa (Qv 37) (MOp.cld 1 false (Qn 36)),Qa (Qv 38) (MOp.cld 2 true (Qn 4)),Qa (Qv 39) (MOp.lkp false (Qp (Qq (Qs false))) true [Qt,Qt] (Qn 37) (Qn 38))]
def Y0v:MC:=.reg true X74
def Xvu:List MO:=[Qa (Qv 40) (MOp.cld 1 false (Qn 1)),Qa (Qv 41) (MOp.nck (Qn 40)),Qa (Qv 42) (Qg 4 (Qn 41)),Qa (Qv 43) (MOp.cld 1 false (Qn 42)),Qa (Qv 44) (MOp.cld 2 true (Qn 4)),Qa none (MOp.mupd true [Qt,Qt] (Qn 43) (Qn 44) (Qo (Qp (Qq (Qs true)))))]
def Yhd:MC:=.reg true Xvu
def Xvv:List MO:=[Qa (Qv 45) (MOp.cld 1 false (Qn 1)),Qa (Qv 46) (MOp.nck (Qn 45)),Qa (Qv 47) (Qg 0 (Qn 46)),Qa (Qv 48) (MOp.cld 4 true (Qn 47)),Qa (Qv 49) (MOp.cld 2 true (Qn 4)),Qc (Qv 50) (Qh 117 [(Qn 48),(Qn 49)]),Qa (Qv 5) (Qd (Qn 50))]
def Yhe:MC:=.reg true Xvv
def Xvw:List MO:=[Qa (Qv 51) (Qd (Qn 0)),Qa (Qv 52) (Qf 2 true (Qn 4)),Qa (Qv 53) (Qd (Qn 5)),Qa (Qv 54) (MOp.callv (Qn 51) [(Qn 52),(Qn 53)]),Qa (Qv 55) (MOp.not (Qn 54)),Qa (Qv 56) (Qd (Qn 55)),Qb 56 false (Qv 57),Qa (Qv 57) (Qd (Qn 5)),Qb 56 false (Qv 58),Qa (Qv 58) (Qf 1 false (Qo (Qp (Qq (D.raw (Go.Value.pointer (Qv (Go.Addr.mk 1 0 none)))))))),Qb 56 false (Qv 59),Qa (Qv 59) (Qh 118 [(Qn 57),(Qn 58)]),Qa (Qv 60) (Qm (Qn 56) (Qo (Qp (Qq (Qs true)))) (Qn 59))]
def Yhf:MC:=.r0 Xvw
def Xvx:List MO:=[Qa (Qv 61) (MOp.cld 1 false (Qn 1)),Qa (Qv 62) (MOp.cld 1 false (Qn 1)),Qa (Qv 63) (MOp.nck (Qn 62)),Qa (Qv 64) (Qg 0 (Qn 63)),Qa (Qv 65) (MOp.cld 4 true (Qn 64)),Qa (Qv 66) (MOp.cld 2 true (Qn 4)),Qa (Qv 67) (Qh 120 [(Qn 65),(Qn 66)]),Qc (Qv 68) (Qh 119 [(Qn 61),(Qn 67)])]
def Yhg:MC:=.reg true Xvx
def Yhh:MC:=.seq Yhd (.seq Yhe (.seq (.seq Yhf (.cond (Qn 60) (MC.exit 0) .skip)) Yhg))
def Yhi:MC:=.seq Y0t (.seq Y0u (.seq (.seq Y0v (.cond (Qn 39) (MC.exit 1) .skip)) Yhh))
def Xvy:MC:=.scope (.seq .skip (.blk 0 (.loop (.seq (.seq Y0r (.cond (Qn 11) .skip (MC.exit 0))) (.blk 1 (.seq Y0s Yhi))))))
attribute [go_sem] X71 X72 X73 X74 Xvu Xvv Xvw Xvx
theorem Wcd : KK QP 116 f116 [2000] Xvy [] 69 := by refine ⟨func116,?_,?_,?_,?_⟩<;>kernel_rfl
theorem Y0w : Xaa QP 116 = true := by kernel_rfl
theorem Yhj (h : GT QP gp [] pre R 69 Xvy args) : Tri QP gp 116 args pre R := Wcd.t h
def X75:List MO:=[Qa (Qv 2) (MOp.ibox (Qn 0)),Qa (Qv 3) (MOp.ibox (Qn 1)),Qa (Qv 4) (Qd (Qo (Qp (Qq D.nilI))))]
def Y0x:MC:=.r0 X75
def X76:List MO:=[Qa (Qv 11) (Qg 0 (Qn 2)),Qa (Qv 12) (Qg 1 (Qn 11)),Qa (Qv 13) (MOp.ild 1 false (Qn 12)),Qa (Qv 14) (Qg 0 (Qn 3)),Qa (Qv 15) (MOp.ild 1 false (Qn 14)),Qa (Qv 16) (MOp.iadD 6 (Qn 13) (Qn 15)),Qa (Qv 17) (MOp.ild 6 true (Qn 16)),Qa (Qv 18) (Qg 2 (Qn 2)),Qa (Qv 19) (Qg 1 (Qn 18)),Qa (Qv 20) (MOp.ild 1 false (Qn 19)),Qa (Qv 21) (Qg 1 (Qn 3)),Qa (Qv 22) (MOp.ild 1 false (Qn 21)),Qa (Qv 23) (MOp.iadD 6 (Qn 20) (Qn 22)),Qa (Qv 24) (MOp.ild 6 true (Qn 23)),Qa (Qv 5) (MOp.ibox (Qn 17)),Qa (Qv 6) (MOp.ibox (Qn 24)),Qa none (MOp.holes [(5,6),(6,6)])]
def Y0y:MC:=.regv X76
def X77:List MO:=[Qa (Qv 26) (Qg 0 (Qn 2)),Qa (Qv 27) (Qf 2 true (Qn 26)),Qa (Qv 28) (Qg 0 (Qn 3)),Qa (Qv 29) (Qf 1 false (Qn 28)),Qa (Qv 30) (Qh 64 [(Qn 27),(Qn 29)]),Qa (Qv 25) (Qd (Qn 30)),Qa (Qv 31) (Qi (Qn 25) 0),Qa (Qv 32) (Qi (Qn 25) 1),Qa (Qv 7) (Qd (Qn 31)),Qa (Qv 8) (Qd (Qn 32))]
def Y0z:MC:=.r0 X77
def X78:List MO:=[Qa (Qv 34) (Qg 2 (Qn 2)),Qa (Qv 35) (Qf 2 true (Qn 34)),Qa (Qv 36) (Qg 1 (Qn 3)),Qa (Qv 37) (Qf 1 false (Qn 36)),Qa (Qv 38) (Qh 64 [(Qn 35),(Qn 37)]),Qa (Qv 33) (Qd (Qn 38)),Qa (Qv 39) (Qi (Qn 33) 0),Qa (Qv 40) (Qi (Qn 33) 1),Qa (Qv 9) (Qd (Qn 39)),Qa (Qv 10) (Qd (Qn 40))]
def Y00:MC:=.r0 X78
def X79:List MO:=[Qa (Qv 41) (Qg 0 (Qn 5)),Qa (Qv 42) (Qf 1 false (Qn 41)),Qa (Qv 43) (Qg 0 (Qn 6)),Qa (Qv 44) (Qf 1 false (Qn 43)),Qa (Qv 45) (Qe Qt Go.BinOp.neq (Qn 42) (Qn 44)),Qa (Qv 46) (Qd (Qn 45)),Qb 46 false (Qv 47),Qa (Qv 47) (Qg 1 (Qn 5)),Qb 46 false (Qv 48),Qa (Qv 48) (Qf 3 true (Qn 47)),Qb 46 false (Qv 49),Qa (Qv 49) (Qg 1 (Qn 6)),Qb 46 false (Qv 50),Qa (Qv 50) (Qf 3 true (Qn 49)),Qb 46 false (Qv 51),Qa (Qv 51) (MOp.eqs true [Qt,Qt,Leaf.s] (Qn 48) (Qn 50)),Qa (Qv 52) (Qm (Qn 46) (Qo (Qp (Qq (Qs true)))) (Qn 51)),Qa (Qv 53) (Qd (Qn 52)),Qb 53 false (Qv 54),Qa (Qv 54) (Qd (Qn 7)),Qb 53 false (Qv 55),Qa (Qv 55) (Qd (Qn 9)),Qb 53 false (Qv 56),Qa (Qv 56) (Qh 84 [(Qn 54),(Qn 55)]),Qb 53 false (Qv 57),Qa (Qv 57) (MOp.not (Qn 56)),Qa (Qv 58) (Qm (Qn 53) (Qo (Qp (Qq (Qs true)))) (Qn 57)),Qa (Qv 59) (Qd (Qn 58)),Qb 59 false (Qv 60),Qa (Qv 60) (Qg 5 (Qn 5)),Qb 59 false (Qv 61),Qa (Qv 61) (Qf 1 false (Qn 60)),Qb 59 false (Qv 62),Qa (Qv 62) (Qk Qt (Qn 61)),Qb 59 false (Qv 63),Qa (Qv 63) (Qg 5 (Qn 6)),Qb 59 false (Qv 64),Qa (Qv 64) (Qf 1 false (Qn 63)),Qb 59 false (Qv 65),Qa (Qv 65) (Qk Qt (Qn 64)),Qb 59 false (Qv 66),Qa (Qv 66) (Qe Qt Go.BinOp.neq (Qn 62) (Qn 65)),Qa (Qv 67) (Qm (Qn 59) (Qo (Qp (Qq (Qs true)))) (Qn 66))]
def Y01:MC:=.r0 X79
def X8a:List MO:=[Qa (Qv 68) (Qf 1 false (Qo (Qp (Qq (D.raw (Go.Value.pointer (Qv (Go.Addr.mk 1 0 none)))))))),Qa (Qv 4) (Qd (Qn 68))]
def Y02:MC:=.r0 X8a
def Xvz:List MO:=[Qa (Qv 4) (Qd (Qo (Qp (Qq D.nilI))))]
def Yhk:MC:=.r0 Xvz
def Yhl:MC:=.seq Y00 (.seq (.seq Y01 (.cond (Qn 67) (.seq Y02 .ret) .skip)) (.seq Yhk .ret))
def Xv0:MC:=.seq Y0x (.seq Y0y (.seq Y0z Yhl))
attribute [go_sem] X75 X76 X77 X78 X79 X8a Xvz
theorem Wce : KK QP 117 f117 [2,3,1002,1003] Xv0 [(RV.t 4)] 69 := by refine ⟨func117,?_,?_,?_,?_⟩<;>kernel_rfl
theorem Y03 : Xaa QP 117 = true := by kernel_rfl
theorem Y04 (h : GI QP gp [(RV.t 4)] res 69 Xv0 args) : Does QP gp 117 args res := Wce.i Y03 h
def X8b:List MO:=[Qa (Qv 2) (MOp.box (Qn 0))]
def Y05:MC:=.r0 X8b
def X8c:List MO:=[Qa (Qv 6) (Qd (Qn 1)),Qa (Qv 7) (Qh 142 [(Qn 6)])]
def Y06:MC:=.r0 X8c
def X8d:List MO:=[Qa (Qv 5) (MOp.alloc [(Qr Qu 0),(Qr Qu 0)]),Qa none (Ql 2 (Qn 5) (Qn 9))]
def Y07:MC:=.r0 X8d
def X8e:List MO:=[Qa (Qv 10) (MOp.cld 1 false (Qn 2)),Qa (Qv 11) (MOp.cld 1 false (Qn 2)),Qa (Qv 12) (MOp.nck (Qn 11)),Qa (Qv 13) (Qg 5 (Qn 12)),Qa (Qv 14) (MOp.cld 1 false (Qn 13)),Qa (Qv 15) (MOp.cld 2 true (Qn 5)),Qa (Qv 16) (MOp.bslice 2 [(Qr Qu 0),(Qr Qu 0)] 1 [(0,(Qn 15))]),Qa (Qv 17) (MOp.app 66 2 16 (Qn 14) (Qn 16)),Qa (Qv 18) (MOp.nck (Qn 10)),Qa (Qv 19) (Qg 5 (Qn 18)),Qa none (Ql 1 (Qn 19) (Qn 17))]
def Y08:MC:=.reg true X8e
def Y09:MC:=.rf (Qn 7) [8,9] Y07 (.blk 1 Y08)
def X8f:MC:=.seq Y05 (.seq Y06 (.blk 0 Y09))
attribute [go_sem] X8b X8c X8d X8e
theorem Wcf : KK QP 119 f119 [2000] X8f [] 20 := by refine ⟨func119,?_,?_,?_,?_⟩<;>kernel_rfl
theorem Y1a : Xaa QP 119 = true := by kernel_rfl
theorem Yhm (h : GT QP gp [] pre R 20 X8f args) : Tri QP gp 119 args pre R := Wcf.t h
def X8g:List MO:=[Qa (Qv 2) (MOp.ibox (Qn 0)),Qa (Qv 3) (MOp.ibox (Qn 1)),Qa (Qv 4) (Qd (Qo (Qp A.nil)))]
def Y1b:MC:=.r0 X8g
def X8h:List MO:=[Qa (Qv 12) (Qg 0 (Qn 2)),Qa (Qv 13) (Qf 2 true (Qn 12)),Qa (Qv 14) (Qg 0 (Qn 3)),Qa (Qv 15) (Qf 1 false (Qn 14)),Qa (Qv 16) (Qh 21 [(Qn 13),(Qn 15)]),Qa (Qv 11) (Qd (Qn 16)),Qa (Qv 17) (Qi (Qn 11) 0),Qa (Qv 18) (Qi (Qn 11) 1),Qa (Qv 5) (Qd (Qn 17)),Qa (Qv 6) (Qd (Qn 18))]
def Y1c:MC:=.r0 X8h
def X8i:List MO:=[Qa (Qv 20) (Qg 2 (Qn 2)),Qa (Qv 21) (Qf 2 true (Qn 20)),Qa (Qv 22) (Qg 1 (Qn 3)),Qa (Qv 23) (Qf 1 false (Qn 22)),Qa (Qv 24) (Qh 21 [(Qn 21),(Qn 23)]),Qa (Qv 19) (Qd (Qn 24)),Qa (Qv 25) (Qi (Qn 19) 0),Qa (Qv 26) (Qi (Qn 19) 1),Qa (Qv 7) (Qd (Qn 25)),Qa (Qv 8) (Qd (Qn 26))]
def Y1d:MC:=.r0 X8i
def X8j:List MO:=[Qa (Qv 9) (Qd (Qo (Qp A.nil)))]
def Y1e:MC:=.r0 X8j
def X8k:List MO:=[Qa (Qv 27) (Qd (Qn 5)),Qa (Qv 28) (Qk Qt (Qn 27)),Qa (Qv 29) (Qd (Qo (Qp (Qq (Qr Qu 0)))))]
def Y1f:MC:=.r0 X8k
def X8l:List MO:=[Qa (Qv 30) (Qe Qt Go.BinOp.lss (Qn 29) (Qn 28))]
def Y1g:MC:=.r0 X8l
def X8m:List MO:=[Qa (Qv 31) (Qd (Qn 29)),Qa (Qv 10) (Qd (Qn 31))]
def Y1h:MC:=.r0 X8m
def Xv1:List MO:=[Qa (Qv 32) (Qd (Qn 9)),Qa (Qv 33) (Qd (Qn 5)),Qa (Qv 34) (Qd (Qn 10)),Qa (Qv 35) (Qj 1 (Qn 33) (Qn 34)),Qa (Qv 36) (Qf 1 false (Qn 35)),Qa (Qv 37) (Qd (Qn 7)),Qa (Qv 38) (Qd (Qn 10)),Qa (Qv 39) (Qj 1 (Qn 37) (Qn 38)),Qa (Qv 40) (Qf 1 false (Qn 39)),Qa (Qv 41) (MOp.build [(Qr Qu 0),(Qr Qu 0)] [(0,(1,(Qn 36))),(1,(1,(Qn 40)))]),Qa (Qv 42) (MOp.bslice 2 [(Qr Qu 0),(Qr Qu 0)] 1 [(0,(Qn 41))]),Qa (Qv 43) (MOp.app 66 2 16 (Qn 32) (Qn 42)),Qa (Qv 9) (Qd (Qn 43))]
def Yhn:MC:=.reg true Xv1
def Xv2:List MO:=[Qa (Qv 44) (Qe Qt Go.BinOp.add (Qn 29) (Qo (Qp (Qq (Qr Qu 1))))),Qa (Qv 29) (Qd (Qn 44))]
def Yho:MC:=.r0 Xv2
def Yhp:MC:=.seq Y1g (.seq (.cond (Qn 30) .skip (MC.exit 0)) (.seq (.blk 1 (.seq Y1h Yhn)) Yho))
def Xdo:List MO:=[Qa (Qv 45) (Qd (Qn 9)),Qa (Qv 4) (Qd (Qn 45))]
def Yhq:MC:=.r0 Xdo
def Yhr:MC:=.seq Y1e (.seq (.seq Y1f (.blk 0 (.loop Yhp))) (.seq Yhq .ret))
def Xv3:MC:=.seq Y1b (.seq Y1c (.seq Y1d Yhr))
attribute [go_sem] X8g X8h X8i X8j X8k X8l X8m Xv1 Xv2
theorem Wcg : KK QP 120 f120 [2,3] Xv3 [(RV.t 4)] 46 := by refine ⟨func120,?_,?_,?_,?_⟩<;>kernel_rfl
theorem Y1i : Xaa QP 120 = true := by kernel_rfl
theorem Y1j (h : GI QP gp [(RV.t 4)] res 46 Xv3 args) : Does QP gp 120 args res := Wcg.i Y1i h
def X8n:List MO:=[Qa (Qv 1) (MOp.ibox (Qn 0)),Qa (Qv 2) (Qd (Qo (Qp (Qq D.nilF))))]
def Y1k:MC:=.r0 X8n
def X8o:List MO:=[Qa (Qv 3) (MOp.mkF (Go.Fn.func 153) [(Qn 1)]),Qa (Qv 2) (Qd (Qn 3))]
def Y1l:MC:=.r0 X8o
def X8p:MC:=.seq Y1k (.seq Y1l .ret)
attribute [go_sem] X8n X8o
theorem Wch : KK QP 142 f142 [1] X8p [(RV.t 2)] 4 := by refine ⟨func142,?_,?_,?_,?_⟩<;>kernel_rfl
theorem Y1m : Xaa QP 142 = true := by kernel_rfl
theorem Y1n (h : GI QP gp [(RV.t 2)] res 4 X8p args) : Does QP gp 142 args res := Wch.i Y1m h
def X8q:List MO:=[Qa (Qv 4) (Qf 1 false (Qn 1)),Qa (Qv 5) (Qk Qt (Qn 4)),Qa (Qv 6) (Qe Qt Go.BinOp.sub (Qn 5) (Qo (Qp (Qq (Qr Qu 1))))),Qa (Qv 3) (Qd (Qn 6))]
def Y1o:MC:=.r0 X8q
def X8r:List MO:=[Qa (Qv 7) (Qd (Qn 3)),Qa (Qv 8) (Qe Qt Go.BinOp.geq (Qn 7) (Qo (Qp (Qq (Qr Qu 0)))))]
def Y1p:MC:=.r0 X8r
def X8s:List MO:=[Qa (Qv 11) (Qd (Qn 0)),Qa (Qv 12) (Qd (Qn 3)),Qa (Qv 13) (Qf 1 false (Qn 1)),Qa (Qv 14) (Qd (Qn 3)),Qa (Qv 15) (Qj 2 (Qn 13) (Qn 14)),Qa (Qv 16) (Qf 2 true (Qn 15)),Qa (Qv 17) (MOp.callv (Qn 11) [(Qn 12),(Qn 16)]),Qa (Qv 18) (MOp.not (Qn 17))]
def Y1q:MC:=.r0 X8s
def Xv4:List MO:=[Qa (Qv 9) (Qd (Qn 3)),Qa (Qv 10) (Qe Qt Go.BinOp.sub (Qn 9) (Qo (Qp (Qq (Qr Qu 1))))),Qa (Qv 3) (Qd (Qn 10))]
def Yhs:MC:=.r0 Xv4
def Xv5:MC:=.seq Y1o (.blk 0 (.loop (.seq (.seq Y1p (.cond (Qn 8) .skip (MC.exit 0))) (.seq (.blk 1 (.seq Y1q (.cond (Qn 18) .ret .skip))) Yhs))))
attribute [go_sem] X8q X8r X8s Xv4
theorem Wci : KK QP 153 f153 [] Xv5 [] 19 := by refine ⟨func153,?_,?_,?_,?_⟩<;>kernel_rfl
theorem Y1r : Xaa QP 153 = true := by kernel_rfl
theorem Yht (h : GT QP gp [] pre R 19 Xv5 args) : Tri QP gp 153 args pre R := Wci.t h
end Go.Fw.L07
