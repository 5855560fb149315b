/- Chapter 13: what the rows give. -/
import Derived.Test.YtakgmpkfpkmkaaaGreatDoorL07R
import Derived.Test.YtakgmpkfpkmkaaaGreatDoorNb
import Derived.Lib.LaidTab
import Derived.Stop.LaidErr
import Derived.Test.YtakgmpkfpkmkaaaGreatDoorNc
import Derived.Test.YtakgmpkfpkmkaaaGreatDoorJa
import Derived.Test.YtakgmpkfpkmkaaaGreatDoorJd
set_option linter.all false
namespace Go.Fw.L07
open Go Go.Fw Go.Proofs Go.RowKit Go.Proofs.YtakgmpkfpkmkaaaGreatDoor
open Go.Fw.V.one renaming injEq->Qs
open Go.Fw.V.agg renaming injEq->Qt
open Go.Fw.V.tup renaming injEq->Qu
open Go.Fw.A.d renaming injEq->Qv
open Go.Fw.D.bool renaming injEq->Qw
open Go.Fw.D.int renaming injEq->Qx
open Go.Fw.D.str renaming injEq->Qy
open Go.Fw.D.sl renaming injEq->Qz
open List.cons renaming injEq->Za
set_option maxRecDepth 4000
abbrev W04 : List (String × DataW Unit) := [("math/bits.deBruijn32tab", Rows.laid_math_bits_deBruijn32tab), ("math/bits.deBruijn64tab", Rows.laid_math_bits_deBruijn64tab), ("internal/strconv.uint64pow10", Rows.laid_internal_strconv_uint64pow10)]
abbrev Xj2 : List (String × DataW Unit) := [("math/bits.deBruijn32tab", Rows.laid_math_bits_deBruijn32tab), ("math/bits.deBruijn64tab", Rows.laid_math_bits_deBruijn64tab), ("internal/strconv.uint64pow10", Rows.laid_internal_strconv_uint64pow10), ("unicode/utf8.acceptRanges", Rows.laid_unicode_utf8_acceptRanges), ("errors.errorType", Rows.laid_errors_errorType), ("unicode/utf8.first", Rows.laid_unicode_utf8_first)]
abbrev Xel : List (String × DataW Unit) := [("math/bits.deBruijn32tab", Rows.laid_math_bits_deBruijn32tab), ("math/bits.deBruijn64tab", Rows.laid_math_bits_deBruijn64tab), ("internal/strconv.uint64pow10", Rows.laid_internal_strconv_uint64pow10), ("unicode/utf8.acceptRanges", Rows.laid_unicode_utf8_acceptRanges), ("unicode/utf8.first", Rows.laid_unicode_utf8_first)]
theorem Wg7:(Lib.tabData .u64 Lib.pow10Tab:DataW Unit)=Rows.laid_internal_strconv_uint64pow10:=by kernel_rfl
theorem W0a : Tryz.prog.globalNamed "internal/strconv.uint64pow10" = some 3 := by kernel_rfl
theorem Wg8 {W : World} {rest : List (String × DataW Unit)} (h : laidMet Tryz.prog (("internal/strconv.uint64pow10", Rows.laid_internal_strconv_uint64pow10) :: rest) W) : Lib.TabIs Tryz.prog W "internal/strconv.uint64pow10" .u64 Lib.pow10Tab :=
 Lib.tabIs_of_head (t:=263) (e:=242) (n:=20) W0a (by kernel_rfl) (by kernel_rfl) (by kernel_rfl) (by kernel_rfl) (by kernel_rfl) (rest:=rest) (by rw[Wg7];exact h)
theorem Wvz {W : World} (h : Lib.TabIs Tryz.prog W "internal/strconv.uint64pow10" .u64 Lib.pow10Tab) : Xng (Xbf W) := fun H w h1 h2 => by
 unfold Lib.TabIs World.var? at h ⊢
 rw[W0a] at h ⊢
 simp only[Option.bind_some] at h ⊢
 cases hb:W.heap[(3:Nat)]? with
 | none=>rw[hb] at h;simp at h
 | some o=>rw[h2 _ _ (h1 _ _ hb)];rw[hb] at h;exact h
theorem Xp8 {W:World} (h:laidMetH Tryz.prog Xj2 W):Env13 (Xbf W):=by
 have h' : laidMet Tryz.prog Xel W /\ handlesMet Tryz.prog [("errors.errorType", Rows.laid_errors_errorType)] W := h
 have hp:=laidMet.tail (laidMet.tail h'.1)
 have hq:=laidMet.tail hp
 exact⟨Xt4 (show laidMetH Tryz.prog Wo8 W from ⟨hq,h'.2⟩),Wvz (Wg8 hp)⟩
theorem Wg9:Tryz.prog.mayEnter=true:=by kernel_rfl
noncomputable def Xfe (os:Os):World:=(Xjp os).layVars Tryz.prog Xel
theorem Xnh (os:Os):(Xfe os).os=os:=World.layVars_os _ _ _
theorem Xm3 (os:Os) (args:Array Value):laidMetH Tryz.prog Xj2 ((Xfe os).forCall (fun _ _=>0) ⟨#[],args,[]⟩).memory:=by
 refine laidMetH_of_parts ?_ (by kernel_rfl)
 have e:Xj2.filter (fun x=>x.2.handleName?.isNone)=Xel:=by kernel_rfl
 rw[e]
 have h:laidMet Tryz.prog Xel (Xfe os):=laidMet_layVars (w0:=Xjp os) (Xel.map (·.1)) [] (by
   have e1:(Xel.filter fun x=>(Xel.map (·.1)).contains x.1)=Xel:=by kernel_rfl
   rw[e1];rfl) (by kernel_rfl) (by kernel_rfl) (by
   have e2:(Xel.filter fun x=>!(Xel.map (·.1)).contains x.1)=[]:=by kernel_rfl
   rw[e2];exact LaidIn.none)
 exact h.of_heap (by simp[World.memory,World.forCall,Input.heap])
end Go.Fw.L07
namespace Go.Fw.L07
open Go Go.Fw
open Go.Fw.Sh renaming intro->Kg
open Go.Fw renaming Xkl->Ka,Xfi->Kb,Xko->Kv,Xfj->Ke,Xfl->Kf,Xkn->Kh,Xkm->Ki,Gx->Kn
open List renaming getElem?_eq_some_iff->Kr
open And renaming intro->Kp
open Go.Proofs.Tryz renaming prog->QP
open Go.Fw.V.one renaming injEq->Qs
open Go.Fw.V.agg renaming injEq->Qt
open Go.Fw.V.tup renaming injEq->Qu
open Go.Fw.A.d renaming injEq->Qv
open Go.Fw.D.bool renaming injEq->Qw
open Go.Fw.D.int renaming injEq->Qx
open Go.Fw.D.str renaming injEq->Qy
open Go.Fw.D.sl renaming injEq->Qz
open List.cons renaming injEq->Za
set_option maxRecDepth 4000
variable {gp:Heap}
theorem EmW.inv {g:Gr} {d:Nat} {c:Int} {t met met':List Int} {q:List Tr} (h:EmW g d (c::t) met q met'):∃ (i:Nat) (y:Nd) (p:Tr) (q2:List Tr) (met1:List Int),c=(i:Int)/\g.l[i]?=some y/\q=p::q2/\EmW g d t met1 q2 met' /\
  ((y.kids=[]/\met1=met/\p=.mk y.k ⟨#[]⟩ y.x y.keys [])\/(y.kids≠[]/\c∈met/\met1=met/\p=.mk 3 (Xao (anc g i)) z13 [] []) \/
    (y.kids≠[]/\c ∉ met/\∃ q1,EmW g (d+1) y.kids (met++[c]) q1 met1/\p=.mk y.k (Xao (anc g i)) y.x y.keys q1)):=by
 cases h with
 | leaf hy hk h=>exact⟨_,_,_,_,_,rfl,hy,rfl,h,.inl ⟨hk,rfl,rfl⟩⟩
 | ref hy hk hm ha h=>exact⟨_,_,_,_,_,rfl,hy,rfl,h,.inr (.inl ⟨hk,hm,rfl,rfl⟩)⟩
 | node hy hk hm hd h1 h2=>exact⟨_,_,_,_,_,rfl,hy,rfl,h2,.inr (.inr ⟨hk,hm,_,h1,rfl⟩)⟩
theorem EmW.det {g:Gr} {d:Nat} {t met m1:List Int} {q:List Tr} (h:EmW g d t met q m1):∀ {q':List Tr} {m2:List Int},EmW g d t met q' m2->q'=q/\m2=m1:=by
 induction h with
 | nil=>intro q' m2 h';cases h';exact⟨rfl,rfl⟩
 | leaf hy hk h ih =>
  intro q' m2 h'
  obtain⟨i,y,p,q2,met1,e,hy',rfl,h2,hc⟩:=h'.inv
  obtain rfl:=Int.ofNat.inj e
  rw[hy] at hy';cases hy'
  rcases hc with ⟨_,rfl,rfl⟩|⟨hn,_⟩|⟨hn,_⟩
  ·obtain⟨rfl,rfl⟩:=ih h2;exact⟨rfl,rfl⟩
  ·exact absurd hk hn
  ·exact absurd hk hn
 | ref hy hk hm ha h ih =>
  intro q' m2 h'
  obtain⟨i,y,p,q2,met1,e,hy',rfl,h2,hc⟩:=h'.inv
  obtain rfl:=Int.ofNat.inj e
  rw[hy] at hy';cases hy'
  rcases hc with ⟨hn,_⟩|⟨_,_,rfl,rfl⟩|⟨_,hn,_⟩
  ·exact absurd hn hk
  ·obtain⟨rfl,rfl⟩:=ih h2;exact⟨rfl,rfl⟩
  ·exact absurd hm hn
 | node hy hk hm hd h1 h2 ih1 ih2 =>
  intro q' m2 h'
  obtain⟨i,y,p,q2,met1,e,hy',rfl,h3,hc⟩:=h'.inv
  obtain rfl:=Int.ofNat.inj e
  rw[hy] at hy';cases hy'
  rcases hc with ⟨hn,_⟩|⟨_,hn,_⟩|⟨_,_,q1,h4,rfl⟩
  ·exact absurd hn hk
  ·exact absurd hn hm
  ·obtain⟨rfl,rfl⟩:=ih1 h4
   obtain⟨rfl,rfl⟩:=ih2 h3
   exact⟨rfl,rfl⟩
theorem Wv0 {g:Gr} (hg:Tdy g) (hd:Xd9 g) {t:Tr} {met:List Int} (h:EmW g 1 [0] [] [t] met):emT g=t:=by
 obtain⟨m,h1,_⟩:=Yh6 hg hd
 have:=(h.det h1).1
 simpa using this
abbrev k13:Sc:=⟨3,0,⟨#[107]⟩⟩
def Who:Nd:=⟨1,z13,[],[1,0]⟩
def Wwi:Nd:=⟨2,z13,[k13],[2]⟩
def Wzp:Nd:=⟨0,⟨2,5,⟨#[]⟩⟩,[],[]⟩
def g13:Gr:=⟨0,[Who,Wwi,Wzp]⟩
theorem Xoi {g:Gr} (h:(g.l.all fun x=>decide (x.keys.length<=12/\x.kids.length<=12))=true):Xc4 g:=by
 intro x hx
 have:=List.all_eq_true.1 h x hx
 simpa using this
theorem Xla:Good g13:=⟨by kernel_rfl,Xoi (by kernel_rfl)⟩
theorem Wv1:kd g13 0=[1,0]:=by kernel_rfl
theorem Wv2:kd g13 1=[2]:=by kernel_rfl
theorem Wv3:kd g13 2=[]:=by kernel_rfl
theorem Yqr:Xa9 g13=[0,1,2]:=by
 have:Walks (kd g13) [0] [] [0,1,2]:=by
  refine .step (by simp) ?_
  rw[Wv1]
  refine .step (by simp) ?_
  rw[Wv2]
  refine .step (by simp) ?_
  rw[Wv3]
  exact .skip (by simp) (.nil _)
 exact this.eq
theorem Yip:(⟨0,[0,1,2].map fun i=>Xbk [0,1,2] (Xbb g13.l i)⟩:Gr)=g13:=by kernel_rfl
theorem Yqs:Xau g13=g13:=by
 have:Xau g13=⟨0,[0,1,2].map fun i=>Xbk [0,1,2] (Xbb g13.l i)⟩:=by rw[<- Yqr];rfl
 rw[this,Yip]
theorem Xuv:Tdy g13:=by have:=Xla.tdy;rwa [Yqs] at this
theorem Xp9:Xgc g13=[1,0,0]:=by kernel_rfl
theorem Wha:Xja g13=[1,2,3]:=by
 have h2:DepW (kd g13) 3 [((2:Nat):Int)] [1,2,0] [1,2,3]:=by
  refine .step (x:=0) rfl (by omega) (b:=[1,2,3]) ?_ (.nil _ _)
  rw[show kd g13 ((2:Nat):Int)=[] from Wv3]
  exact .nil _ _
 have h1:DepW (kd g13) 2 [((1:Nat):Int),((0:Nat):Int)] [1,0,0] [1,2,3]:=by
  refine .step (x:=0) rfl (by omega) (b:=[1,2,3]) ?_ (.skip (x:=1) rfl (by omega) (.nil _ _))
  rw[show kd g13 ((1:Nat):Int)=[2] from Wv2]
  exact h2
 have h0:DepW (kd g13) 1 [((0:Nat):Int)] [0,0,0] [1,2,3]:=by
  refine .step (x:=0) rfl (by omega) (b:=[1,2,3]) ?_ (.nil _ _)
  rw[show kd g13 ((0:Nat):Int)=[1,0] from Wv1]
  exact h1
 exact h0.eq
theorem X0h:Xd9 g13:=by
 intro i x d hx hd
 rw[Wha] at hd
 match i,hd with
 | 0,hd=>cases hd;omega
 | 1,hd=>cases hd;omega
 | 2,hd=>cases hd;omega
theorem X0i:anc g13 0=1:=by unfold anc;rw[Xp9];rfl
theorem Yiq:Xee g13=3:=by
 unfold Xee
 have h0:anc g13 0=1:=X0i
 have h1:anc g13 1=0:=by unfold anc;rw[Xp9];rfl
 have h2:anc g13 2=0:=by unfold anc;rw[Xp9];rfl
 show ((0+(if 0 < anc g13 0 then _ else _))+(if 0 < anc g13 1 then _ else _))+(if 0 < anc g13 2 then _ else _)=(3:Int)
 rw[h0,h1,h2]
 decide
abbrev t13:Tr:=.mk 1 (Xao 1) z13 [] [.mk 2 ⟨#[]⟩ z13 [k13] [.mk 0 ⟨#[]⟩ ⟨2,5,⟨#[]⟩⟩ [] []],.mk 3 (Xao 1) z13 [] []]
theorem Wv4:EmW g13 1 [0] [] [t13] [0,1]:=by
 have h2:EmW g13 3 [((2:Nat):Int)] [0,1] [.mk 0 ⟨#[]⟩ ⟨2,5,⟨#[]⟩⟩ [] []] [0,1]:=.leaf (y:=Wzp) rfl rfl (.nil _ _)
 have h1:EmW g13 2 [((1:Nat):Int),((0:Nat):Int)] [0] [.mk 2 ⟨#[]⟩ z13 [k13] [.mk 0 ⟨#[]⟩ ⟨2,5,⟨#[]⟩⟩ [] []],.mk 3 (Xao 1) z13 [] []] [0,1]:=by
  have hr:EmW g13 2 [((0:Nat):Int)] [0,1] [.mk 3 (Xao 1) z13 [] []] [0,1]:=by
   have:=EmW.ref (g:=g13) (d:=2) (i:=0) (y:=Who) (t:=[]) (met:=[0,1]) (met':=[0,1]) (q:=[]) rfl (by simp[Who]) (by simp) (by rw[X0i];decide) (.nil _ _)
   rwa [X0i] at this
  have h1a:anc g13 1=0:=by unfold anc;rw[Xp9];rfl
  have:=EmW.node (g:=g13) (d:=2) (i:=1) (y:=Wwi) (t:=[((0:Nat):Int)]) (met:=[0]) (met1:=[0,1]) (met':=[0,1]) rfl (by simp[Wwi]) (by simp) (by omega) h2 hr
  rw[h1a,Xd4 (by omega)] at this
  exact this
 have:=EmW.node (g:=g13) (d:=1) (i:=0) (y:=Who) (t:=[]) (met:=[]) (met1:=[0,1]) (met':=[0,1]) rfl (by simp[Who]) (by simp) (by omega) h1 (.nil _ _)
 rw[X0i] at this
 exact this
theorem Xsw:Xdn t13=[[38,97,49],[45],[32,32,34,107,34,58,32,53],[45,32,42,97,49]]:=by kernel_rfl
theorem Whb:Xez g13=(Xdn t13,0):=by
 have he:=Wv0 Xuv X0h Wv4
 rw[Xup ⟨Xuv.good.c,Xuv.self⟩ X0h (by rw[Yiq];omega) (by rw[he,Xsw];decide),he]
theorem Xi5:∀ x∈g13.l,x.short:=by
 intro x hx
 simp only[g13,List.mem_cons,List.not_mem_nil,or_false] at hx
 rcases hx with rfl|rfl|rfl <;> simp[Nd.short,Sc.short,Who,Wwi,Wzp] <;> decide
theorem X2a (h:Env13 gp):Does QP gp 9 [] (vb true):=by
 have c1:=Xst h Xla.s Xi5
 have c2:=Wgn h Xla.s Xi5
 have c3:=Wuo h Xla.s Xi5
 have hs1:Xc4 (⟨1,g13.l⟩:Gr):=Xoi (by kernel_rfl)
 have c4:=Xst h hs1 Xi5
 rw[X0c (g:=⟨1,g13.l⟩) (fun e=>by have:=congrArg Gr.root e.2;cases this)] at c4
 rw[Whb,Xsw] at c1 c2 c3
 have e1:bT (Xcj [[38,97,49],[45],[32,32,34,107,34,58,32,53],[45,32,42,97,49]])=⟨#[38,97,49,10,45,10,32,32,34,107,34,58,32,53,10,45,32,42,97,49,10]⟩:=rfl
 have e2:Xah [[38,97,49],[45],[32,32,34,107,34,58,32,53],[45,32,42,97,49]]=21:=rfl
 simp only[e1,e2] at c1 c2 c3
 refine Wxc ?_
 simp only[go_sem]
 repeat' first|refine Kn rfl ?_|((first|refine Ka ?_|refine Kb ?_|refine Kv ?_|refine Ke ?_);simp only[go_sem])|refine Kf ?_|refine Kg ?_|refine⟨_,c1,Kg ?_⟩|refine⟨_,⟨c1,rfl⟩,Kg ?_⟩|refine⟨_,c2,Kg ?_⟩|refine⟨_,⟨c2,rfl⟩,Kg ?_⟩|refine⟨_,c3,Kg ?_⟩|refine⟨_,⟨c3,rfl⟩,Kg ?_⟩|refine⟨_,c4,Kg ?_⟩|refine⟨_,⟨c4,rfl⟩,Kg ?_⟩|apply Kp<;>intro _|((first|refine Kh ?_|refine Ki rfl ?_);simp only[or_self,Qs,Qt,Qu,Qv,Qw,Qx,Qy,Qz,Za,go_sem])
 all_goals (rename_i hh;exact absurd rfl hh)
def Xqa:List UInt8->Nat
 | []=>0
 | c::s=>if c=32 then Xqa s+1 else 0
theorem X0j {c:UInt8} {r:List UInt8} (h:c≠32):∀ n,Xqa (Xew n++c::r)=n
 | 0=>by show (if c=32 then _ else 0)=0;rw[if_neg h]
 | n+1=>by
  have:=X0j (r:=r) h n
  show (if (32:UInt8)=32 then Xqa (Xew n++c::r)+1 else 0)=n+1
  rw[if_pos rfl,this]
def Wv5:Int->List (List UInt8)->Prop
 | _,[]=>True
 | last,s::l=>(Xqa s < s.length/\Xqa s % 2=0/\(Xqa s:Int)<=last+2)/\Wv5 (Xqa s) l
def Wzq (T:List (List UInt8)):Nat->Int
 | 0=>-2
 | i+1=>Xqa ((T[i]?).getD [])
theorem Wv5.at:∀ {l:List (List UInt8)} {last:Int},Wv5 last l->∀ {i:Nat} {s:List UInt8},l[i]?=some s->Xqa s < s.length/\Xqa s % 2=0/\(i=0->(Xqa s:Int)<=last+2)/\(∀ k t,i=k+1->l[k]?=some t->(Xqa s:Int)<=Xqa t+2)
 | [],_,_,i,s,h=>by simp at h
 | u::l,last,hi,0,s,h=>by
  simp at h;subst h
  exact⟨hi.1.1,hi.1.2.1,fun _=>hi.1.2.2,fun k t e=>by omega⟩
 | u::l,last,hi,i+1,s,h=>by
  have:=hi.2.at (i:=i) (s:=s) (by simpa using h)
  refine⟨this.1,this.2.1,fun e=>by omega,fun k t e ht=>?_⟩
  obtain rfl:k=i:=by omega
  cases k with
  | zero=>simp at ht;subst ht;exact this.2.2.1 rfl
  | succ k=>exact this.2.2.2 k t rfl (by simpa using ht)
theorem Wv5.last {T:List (List UInt8)} (h:Wv5 (-2) T) {i:Nat} {s:List UInt8} (hs:T[i]?=some s):Xqa s < s.length/\Xqa s % 2=0/\(Xqa s:Int)<=Wzq T i+2:=by
 have:=h.at hs
 refine⟨this.1,this.2.1,?_⟩
 cases i with
 | zero=>exact this.2.2.1 rfl
 | succ k =>
  obtain⟨t,ht⟩:=Xal (l:=T) (i:=k) (by have:=(Kr.1 hs).1;omega)
  show _<=((Xqa ((T[k]?).getD []):Nat):Int)+2
  rw[ht]
  exact this.2.2.2 k t rfl ht
def NoB (h:List UInt8):Prop:=∃ c r,h=c::r/\c≠32
theorem NoB.app {h:List UInt8} (hh:NoB h) (t:List UInt8):NoB (h++t):=by obtain⟨c,r,rfl,hc⟩:=hh;exact⟨c,r++t,rfl,hc⟩
theorem Whc {x:Sc} (h:prR Xak x=true):NoB (scB x):=by
 unfold scB Xf7
 rcases Xcd h with ⟨h1,h2⟩|⟨h1,h2,h3⟩|⟨h1,h2,h3⟩|⟨h1,_⟩
 ·rw[if_pos h1];exact⟨_,_,rfl,by decide⟩
 ·rw[if_neg (by omega),if_pos h1]
  split
  ·exact⟨_,_,rfl,by decide⟩
  ·exact⟨_,_,rfl,by decide⟩
 ·rw[if_neg (by omega),if_neg (by omega),if_pos h1]
  cases e:Lib.itoa x.n with
  | nil=>exact absurd e (Yea _)
  | cons b t =>
   refine⟨b,t,rfl,fun hb=>?_⟩
   have:=Xf5 x.n b (by rw[e];simp)
   rw[hb] at this
   revert this;decide
 ·rw[if_neg (by omega),if_neg (by omega),if_neg (by omega)];exact⟨_,_,rfl,by decide⟩
def W1b (T:List (List UInt8)) (i:Nat):ByteArray:=bT (Xcj (T.take i))
theorem Xm4 {b:UInt8}:∀ {t t' u v:List UInt8},b ∉ t->b ∉ t'->(∀ c r,u=c::r->c=b)->(∀ c r,v=c::r->c=b)->t++u=t'++v->t=t'/\u=v
 | [],[],_,_,_,_,_,_,h=>⟨rfl,h⟩
 | [],c::t',u,v,_,h',hu,_,h=>absurd (hu c (t'++v) h) (fun e=>h' (by rw[<- e];simp))
 | c::t,[],u,v,h',_,_,hv,h=>absurd (hv c (t++u) h.symm) (fun e=>h' (by rw[<- e];simp))
 | c::t,c'::t',u,v,h1,h2,hu,hv,h=>by
  obtain⟨e1,e2⟩:=List.cons.inj h
  obtain⟨e3,e4⟩:=Xm4 (fun k=>h1 (List.mem_cons_of_mem _ k)) (fun k=>h2 (List.mem_cons_of_mem _ k)) hu hv e2
  exact⟨by rw[e1,e3],e4⟩
theorem Xff {b:UInt8} (r:List UInt8):∀ c r',b::r=c::r'->c=b:=fun _ _ e=>(List.cons.inj e).1.symm
theorem Xgw (s:List UInt8) (l:List (List UInt8)):Xcj (s::l)=s++10::Xcj l:=by unfold Xcj;rw[List.flatMap_cons];simp
theorem Xsx:∀ {l m:List (List UInt8)},(∀ s∈l,(10:UInt8) ∉ s)->(∀ s∈m,(10:UInt8) ∉ s)->Xcj l=Xcj m->l=m
 | [],[],_,_,_=>rfl
 | [],s::m,_,_,h=>by rw[Xgw] at h;simp[Xcj] at h
 | s::l,[],_,_,h=>by rw[Xgw] at h;simp[Xcj] at h
 | s::l,s'::m,h1,h2,h=>by
  rw[Xgw,Xgw] at h
  obtain⟨e1,e2⟩:=Xm4 (h1 s (by simp)) (h2 s' (by simp)) (Xff _) (Xff _) h
  rw[e1,Xsx (fun s hs=>h1 s (by simp[hs])) (fun s hs=>h2 s (by simp[hs])) (List.cons.inj e2).2]
theorem Yqt {r:Int} (h:okR r) (hr:r≠10):(10:UInt8) ∉ Lib.encodeRune r:=by
 unfold okR at h
 have k:∀ a:Int,0<=a->a < 256->a≠10->(10:UInt8)≠a.toNat.toUInt8:=fun a h0 h1 h2 e=>h2 (Xfm (a:=10) (b:=a) (by omega) (by omega) e).symm
 unfold Lib.encodeRune
 by_cases h1:r<=127
 ·rw[Lib.encodeRuneZ_one (by omega) h1]
  simp only[List.map_cons,List.map_nil,List.mem_cons,List.not_mem_nil,or_false]
  exact k _ (by omega) (by omega) hr
 ·by_cases h2:r<=2047
  ·rw[Lib.encodeRuneZ_two (by omega) h2]
   simp only[List.map_cons,List.map_nil,List.mem_cons,List.not_mem_nil,or_false]
   rintro (e|e)
   ·exact k _ (by omega) (by omega) (by omega) e
   ·exact k _ (by omega) (by omega) (by omega) e
  ·by_cases h3:r<=65535
   ·rw[Lib.encodeRuneZ_three (by omega)]
    simp only[List.map_cons,List.map_nil,List.mem_cons,List.not_mem_nil,or_false]
    rintro (e|e|e)
    ·exact k _ (by omega) (by omega) (by omega) e
    ·exact k _ (by omega) (by omega) (by omega) e
    ·exact k _ (by omega) (by omega) (by omega) e
   ·rw[Lib.encodeRuneZ_four (by omega) (by omega)]
    simp only[List.map_cons,List.map_nil,List.mem_cons,List.not_mem_nil,or_false]
    rintro (e|e|e|e)
    ·exact k _ (by omega) (by omega) (by omega) e
    ·exact k _ (by omega) (by omega) (by omega) e
    ·exact k _ (by omega) (by omega) (by omega) e
    ·exact k _ (by omega) (by omega) (by omega) e
theorem Whd {r:Int} (h:okR r):∀ x∈pcR r,x≠10:=by
 unfold okR at h
 unfold pcR Xys
 intro x hx
 (repeat' split at hx) <;> simp only[List.mem_cons,List.not_mem_nil,or_false] at hx <;> omega
theorem Xuw (b:UInt8) (hb:¬ (b=45\/(48<=b.toNat/\b.toNat<=57))) (n:Int):b ∉ Lib.itoa n:=fun h=>hb (Xf5 n b h)
theorem Yir {s:ByteArray} (h:Xak s=true):(10:UInt8) ∉ Xub s:=by
 unfold Xub
 simp only[List.mem_cons,List.mem_append,List.not_mem_nil,or_false]
 rintro (e|e|e)
 ·exact absurd e (by decide)
 ·unfold Xd5 at e
  obtain⟨a,ha,e⟩:=List.mem_flatMap.1 e
  obtain⟨r,hr,ha⟩:=List.mem_flatMap.1 ha
  have:=Xyr h r hr
  exact Yqt (X1l this a ha) (Whd this a ha) e
 ·exact absurd e (by decide)
theorem X0k {x:Sc} (h:prR Xak x=true):(10:UInt8) ∉ scB x:=by
 unfold scB Xf7
 rcases Xcd h with ⟨h1,h2⟩|⟨h1,h2,h3⟩|⟨h1,h2,h3⟩|⟨h1,h2,h3⟩
 ·rw[if_pos h1];decide
 ·rw[if_neg (by omega),if_pos h1]
  split <;> decide
 ·rw[if_neg (by omega),if_neg (by omega),if_pos h1]
  exact Xuw 10 (by decide) _
 ·rw[if_neg (by omega),if_neg (by omega),if_neg (by omega)]
  exact Yir h3
theorem X2b (n:Int):(10:UInt8) ∉ (Xao n).data.toList:=by
 by_cases h:n > 0
 ·rw[Xev h,List.mem_cons]
  rintro (e|e)
  ·exact absurd e (by decide)
  ·exact Xuw 10 (by decide) _ e
 ·rw[Xd4 h];simp
theorem Xsy {g:Gr} (hg:Tdy g) {i:Nat} {x:Nd} (hx:g.l[i]?=some x):(10:UInt8) ∉ Xex x:=by
 rcases Xcr hg hx with ⟨h0,_,_,h2⟩|⟨h0,_⟩|⟨h0,_⟩
 ·show _ ∉ (if x.k=0 then scB x.x else if x.k=1 then _ else _)
  rw[if_pos h0];exact X0k h2
 ·show _ ∉ (if x.k=0 then scB x.x else if x.k=1 then _ else _)
  rw[if_neg (by omega),if_pos h0];decide
 ·show _ ∉ (if x.k=0 then scB x.x else if x.k=1 then _ else _)
  rw[if_neg (by omega),if_neg (by omega)];decide
theorem Xoj {g:Gr} (hg:Tdy g) {i:Nat} {x:Nd} (hx:g.l[i]?=some x) (hk:x.kids≠[]) (n:Nat):∀ h∈Xap x.k x.keys n,(10:UInt8) ∉ h:=by
 intro h hm
 rcases Xcr hg hx with ⟨_,h1,_⟩|⟨h0,_⟩|⟨h0,_,h2,_⟩
 ·exact absurd h1 hk
 ·unfold Xap at hm;rw[if_pos h0,List.mem_replicate] at hm;rw[hm.2];decide
 ·unfold Xap at hm
  rw[if_neg (by omega)] at hm
  obtain⟨y,hy,rfl⟩:=List.mem_map.1 hm
  have:=X0k (List.all_eq_true.1 h2 y hy)
  simp only[List.mem_append,List.mem_singleton]
  rintro (e|e)
  ·exact this e
  ·exact absurd e (by decide)
theorem Xi6 {y:Nd} (h3:y.k≠3):stB (.mk y.k ⟨#[]⟩ y.x y.keys [])=32::Xex y:=by
 unfold stB
 rw[if_neg (by exact h3)]
 exact if_pos rfl
theorem Xm5 (n:Int):stB (.mk 3 (Xao n) z13 [] [])=32::42::(Xao n).data.toList:=if_pos rfl
theorem Xi7 {y:Nd} {q1:List Tr} (n:Int) (h3:y.k≠3) (hq:q1≠[]):stB (.mk y.k (Xao n) y.x y.keys q1)=if Xao n=⟨#[]⟩ then [] else 32::38::(Xao n).data.toList:=by
 unfold stB
 rw[if_neg (by exact h3),if_neg (by exact hq)];rfl
theorem Xm6 {n:Nat} {h s:List UInt8} (hh:(10:UInt8) ∉ h) (hs:(10:UInt8) ∉ s):(10:UInt8) ∉ Xew n++(h++s):=by
 unfold Xew
 simp only[List.mem_append,List.mem_replicate]
 rintro (e|e|e)
 ·exact absurd e.2 (by decide)
 ·exact hh e
 ·exact hs e
theorem Xho {s:List UInt8} (h:(10:UInt8) ∉ s):(10:UInt8) ∉ 32::s:=by
 rw[List.mem_cons]
 rintro (e|e)
 ·exact absurd e (by decide)
 ·exact h e
theorem Xm7 {c:UInt8} (hc:(10:UInt8)≠c) (n:Int):(10:UInt8) ∉ c::(Xao n).data.toList:=by
 rw[List.mem_cons]
 rintro (e|e)
 ·exact hc e
 ·exact X2b n e
theorem X2c {g:Gr} (hg:Tdy g) {d:Nat} {t met met':List Int} {q:List Tr} (h:EmW g d t met q met'):∀ (n:Nat) (hs:List (List UInt8)),(∀ h∈hs,(10:UInt8) ∉ h)->∀ s∈lnK n hs q,(10:UInt8) ∉ s:=by
 induction h with
 | nil=>intro n hs _ s h;rw[Xb6] at h;cases h
 | leaf hy hk h ih =>
  intro n hs hh s hm
  cases hs with
  | nil=>cases hm
  | cons h0 hs =>
   rw[Xcf,Xfn,List.mem_append,List.mem_cons] at hm
   rcases hm with (rfl|hm)|hm
   ·refine Xm6 (hh h0 (by simp)) ?_
    rw[Xi6 (Xbj hg hy)]
    exact Xho (Xsy hg hy)
   ·rw[show (Tr.mk _ _ _ _ []).kids=[] from rfl,Xb6] at hm;cases hm
   ·exact ih n hs (fun h hm=>hh h (by simp[hm])) s hm
 | ref hy hk hm0 ha h ih =>
  intro n hs hh s hm
  cases hs with
  | nil=>cases hm
  | cons h0 hs =>
   rw[Xcf,Xfn,List.mem_append,List.mem_cons] at hm
   rcases hm with (rfl|hm)|hm
   ·refine Xm6 (hh h0 (by simp)) ?_
    rw[Xm5]
    exact Xho (Xm7 (by decide) _)
   ·rw[show (Tr.mk _ _ _ _ []).kids=[] from rfl,Xb6] at hm;cases hm
   ·exact ih n hs (fun h hm=>hh h (by simp[hm])) s hm
 | @node d i y t met met1 met' q1 q2 hy hk hm0 hd h1 h2 ih1 ih2 =>
  intro n hs hh s hm
  cases hs with
  | nil=>cases hm
  | cons h0 hs =>
   have hq1:q1≠[]:=fun e=>hk (List.eq_nil_of_length_eq_zero (by rw[<- h1.len,e];rfl))
   rw[Xcf,Xfn,List.mem_append,List.mem_cons] at hm
   rcases hm with (rfl|hm)|hm
   ·refine Xm6 (hh h0 (by simp)) ?_
    rw[Xi7 _ (Xbj hg hy) hq1]
    split
    ·simp
    ·exact Xho (Xm7 (by decide) _)
   ·exact ih1 (n+2) _ (Xoj hg hy hk _) s hm
   ·exact ih2 n hs (fun h hm=>hh h (by simp[hm])) s hm
theorem Xfg {x:Sc} (h:prR Xak x=true):∃ c r,scB x=c::r/\c ∉ ([32,38,42,91,123]:List UInt8)/\(c=45->∃ b r',r=b::r'/\b≠32):=by
 unfold scB Xf7
 rcases Xcd h with ⟨h1,h2⟩|⟨h1,h2,h3⟩|⟨h1,h2,h3⟩|⟨h1,h2,h3⟩
 ·rw[if_pos h1];exact⟨_,_,rfl,by decide,fun e=>absurd e (by decide)⟩
 ·rw[if_neg (by omega),if_pos h1]
  split
  ·exact⟨_,_,rfl,by decide,fun e=>absurd e (by decide)⟩
  ·exact⟨_,_,rfl,by decide,fun e=>absurd e (by decide)⟩
 ·rw[if_neg (by omega),if_neg (by omega),if_pos h1]
  have dg:∀ (u:Nat),∃ b r,Lib.decDigits u=b::r/\48<=b.toNat/\b.toNat<=57:=fun u=>by
   cases e:Lib.decDigits u with
   | nil=>exact absurd e (Yd9 u)
   | cons b r=>exact⟨b,r,rfl,Xk2 u b (by rw[e];simp)⟩
  unfold Lib.itoa
  split
  ·obtain⟨b,r,e,hb⟩:=dg (-x.n).toNat
   first
    | (refine⟨45,_,rfl,by decide,fun _=>⟨b,r,e,?_⟩⟩;rintro rfl;revert hb;decide)
    | (obtain⟨b,r,e,hb⟩:=dg x.n.natAbs;refine⟨45,_,rfl,by decide,fun _=>⟨b,r,e,?_⟩⟩;rintro rfl;revert hb;decide)
  ·obtain⟨b,r,e,hb⟩:=dg x.n.toNat
   refine⟨b,r,e,fun hm=>?_,fun e45=>?_⟩
   ·simp only[List.mem_cons,List.not_mem_nil,or_false] at hm
    rcases hm with rfl|rfl|rfl|rfl|rfl <;> (revert hb;decide)
   ·subst e45;exact absurd hb (by decide)
 ·rw[if_neg (by omega),if_neg (by omega),if_neg (by omega)]
  exact⟨_,_,rfl,by decide,fun e=>absurd e (by decide)⟩
theorem X0l {x:Sc} (h:prR Xak x=true) (hk:x.k≠3):(58:UInt8) ∉ scB x:=by
 unfold scB Xf7
 rcases Xcd h with ⟨h1,h2⟩|⟨h1,h2,h3⟩|⟨h1,h2,h3⟩|⟨h1,_⟩
 ·rw[if_pos h1];decide
 ·rw[if_neg (by omega),if_pos h1]
  split <;> decide
 ·rw[if_neg (by omega),if_neg (by omega),if_pos h1]
  exact Xuw 58 (by decide) _
 ·exact absurd h1 hk
theorem Xi8 {x y:Sc} {u v:List UInt8} (hx:prR Xak x=true) (hy:prR Xak y=true) (hu:∀ c r,u=c::r->c=58) (hv:∀ c r,v=c::r->c=58) (h:scB x++u=scB y++v):x=y/\u=v:=by
 have q3:∀ z:Sc,z.k=3->scB z=Xub z.s:=fun z hz=>by unfold scB;rw[if_neg (by omega),if_neg (by omega),if_neg (by omega)]
 by_cases kx:x.k=3 <;> by_cases ky:y.k=3
 ·rw[q3 x kx,q3 y ky] at h
  rcases Xcd hx with ⟨h1,_⟩|⟨h1,_⟩|⟨h1,_⟩|⟨_,h1,h2⟩ <;> rcases Xcd hy with ⟨k1,_⟩|⟨k1,_⟩|⟨k1,_⟩|⟨_,k1,k2⟩ <;> try omega
  obtain⟨e1,e2⟩:=Xyt h2 k2 h
  exact⟨Xyu (kx.trans ky.symm) (h1.trans k1.symm) e1,e2⟩
 ·obtain⟨_,b,t,e1,e2⟩:=Xgn hy ky
  rw[q3 x kx,e1] at h
  exact absurd (List.cons.inj h).1.symm e2
 ·obtain⟨_,b,t,e1,e2⟩:=Xgn hx kx
  rw[q3 y ky,e1] at h
  exact absurd (List.cons.inj h).1 e2
 ·obtain⟨e1,e2⟩:=Xm4 (X0l hx kx) (X0l hy ky) hu hv h
  exact⟨Yee hx hy kx ky e1,e2⟩
def HdQ (h:List UInt8):Prop:=h=[45]\/∃ x,prR Xak x=true/\h=scB x++[58]
def TlQ (t:List UInt8):Prop:=∀ c r,t=c::r->c=32
theorem Yis (t:Tr):TlQ (stB t):=by
 intro c r h
 unfold stB at h
 (repeat' split at h) <;> first|exact (List.cons.inj h).1.symm|cases h
theorem Yqu {x:Sc} (hx:prR Xak x=true) {t u:List UInt8} (ht:TlQ t) (h:45::t=scB x++u):False:=by
 obtain⟨c,r,e,_,h2⟩:=Xfg hx
 rw[e] at h
 obtain⟨h3,h4⟩:=List.cons.inj h
 obtain⟨b,r',e2,hb⟩:=h2 h3.symm
 rw[e2] at h4
 exact hb (ht b _ h4)
theorem Wv6 {h k t u:List UInt8} (hh:HdQ h) (hk:HdQ k) (ht:TlQ t) (hu:TlQ u) (e:h++t=k++u):h=k/\t=u:=by
 rcases hh with rfl|⟨x,hx,rfl⟩ <;> rcases hk with rfl|⟨y,hy,rfl⟩
 ·exact⟨rfl,(List.cons.inj e).2⟩
 ·rw[List.append_assoc] at e;exact (Yqu hy ht e).elim
 ·rw[List.append_assoc] at e;exact (Yqu hx hu e.symm).elim
 ·rw[List.append_assoc,List.append_assoc] at e
  obtain⟨rfl,e2⟩:=Xi8 hx hy (Xff _) (Xff _) e
  exact⟨rfl,(List.cons.inj e2).2⟩
theorem HdQ.noB {h:List UInt8} (hh:HdQ h):NoB h:=by
 rcases hh with rfl|⟨x,hx,rfl⟩
 ·exact⟨_,_,rfl,by decide⟩
 ·exact (Whc hx).app _
theorem Xm8 {g:Gr} (hg:Tdy g) {i:Nat} {x:Nd} (hx:g.l[i]?=some x) (hk:x.kids≠[]) (n:Nat):∀ h∈Xap x.k x.keys n,HdQ h:=by
 intro h hm
 rcases Xcr hg hx with ⟨_,h1,_⟩|⟨h0,_⟩|⟨h0,_,h2,_⟩
 ·exact absurd h1 hk
 ·unfold Xap at hm;rw[if_pos h0,List.mem_replicate] at hm;exact .inl hm.2
 ·unfold Xap at hm
  rw[if_neg (by omega)] at hm
  obtain⟨y,hy,rfl⟩:=List.mem_map.1 hm
  exact .inr ⟨y,List.all_eq_true.1 h2 y hy,rfl⟩
theorem X0m:∀ {A B:List Sc},(∀ x∈A,prR Xak x=true)->(∀ x∈B,prR Xak x=true)->(A.map fun x=>scB x++[58])=(B.map fun x=>scB x++[58])->A=B
 | [],[],_,_,_=>rfl
 | [],_::_,_,_,h=>by cases h
 | _::_,[],_,_,h=>by cases h
 | a::A,b::B,ha,hb,h=>by
  obtain⟨h1,h2⟩:=List.cons.inj h
  rw[(Xi8 (ha a (by simp)) (hb b (by simp)) (Xff _) (Xff _) h1).1,X0m (fun x hx=>ha x (by simp[hx])) (fun x hx=>hb x (by simp[hx])) h2]
theorem Xsz {g h:Gr} (hg:Tdy g) (hh:Tdy h) {i j:Nat} {y z:Nd} (hy:g.l[i]?=some y) (hz:h.l[j]?=some z) (hk:y.kids≠[]) (hk2:z.kids≠[]) {n m:Nat} (hn:n=y.kids.length) (hm:m=z.kids.length)
  (e:Xap y.k y.keys n=Xap z.k z.keys m):y.k=z.k/\y.x=z.x/\y.keys=z.keys:=by
 subst hn;subst hm
 have hz0:∀ w:Sc,isZ w=true->w=⟨0,0,⟨#[]⟩⟩:=fun w hw=>by unfold isZ at hw;exact of_decide_eq_true hw
 have no:∀ (n:Nat) (l:List Sc),n≠0->(∀ x∈l,prR Xak x=true)->List.replicate n [(45:UInt8)]≠l.map fun x=>scB x++[58]:=by
  intro n l hn hl e
  cases n with
  | zero=>exact hn rfl
  | succ n =>
   cases l with
   | nil=>cases e
   | cons x l =>
    have:=(List.cons.inj e).1
    exact Yqu (hl x (by simp)) (t:=[]) (fun _ _ h=>by cases h) this
 have l1:y.kids.length≠0:=fun e=>hk (List.eq_nil_of_length_eq_zero e)
 have l2:z.kids.length≠0:=fun e=>hk2 (List.eq_nil_of_length_eq_zero e)
 unfold Xap at e
 rcases Xcr hg hy with ⟨_,h1,_⟩|⟨h0,h1,h2⟩|⟨h0,h1,h2,h3⟩
 ·exact absurd h1 hk
 ·rw[if_pos h0] at e
  rcases Xcr hh hz with ⟨_,k1,_⟩|⟨k0,k1,k2⟩|⟨k0,k1,k2,k3⟩
  ·exact absurd k1 hk2
  ·exact⟨h0.trans k0.symm,(hz0 _ h2).trans (hz0 _ k2).symm,h1.trans k1.symm⟩
  ·rw[if_neg (by omega)] at e
   exact absurd e (no _ _ l1 (fun x hx=>List.all_eq_true.1 k2 x hx))
 ·rw[if_neg (by omega)] at e
  rcases Xcr hh hz with ⟨_,k1,_⟩|⟨k0,k1,k2⟩|⟨k0,k1,k2,k3⟩
  ·exact absurd k1 hk2
  ·rw[if_pos k0] at e
   exact absurd e.symm (no _ _ l2 (fun x hx=>List.all_eq_true.1 h2 x hx))
  ·rw[if_neg (by omega)] at e
   exact⟨h0.trans k0.symm,(hz0 _ h3).trans (hz0 _ k3).symm,X0m (fun x hx=>List.all_eq_true.1 h2 x hx) (fun x hx=>List.all_eq_true.1 k2 x hx) e⟩
theorem Xi9 {g:Gr} (hg:Tdy g) {i:Nat} {x:Nd} (hx:g.l[i]?=some x):∃ c r,Xex x=c::r/\c ∉ ([32,38,42]:List UInt8):=by
 rcases Xcr hg hx with ⟨h0,_,_,h2⟩|⟨h0,_⟩|⟨h0,_⟩
 ·show ∃ c r,(if x.k=0 then scB x.x else if x.k=1 then _ else _)=_/\_
  rw[if_pos h0]
  obtain⟨c,r,h,h1,_⟩:=Xfg h2
  exact⟨c,r,h,fun hm=>h1 (by simp only[List.mem_cons,List.not_mem_nil,or_false] at hm ⊢;rcases hm with h|h|h <;> simp[h])⟩
 ·show ∃ c r,(if x.k=0 then scB x.x else if x.k=1 then _ else _)=_/\_
  rw[if_neg (by omega),if_pos h0];exact⟨_,_,rfl,by decide⟩
 ·show ∃ c r,(if x.k=0 then scB x.x else if x.k=1 then _ else _)=_/\_
  rw[if_neg (by omega),if_neg (by omega)];exact⟨_,_,rfl,by decide⟩
theorem X0n {g h:Gr} (hg:Tdy g) (hh:Tdy h) {i j:Nat} {y z:Nd} (hy:g.l[i]?=some y) (hz:h.l[j]?=some z) (hk:y.kids=[]) (hk2:z.kids=[]) (e:Xex y=Xex z):y.k=z.k/\y.x=z.x/\y.keys=z.keys:=by
 have hz0:∀ w:Sc,isZ w=true->w=⟨0,0,⟨#[]⟩⟩:=fun w hw=>by unfold isZ at hw;exact of_decide_eq_true hw
 have b0:∀ x:Nd,x.k=0->Xex x=scB x.x:=fun x h0=>by show (if x.k=0 then scB x.x else if x.k=1 then _ else _)=_;rw[if_pos h0]
 have b1:∀ x:Nd,x.k=1->Xex x=[91,93]:=fun x h0=>by show (if x.k=0 then scB x.x else if x.k=1 then _ else _)=_;rw[if_neg (by omega),if_pos h0]
 have b2:∀ x:Nd,x.k=2->Xex x=[123,125]:=fun x h0=>by show (if x.k=0 then scB x.x else if x.k=1 then _ else _)=_;rw[if_neg (by omega),if_neg (by omega)]
 have s1:∀ x:Sc,prR Xak x=true->scB x≠[91,93]:=fun x hx e=>by
  obtain⟨c,r,h,h1,_⟩:=Xfg hx
  rw[h] at e
  exact h1 (by rw[(List.cons.inj e).1];decide)
 have s2:∀ x:Sc,prR Xak x=true->scB x≠[123,125]:=fun x hx e=>by
  obtain⟨c,r,h,h1,_⟩:=Xfg hx
  rw[h] at e
  exact h1 (by rw[(List.cons.inj e).1];decide)
 have kn:∀ x:Nd,x.keys.length=x.kids.length->x.kids=[]->x.keys=[]:=fun x h1 h2=>List.eq_nil_of_length_eq_zero (by rw[h1,h2];rfl)
 rcases Xcr hg hy with ⟨h0,_,h1,h2⟩|⟨h0,h1,h2⟩|⟨h0,h1,h2,h3⟩ <;> rcases Xcr hh hz with ⟨k0,_,k1,k2⟩|⟨k0,k1,k2⟩|⟨k0,k1,k2,k3⟩
 ·rw[b0 y h0,b0 z k0] at e
  have:=Xi8 (u:=[]) (v:=[]) h2 k2 (fun _ _ h=>by cases h) (fun _ _ h=>by cases h) (by rw[List.append_nil,List.append_nil];exact e)
  exact⟨h0.trans k0.symm,this.1,h1.trans k1.symm⟩
 ·rw[b0 y h0,b1 z k0] at e;exact absurd e (s1 _ h2)
 ·rw[b0 y h0,b2 z k0] at e;exact absurd e (s2 _ h2)
 ·rw[b1 y h0,b0 z k0] at e;exact absurd e.symm (s1 _ k2)
 ·exact⟨h0.trans k0.symm,(hz0 _ h2).trans (hz0 _ k2).symm,h1.trans k1.symm⟩
 ·rw[b1 y h0,b2 z k0] at e;exact absurd e (by decide)
 ·rw[b2 y h0,b0 z k0] at e;exact absurd e.symm (s2 _ k2)
 ·rw[b2 y h0,b1 z k0] at e;exact absurd e (by decide)
 ·exact⟨h0.trans k0.symm,(hz0 _ h3).trans (hz0 _ k3).symm,(kn _ h1 hk).trans (kn _ k1 hk2).symm⟩
theorem Yit {g:Gr} (hg:Tdy g) {i:Nat} {x:Nd} (hx:g.l[i]?=some x) {h t:List UInt8} (hh:HdQ h) (ht:TlQ t) (e:Xex x=h++t):False:=by
 rcases Xcr hg hx with ⟨h0,_,_,h2⟩|⟨h0,_⟩|⟨h0,_⟩
 ·have e':scB x.x=h++t:=by
   rw[<- e];show _=(if x.k=0 then scB x.x else if x.k=1 then _ else _);rw[if_pos h0]
  rcases hh with rfl|⟨y,hy,rfl⟩
  ·exact Yqu h2 (u:=[]) ht (by rw[List.append_nil];exact e'.symm)
  ·rw[List.append_assoc] at e'
   have:=(Xi8 (u:=[]) h2 hy (fun _ _ h=>by cases h) (Xff _) (by rw[List.append_nil];exact e')).2
   cases this
 ·have e':[91,93]=h++t:=by
   rw[<- e];show _=(if x.k=0 then scB x.x else if x.k=1 then _ else _);rw[if_neg (by omega),if_pos h0]
  rcases hh with rfl|⟨y,hy,rfl⟩
  ·exact absurd (List.cons.inj e').1 (by decide)
  ·obtain⟨c,r,h1,h2,_⟩:=Xfg hy
   rw[h1] at e'
   exact h2 (by rw[<- (List.cons.inj e').1];decide)
 ·have e':[123,125]=h++t:=by
   rw[<- e];show _=(if x.k=0 then scB x.x else if x.k=1 then _ else _);rw[if_neg (by omega),if_neg (by omega)]
  rcases hh with rfl|⟨y,hy,rfl⟩
  ·exact absurd (List.cons.inj e').1 (by decide)
  ·obtain⟨c,r,h1,h2,_⟩:=Xfg hy
   rw[h1] at e'
   exact h2 (by rw[<- (List.cons.inj e').1];decide)
def Stp (n:Nat) (l:List (List UInt8)):Prop:=∀ s r,l=s::r->Xqa s < n
theorem Yiu {n:Nat} {h t:List UInt8} (hh:HdQ h):Xqa (Xew n++(h++t))=n:=by
 obtain⟨c,r,e,hc⟩:=hh.noB.app t
 rw[e];exact X0j hc n
theorem Xqb {n:Nat} {h0:List UInt8} {hs rest r:List (List UInt8)} {p:Tr} {q:List Tr} (hh:HdQ h0) (hs0:Stp n rest) (e:rest=lnK n (h0::hs) (p::q)++r):False:=by
 rw[Xcf,Xfn] at e
 have:=hs0 _ _ e
 rw[Yiu hh] at this
 omega
theorem Yzh {n:Nat} {hs rest:List (List UInt8)} {q:List Tr} (hh:∀ x∈hs,HdQ x) (hr:Stp n rest):Stp (n+2) (lnK n hs q++rest):=by
 cases q with
 | nil=>rw[Xb6];exact fun s r e=>Nat.lt_of_lt_of_le (hr s r e) (by omega)
 | cons p q =>
  cases hs with
  | nil=>exact fun s r e=>Nat.lt_of_lt_of_le (hr s r e) (by omega)
  | cons h0 hs =>
   intro s r e
   rw[Xcf,Xfn] at e
   rw[<- (List.cons.inj e).1,Yiu (hh h0 (by simp))]
   omega
theorem Xj3 {n:Nat} {h0 k0:List UInt8} {hs ks rest rest':List (List UInt8)} {p p':Tr} {q q':List Tr} (hh:HdQ h0) (hk:HdQ k0) (e:lnK n (h0::hs) (p::q)++rest=lnK n (k0::ks) (p'::q')++rest') :
  h0=k0/\stB p=stB p'/\lnK (n+2) (Xap p.k p.keys p.kids.length) p.kids++(lnK n hs q++rest)=lnK (n+2) (Xap p'.k p'.keys p'.kids.length) p'.kids++(lnK n ks q'++rest'):=by
 rw[Xcf,Xcf,Xfn,Xfn,List.append_assoc,List.append_assoc,List.cons_append,List.cons_append] at e
 obtain⟨e1,e2⟩:=List.cons.inj e
 obtain⟨e3,e4⟩:=Wv6 hh hk (Yis p) (Yis p') (List.append_cancel_left e1)
 exact⟨e3,e4,e2⟩
theorem Yiv {s t:ByteArray} (h:s.data.toList=t.data.toList):s=t:=by
 cases s;cases t
 congr 1
 exact Array.toList_inj.1 h
section
variable {g h:Gr}
def NmP (g h:Gr) (P:List (Int × Int)):Prop:=∀ p∈P,∃ i j:Nat,p=((i:Int),(j:Int))/\i < g.l.length/\j < h.l.length/\Xao (anc g i)=Xao (anc h j)
def LfP (g h:Gr) (a b:Int):Prop:=∃ (i j:Nat) (y z:Nd),a=i/\b=j/\g.l[i]?=some y/\h.l[j]?=some z/\y.kids=[]/\z.kids=[]/\y.k=z.k/\y.x=z.x/\y.keys=z.keys
def RlP (g h:Gr) (P:List (Int × Int)) (a b:Int):Prop:=(a,b)∈P\/LfP g h a b
def NdP (g h:Gr) (P:List (Int × Int)) (p:Int × Int):Prop:=∃ (i j:Nat) (y z:Nd),p=((i:Int),(j:Int))/\g.l[i]?=some y/\h.l[j]?=some z/\y.k=z.k/\y.x=z.x/\y.keys=z.keys/\y.kids.length=z.kids.length/\∀ (m:Nat) (a b:Int),y.kids[m]?=some a->z.kids[m]?=some b->RlP g h P a b
theorem RlP.app {P:List (Int × Int)} {a b:Int} (r:RlP g h P a b) (Q:List (Int × Int)):RlP g h (P++Q) a b:=by
 rcases r with r|r
 ·exact .inl (List.mem_append.2 (.inl r))
 ·exact .inr r
theorem NdP.app {P:List (Int × Int)} {p:Int × Int} (r:NdP g h P p) (Q:List (Int × Int)):NdP g h (P++Q) p:=by
 obtain⟨i,j,y,z,h1,h2,h3,h4,h5,h6,h7,h8⟩:=r
 exact⟨i,j,y,z,h1,h2,h3,h4,h5,h6,h7,fun m a b ha hb=>(h8 m a b ha hb).app Q⟩
theorem Tdy.keys (hg:Tdy g) {i:Nat} {x:Nd} (hx:g.l[i]?=some x):Xai x=x.keys:=by
 have hm:=List.mem_of_getElem? hx
 rw[hg.self] at hm
 simp only[Xau,List.mem_map] at hm
 obtain⟨i,hi,rfl⟩:=hm
 exact (Xeu (hg.good.node (hg.good.wIn i hi)) _).2
theorem Yzi (hg:Tdy g) (hh:Tdy h) {P:List (Int × Int)} (hP:∀ p∈P,NdP g h P p):Bis g.l h.l (RlP g h P):=by
 have key:∀ a b,RlP g h P a b->∃ (i j:Nat) (y z:Nd),a=i/\b=j/\g.l[i]?=some y/\h.l[j]?=some z/\y.k=z.k/\y.x=z.x/\y.keys=z.keys/\y.kids.length=z.kids.length/\∀ (m:Nat) (a b:Int),y.kids[m]?=some a->z.kids[m]?=some b->RlP g h P a b:=by
  intro a b r
  rcases r with r|⟨i,j,y,z,ha,hb,hy,hz,hk,hk2,h1,h2,h3⟩
  ·obtain⟨i,j,y,z,e,hr⟩:=hP _ r
   obtain⟨e1,e2⟩:=Prod.mk.inj e
   exact⟨i,j,y,z,e1,e2,hr⟩
  ·exact⟨i,j,y,z,ha,hb,hy,hz,h1,h2,h3,by rw[hk,hk2],fun m a b ha=>by rw[hk] at ha;simp at ha⟩
 refine⟨fun a b r=>?_,fun a b r=>?_,fun a b r m p q hp hq=>?_⟩
 ·obtain⟨i,j,y,z,rfl,rfl,hy,hz,_⟩:=key a b r
  exact⟨Xjx (Kr.1 hy).1,Xjx (Kr.1 hz).1⟩
 ·obtain⟨i,j,y,z,rfl,rfl,hy,hz,h1,h2,h3,h4,_⟩:=key a b r
  rw[Xgs hy,Xgs hz]
  exact Xbv.2 ⟨h1,h2,by rw[hg.keys hy,hh.keys hz,h3],h4⟩
 ·obtain⟨i,j,y,z,rfl,rfl,hy,hz,_,_,_,_,h5⟩:=key a b r
  rw[show kdL g.l (i:Int)=y.kids from hg.kd hy] at hp
  rw[show kdL h.l (j:Int)=z.kids from hh.kd hz] at hq
  exact h5 m p q hp hq
theorem Yiw {a b:Int} (e:(if Xao a=⟨#[]⟩ then [] else (32:UInt8)::38::(Xao a).data.toList)=if Xao b=⟨#[]⟩ then [] else 32::38::(Xao b).data.toList):Xao a=Xao b:=by
 split at e <;> split at e
 ·rename_i h1 h2;rw[h1,h2]
 ·cases e
 ·cases e
 ·exact Yiv (List.cons.inj (List.cons.inj e).2).2
theorem Yix (hg:Tdy g) (hh:Tdy h) {d:Nat} {t met met':List Int} {q:List Tr} (E:EmW g d t met q met') :
  ∀ {d2:Nat} {t2 met2 met2':List Int} {q2:List Tr} (_:EmW h d2 t2 met2 q2 met2') (P:List (Int × Int)) (n:Nat) (hs hs2 rest rest2:List (List UInt8)),met=P.map Prod.fst->met2=P.map Prod.snd->NmP g h P->hs.length=q.length->hs2.length=q2.length ->
   (∀ x∈hs,HdQ x)->(∀ x∈hs2,HdQ x)->Stp n rest->Stp n rest2->lnK n hs q++rest=lnK n hs2 q2++rest2 ->
   hs=hs2/\rest=rest2/\t.length=t2.length/\∃ Q,met'=(P++Q).map Prod.fst/\met2'=(P++Q).map Prod.snd/\NmP g h (P++Q)/\(∀ (i:Nat) (a b:Int),t[i]?=some a->t2[i]?=some b->RlP g h (P++Q) a b)/\∀ p∈Q,NdP g h (P++Q) p:=by
 induction E with
 | nil =>
  intro d2 t2 met2 met2' q2 E2 P n hs hs2 rest rest2 hm hm2 hN hl hl2 hq hq2 hr hr2 e
  obtain rfl:hs=[]:=List.eq_nil_of_length_eq_zero hl
  rw[Xb6,List.nil_append] at e
  cases t2 with
  | nil =>
   cases E2
   obtain rfl:hs2=[]:=List.eq_nil_of_length_eq_zero hl2
   rw[Xb6,List.nil_append] at e
   exact⟨rfl,e,rfl,[],by simpa using hm,by simpa using hm2,by simpa using hN,fun i a b h=>by simp at h,fun p hp=>by cases hp⟩
  | cons c2 t2 =>
   obtain⟨j,z,p',q2',m1,_,hz,rfl,_⟩:=E2.inv
   cases hs2 with
   | nil=>simp at hl2
   | cons k0 hs2=>exact (Xqb (hq2 k0 (by simp)) hr e).elim
 | @leaf d i y t met met' q hy hk hE ih =>
  intro d2 t2 met2 met2' q2 E2 P n hs hs2 rest rest2 hm hm2 hN hl hl2 hq hq2 hr hr2 e
  cases hs with
  | nil=>simp at hl
  | cons h0 hs =>
  cases t2 with
  | nil =>
   cases E2
   rw[Xb6,List.nil_append] at e
   exact (Xqb (hq h0 (by simp)) hr2 e.symm).elim
  | cons c2 t2 =>
   obtain⟨j,z,p',q2',m1,rfl,hz,rfl,hE2,hc⟩:=E2.inv
   cases hs2 with
   | nil=>simp at hl2
   | cons k0 hs2 =>
    obtain⟨e0,e1,e2⟩:=Xj3 (hq h0 (by simp)) (hq2 k0 (by simp)) e
    obtain⟨c,r,b1,b2⟩:=Xi9 hg hy
    rw[Xi6 (Xbj hg hy),b1] at e1
    rcases hc with ⟨hk2,rfl,rfl⟩|⟨hk2,hmm,rfl,rfl⟩|⟨hk2,hmm,q1',hE1',rfl⟩
    ·rw[Xi6 (Xbj hh hz),<- b1] at e1
     obtain⟨f1,f2,f3⟩:=X0n hg hh hy hz hk hk2 (List.cons.inj e1).2
     simp only[Tr.kids,Xb6,List.nil_append] at e2
     obtain⟨r1,r2,r3,Q,r4,r5,r6,r7,r8⟩:=ih hE2 P n hs hs2 rest rest2 hm hm2 hN (by simpa using hl) (by simpa using hl2) (fun x hx=>hq x (by simp[hx])) (fun x hx=>hq2 x (by simp[hx])) hr hr2 e2
     refine⟨by rw[e0,r1],r2,by simp[r3],Q,r4,r5,r6,fun k a b ha hb=>?_,r8⟩
     cases k with
     | zero =>
      simp only[List.getElem?_cons_zero,Option.some.injEq] at ha hb
      exact .inr ⟨i,j,y,z,ha.symm,hb.symm,hy,hz,hk,hk2,f1,f2,f3⟩
     | succ k=>exact r7 k a b (by simpa using ha) (by simpa using hb)
    ·rw[Xm5] at e1
     exact absurd (List.cons.inj (List.cons.inj e1).2).1 (fun e=>b2 (by rw[e];decide))
    ·have hq1:q1'≠[]:=fun e=>hk2 (List.eq_nil_of_length_eq_zero (by rw[<- hE1'.len,e];rfl))
     rw[Xi7 _ (Xbj hh hz) hq1] at e1
     split at e1
     ·cases e1
     ·exact absurd (List.cons.inj (List.cons.inj e1).2).1 (fun e=>b2 (by rw[e];decide))
 | @ref d i y t met met' q hy hk hmi ha hE ih =>
  intro d2 t2 met2 met2' q2 E2 P n hs hs2 rest rest2 hm hm2 hN hl hl2 hq hq2 hr hr2 e
  cases hs with
  | nil=>simp at hl
  | cons h0 hs =>
  cases t2 with
  | nil =>
   cases E2
   rw[Xb6,List.nil_append] at e
   exact (Xqb (hq h0 (by simp)) hr2 e.symm).elim
  | cons c2 t2 =>
   obtain⟨j,z,p',q2',m1,rfl,hz,rfl,hE2,hc⟩:=E2.inv
   cases hs2 with
   | nil=>simp at hl2
   | cons k0 hs2 =>
    obtain⟨e0,e1,e2⟩:=Xj3 (hq h0 (by simp)) (hq2 k0 (by simp)) e
    rw[Xm5] at e1
    rcases hc with ⟨hk2,rfl,rfl⟩|⟨hk2,hmm,rfl,rfl⟩|⟨hk2,hmm,q1',hE1',rfl⟩
    ·obtain⟨c,r,b1,b2⟩:=Xi9 hh hz
     rw[Xi6 (Xbj hh hz),b1] at e1
     exact absurd (List.cons.inj (List.cons.inj e1).2).1 (fun e=>b2 (by rw[<- e];decide))
    ·rw[Xm5] at e1
     have en:Xao (anc g i)=Xao (anc h j):=Yiv (List.cons.inj (List.cons.inj e1).2).2
     simp only[Tr.kids,Xb6,List.nil_append] at e2
     have hpos:0 < anc h j:=by
      refine Classical.byContradiction fun hn=>Xzy ha ?_
      rw[en,Xd4 hn]
     have hin:((i:Int),(j:Int))∈P:=by
      rw[hm] at hmi
      obtain⟨p,hp,hp1⟩:=List.mem_map.1 hmi
      obtain⟨i',j',rfl,hi',hj',hnm⟩:=hN p hp
      obtain rfl:i'=i:=Int.ofNat.inj hp1
      have hpos':0 < anc h j':=by
       refine Classical.byContradiction fun hn=>Xzy ha ?_
       rw[hnm,Xd4 hn]
      have:=Wga (Kr.1 hz).1 hj' hpos (Yhk hpos hpos' (en.symm.trans hnm))
      rw[this];exact hp
     obtain⟨r1,r2,r3,Q,r4,r5,r6,r7,r8⟩:=ih hE2 P n hs hs2 rest rest2 hm hm2 hN (by simpa using hl) (by simpa using hl2) (fun x hx=>hq x (by simp[hx])) (fun x hx=>hq2 x (by simp[hx])) hr hr2 e2
     refine⟨by rw[e0,r1],r2,by simp[r3],Q,r4,r5,r6,fun k a b ha hb=>?_,r8⟩
     cases k with
     | zero =>
      simp only[List.getElem?_cons_zero,Option.some.injEq] at ha hb
      subst ha;subst hb
      exact .inl (List.mem_append.2 (.inl hin))
     | succ k=>exact r7 k a b (by simpa using ha) (by simpa using hb)
    ·have hq1:q1'≠[]:=fun e=>hk2 (List.eq_nil_of_length_eq_zero (by rw[<- hE1'.len,e];rfl))
     rw[Xi7 _ (Xbj hh hz) hq1] at e1
     split at e1
     ·cases e1
     ·exact absurd (List.cons.inj (List.cons.inj e1).2).1 (by decide)
 | @node d i y t met met1 met' q1 q hy hk hmi hd hE1 hE ih1 ih2 =>
  intro d2 t2 met2 met2' q2 E2 P n hs hs2 rest rest2 hm hm2 hN hl hl2 hq hq2 hr hr2 e
  have hq1:q1≠[]:=fun e=>hk (List.eq_nil_of_length_eq_zero (by rw[<- hE1.len,e];rfl))
  cases hs with
  | nil=>simp at hl
  | cons h0 hs =>
  cases t2 with
  | nil =>
   cases E2
   rw[Xb6,List.nil_append] at e
   exact (Xqb (hq h0 (by simp)) hr2 e.symm).elim
  | cons c2 t2 =>
   obtain⟨j,z,p',q2',m1,rfl,hz,rfl,hE2,hc⟩:=E2.inv
   cases hs2 with
   | nil=>simp at hl2
   | cons k0 hs2 =>
    obtain⟨e0,e1,e2⟩:=Xj3 (hq h0 (by simp)) (hq2 k0 (by simp)) e
    rw[Xi7 _ (Xbj hg hy) hq1] at e1
    rcases hc with ⟨hk2,rfl,rfl⟩|⟨hk2,hmm,rfl,rfl⟩|⟨hk2,hmm,q1',hE1',rfl⟩
    ·obtain⟨c,r,b1,b2⟩:=Xi9 hh hz
     rw[Xi6 (Xbj hh hz),b1] at e1
     split at e1
     ·cases e1
     ·exact absurd (List.cons.inj (List.cons.inj e1).2).1 (fun e=>b2 (by rw[<- e];decide))
    ·rw[Xm5] at e1
     split at e1
     ·cases e1
     ·exact absurd (List.cons.inj (List.cons.inj e1).2).1 (by decide)
    ·have hq1':q1'≠[]:=fun e=>hk2 (List.eq_nil_of_length_eq_zero (by rw[<- hE1'.len,e];rfl))
     rw[Xi7 _ (Xbj hh hz) hq1'] at e1
     have en:=Yiw e1
     have l1:=hE1.len
     have l2:=hE1'.len
     have hN1:NmP g h (P++[((i:Int),(j:Int))]):=fun p hp=>by
      rcases List.mem_append.1 hp with hp|hp
      ·exact hN p hp
      ·rw[List.mem_singleton] at hp
       exact⟨i,j,hp,(Kr.1 hy).1,(Kr.1 hz).1,en⟩
     obtain⟨r1,r2,r3,Q1,r4,r5,r6,r7,r8⟩:=ih1 hE1' (P++[((i:Int),(j:Int))]) (n+2) (Xap y.k y.keys q1.length) (Xap z.k z.keys q1'.length) _ _ (by rw[hm];simp) (by rw[hm2];simp) hN1 (by rw[l1];exact Xey hg hy hk) (by rw[l2];exact Xey hh hz hk2)
      (Xm8 hg hy hk _) (Xm8 hh hz hk2 _) (Yzh (fun x hx=>hq x (by simp[hx])) hr) (Yzh (fun x hx=>hq2 x (by simp[hx])) hr2) e2
     obtain⟨f1,f2,f3⟩:=Xsz hg hh hy hz hk hk2 l1 l2 r1
     obtain⟨s1,s2,s3,Q2,s4,s5,s6,s7,s8⟩:=ih2 hE2 (P++[((i:Int),(j:Int))]++Q1) n hs hs2 rest rest2 r4 r5 r6 (by simpa using hl) (by simpa using hl2) (fun x hx=>hq x (by simp[hx])) (fun x hx=>hq2 x (by simp[hx])) hr hr2 r2
     have eQ:P++(((i:Int),(j:Int))::(Q1++Q2))=P++[((i:Int),(j:Int))]++Q1++Q2:=by simp
     refine⟨by rw[e0,s1],s2,by simp[s3],((i:Int),(j:Int))::(Q1++Q2),?_⟩
     rw[eQ]
     refine⟨s4,s5,s6,fun k a b ha hb=>?_,fun p hp=>?_⟩
     ·cases k with
      | zero =>
       simp only[List.getElem?_cons_zero,Option.some.injEq] at ha hb
       subst ha;subst hb
       exact .inl (by simp)
      | succ k=>exact s7 k a b (by simpa using ha) (by simpa using hb)
     ·rcases List.mem_cons.1 hp with rfl|hp
      ·exact⟨i,j,y,z,rfl,hy,hz,f1,f2,f3,r3,fun m a b ha hb=>(r7 m a b ha hb).app Q2⟩
      ·rcases List.mem_append.1 hp with hp|hp
       ·exact (r8 p hp).app Q2
       ·exact s8 p hp
theorem Yiy {y:Nd} {n:Int} {q1:List Tr} (hq:q1≠[]):Xdn (.mk y.k (Xao n) y.x y.keys q1)=(if Xao n=⟨#[]⟩ then [] else [38::(Xao n).data.toList])++lnK 0 (Xap y.k y.keys q1.length) q1:=by
 unfold Xdn;rw[if_neg (show ¬ (Tr.mk y.k (Xao n) y.x y.keys q1).kids=[] from hq)];rfl
theorem Yqv (y:Nd):Xdn (.mk y.k ⟨#[]⟩ y.x y.keys [])=[Xex y]:=by unfold Xdn;rw[if_pos (show (Tr.mk y.k ⟨#[]⟩ y.x y.keys []).kids=[] from rfl)]
theorem Yiz {g:Gr} (hg:Tdy g) (hd:Xd9 g):∃ y,g.l[0]?=some y/\((y.kids=[]/\Xdn (emT g)=[Xex y])\/(y.kids≠[]/\∃ q1 met,EmW g 2 y.kids [0] q1 met/\q1≠[]/\Xdn (emT g)=(if Xao (anc g 0)=⟨#[]⟩ then [] else [38::(Xao (anc g 0)).data.toList])++lnK 0 (Xap y.k y.keys q1.length) q1)):=by
 obtain⟨met,hem,_,hfl⟩:=Yh6 hg hd
 obtain⟨i,y,p,q2,met1,e0,hy,e1,hr,hc⟩:=hem.inv
 obtain rfl:i=0:=by omega
 obtain⟨e2,e3⟩:=List.cons.inj e1
 rw[<- e2] at hc
 refine⟨y,hy,?_⟩
 rcases hc with ⟨hk,_,h⟩|⟨_,hm,_⟩|⟨hk,_,q1,h1,h⟩
 ·exact .inl ⟨hk,by rw[h];exact Yqv y⟩
 ·cases hm
 ·have hq1:q1≠[]:=fun e=>hk (List.eq_nil_of_length_eq_zero (by rw[<- h1.len,e];rfl))
  exact .inr ⟨hk,q1,met1,h1,hq1,by rw[h];exact Yiy hq1⟩
theorem X0o {g:Gr} (hg:Tdy g) (hd:Xd9 g):∀ s∈Xdn (emT g),(10:UInt8) ∉ s:=by
 obtain⟨y,hy,⟨hk,e⟩|⟨hk,q1,met,hE,hq,e⟩⟩:=Yiz hg hd
 ·rw[e]
  intro s hs
  rw[List.mem_singleton] at hs
  rw[hs];exact Xsy hg hy
 ·rw[e]
  intro s hs
  rcases List.mem_append.1 hs with hs|hs
  ·split at hs
   ·cases hs
   ·rw[List.mem_singleton] at hs
    rw[hs];exact Xm7 (by decide) _
  ·exact X2c hg hE 0 _ (Xoj hg hy hk _) s hs
theorem Yi0 {n:Nat} {hs:List (List UInt8)} {q:List Tr} (hl:hs.length=q.length) (hq:q≠[]):∃ h0 p r,h0∈hs/\lnK n hs q=(Xew n++(h0++stB p))::r:=by
 cases q with
 | nil=>exact absurd rfl hq
 | cons p q =>
  cases hs with
  | nil=>simp at hl
  | cons h0 hs=>exact⟨h0,p,_,by simp,by rw[Xcf,Xfn];rfl⟩
theorem Wv7 {h t u:List UInt8} (hh:HdQ h) (e:38::u=h++t):False:=by
 rcases hh with rfl|⟨x,hx,rfl⟩
 ·exact absurd (List.cons.inj e).1 (by decide)
 ·obtain⟨c,r,h1,h2,_⟩:=Xfg hx
  rw[h1] at e
  exact h2 (by rw[<- (List.cons.inj e).1];decide)
theorem Whe (hg:Tdy g) (hh:Tdy h) (dg:Xd9 g) (dh:Xd9 h) (e:Xcj (Xdn (emT g))=Xcj (Xdn (emT h))):Sim g.l h.l g.root h.root:=by
 have e:=Xsx (X0o hg dg) (X0o hh dh) e
 rw[hg.root,hh.root]
 obtain⟨y,hy,hcy⟩:=Yiz hg dg
 obtain⟨z,hz,hcz⟩:=Yiz hh dh
 have key:∀ {g:Gr} (hg:Tdy g) {y:Nd} (hy:g.l[0]?=some y) (hk:y.kids≠[]) {q1:List Tr} {met:List Int} (hE:EmW g 2 y.kids [0] q1 met) (hq:q1≠[]),∃ h0 p r,HdQ h0/\lnK 0 (Xap y.k y.keys q1.length) q1=(h0++stB p)::r:=by
  intro g hg y hy hk q1 met hE hq
  obtain⟨h0,p,r,h1,h2⟩:=Yi0 (n:=0) (hs:=Xap y.k y.keys q1.length) (by rw[hE.len];exact Xey hg hy hk) hq
  exact⟨h0,p,r,Xm8 hg hy hk _ h0 h1,h2⟩
 have mix:∀ {g h:Gr} (hg:Tdy g) (hh:Tdy h) {y z:Nd} (hy:g.l[0]?=some y) (hz:h.l[0]?=some z) (hk2:z.kids≠[]) {q1:List Tr} {met:List Int} (hE:EmW h 2 z.kids [0] q1 met) (hq:q1≠[]),
   [Xex y]=(if Xao (anc h 0)=⟨#[]⟩ then [] else [38::(Xao (anc h 0)).data.toList])++lnK 0 (Xap z.k z.keys q1.length) q1->False:=by
  intro g h hg hh y z hy hz hk2 q1 met hE hq e
  split at e
  ·obtain⟨h0,p,r,h1,h2⟩:=key hh hz hk2 hE hq
   rw[h2] at e
   exact Yit hg hy h1 (Yis p) (List.cons.inj e).1
  ·obtain⟨c,r,b1,b2⟩:=Xi9 hg hy
   have:=(List.cons.inj e).1
   rw[b1] at this
   exact b2 (by rw[(List.cons.inj this).1];decide)
 rcases hcy with ⟨hk,ey⟩|⟨hk,q1,met,hE,hq,ey⟩ <;> rcases hcz with ⟨hk2,ez⟩|⟨hk2,q1',met',hE',hq',ez⟩
 ·rw[ey,ez] at e
  obtain⟨f1,f2,f3⟩:=X0n hg hh hy hz hk hk2 (List.cons.inj e).1
  exact⟨_,Yzi hg hh (P:=[]) (fun p hp=>by cases hp),.inr ⟨0,0,y,z,rfl,rfl,hy,hz,hk,hk2,f1,f2,f3⟩⟩
 ·rw[ey,ez] at e
  exact (mix hg hh hy hz hk2 hE' hq' e).elim
 ·rw[ey,ez] at e
  exact (mix hh hg hz hy hk hE hq e.symm).elim
 ·rw[ey,ez] at e
  have hb:Xao (anc g 0)=Xao (anc h 0)/\lnK 0 (Xap y.k y.keys q1.length) q1=lnK 0 (Xap z.k z.keys q1'.length) q1':=by
   split at e <;> split at e
   ·rename_i h1 h2;exact⟨by rw[h1,h2],e⟩
   ·obtain⟨h0,p,r,h1,h2⟩:=key hg hy hk hE hq
    rw[h2] at e
    exact (Wv7 h1 (List.cons.inj e).1.symm).elim
   ·obtain⟨h0,p,r,h1,h2⟩:=key hh hz hk2 hE' hq'
    rw[h2] at e
    exact (Wv7 h1 (List.cons.inj e).1).elim
   ·have:=List.cons.inj e
    exact⟨Yiv (List.cons.inj this.1).2,this.2⟩
  have hN:NmP g h [((0:Int),(0:Int))]:=fun p hp=>by
   rw[List.mem_singleton] at hp
   exact⟨0,0,hp,(Kr.1 hy).1,(Kr.1 hz).1,hb.1⟩
  have nost:Stp 0 ([]:List (List UInt8)):=fun s r e=>by cases e
  obtain⟨r1,r2,r3,Q,r4,r5,r6,r7,r8⟩:=Yix hg hh hE hE' [((0:Int),(0:Int))] 0 (Xap y.k y.keys q1.length) (Xap z.k z.keys q1'.length) [] [] rfl rfl hN (by rw[hE.len];exact Xey hg hy hk) (by rw[hE'.len];exact Xey hh hz hk2) (Xm8 hg hy hk _) (Xm8 hh hz hk2 _) nost nost (by rw[hb.2])
  obtain⟨f1,f2,f3⟩:=Xsz hg hh hy hz hk hk2 hE.len hE'.len r1
  refine⟨_,Yzi hg hh (P:=[((0:Int),(0:Int))]++Q) (fun p hp=>?_),.inl (by simp)⟩
  rcases List.mem_append.1 hp with hp|hp
  ·rw[List.mem_singleton] at hp
   exact⟨0,0,y,z,hp,hy,hz,f1,f2,f3,r3,r7⟩
  ·exact r8 p hp
theorem Yi1 (hg:Tdy g) (hh:Tdy h) (ng:Yeo g.l) (nh:Yeo h.l) (dg:Xd9 g) (dh:Xd9 h):Xcj (Xdn (emT g))=Xcj (Xdn (emT h))↔g=h:=by
 constructor
 ·intro e
  have:=(Yer hg.good hh.good).1 (Whe hg hh dg dh e)
  rwa [(Xyy hg.good).2 ⟨ng,hg.self.symm⟩,(Xyy hh.good).2 ⟨nh,hh.self.symm⟩] at this
 ·rintro rfl;rfl
end
def Xde (g:Gr) (n:Int):Gr:=if g.l.length > n then ⟨-1,[]⟩ else g.cut
theorem Yi2 (g:Gr) (n:Int):Does QP gp 22 [g.v,vi n] (Xde g n).v:=by
 refine Wsj ?_
 simp only[go_sem]
 by_cases h:(g.l.length:Int) > n
 ·have e:Xde g n=⟨-1,[]⟩:=by unfold Xde;rw[if_pos h]
  rw[e]
  repeat' first|refine Kn rfl ?_|((first|refine Ka ?_|refine Kb ?_|refine Kv ?_|refine Ke ?_);simp only[go_sem])|refine Kf ?_|refine Kg ?_|(apply Kp<;>intro _<;>try (exfalso;omega))|((first|refine Kh ?_|refine Ki rfl ?_);simp only[or_self,Qs,Qt,Qu,Qv,Qw,Qx,Qy,Qz,Za,go_sem])
  all_goals first|(exfalso;omega)|trace_state
 ·have e:Xde g n=g.cut:=by unfold Xde;rw[if_neg h]
  rw[e]
  repeat' first|refine Kn rfl ?_|((first|refine Ka ?_|refine Kb ?_|refine Kv ?_|refine Ke ?_);simp only[go_sem])|refine Kf ?_|refine Kg ?_|refine⟨_,Yu3 g,Kg ?_⟩|refine⟨_,⟨Yu3 g,rfl⟩,Kg ?_⟩|(apply Kp<;>intro _<;>try (exfalso;omega))|((first|refine Kh ?_|refine Ki rfl ?_);simp only[or_self,Qs,Qt,Qu,Qv,Qw,Qx,Qy,Qz,Za,go_sem])
  all_goals first|(exfalso;omega)|trace_state
theorem Xm9 (g:Gr) (n:Int):Xc4 (Xde g n)/\∀ x∈(Xde g n).l,x.short:=by
 unfold Xde
 split
 ·constructor <;> (intro x hx;cases hx)
 ·exact⟨g.cut_small,Yh1 g⟩
theorem Xs0 {g:Gr} (hg:Good g) (hst:∀ x∈g.l,x.short):∀ x∈(Xfp g).l,x.short:=fun x hx=>by
 have hsm:=hg.quot.s x hx
 simp only[Xfp,Xau,List.mem_map] at hx
 obtain⟨i,hi,rfl⟩:=hx
 have h1:Xbb (Xbg g).l i∈(Xbg g).l:=Xjo (hg.whole.wIn i hi)
 generalize Xbb (Xbg g).l i=y at *
 simp only[Xbg,List.mem_map] at h1
 obtain⟨a,ha,rfl⟩:=h1
 obtain⟨j,hj⟩:=List.getElem?_of_mem ha
 have h2:=hst _ (Xjo (Xyx hg.fine hj).1)
 refine⟨hsm.1,hsm.2,h2.2.2.1,fun z hz=>h2.2.2.2 z ?_⟩
 exact Xp3 z (Xp3 z hz)
theorem Xna {g:Gr} (hs:Xc4 g) (hst:∀ x∈g.l,x.short):∀ x∈(qOf g).l,x.short:=by
 unfold qOf
 split
 ·exact Xs0 ⟨‹_›,hs⟩ hst
 ·intro x hx;cases hx
theorem X0p {q:Gr} (hs:Xc4 q) (h:Xnf q=0) (ho:(Xez (qOf q)).2=0):∃ hg:Tdy (qOf q),Yeo (qOf q).l/\Xd9 (qOf q)/\(Xez (qOf q)).1=Xdn (emT (qOf q)):=by
 have hg:Good q:=⟨Classical.byContradiction fun hn=>Xio hn h,hs⟩
 have hq:Tdy (qOf q):=by rw[Xp7 hg];exact hg.whole.tdy
 have hd:Yeo (qOf q).l:=by rw[Xp7 hg];exact Xga hg
 have ht:chk (qOf q)=none/\qOf q=Xau (qOf q):=⟨hq.good.c,hq.self⟩
 by_cases hp:Xd9 (qOf q)
 ·by_cases hl:Xee (qOf q) > 200
  ·rw[Xsq ht hp hl] at ho;exact absurd ho (by decide)
  ·by_cases hz:Xah (Xdn (emT (qOf q))) > 8000
   ·rw[Xsr ht hp hl hz] at ho;exact absurd ho (by decide)
   ·exact⟨hq,hd,hp,by rw[Xup ht hp hl hz]⟩
 ·rw[Xsp ht hp] at ho;exact absurd ho (by decide)
theorem Yi3 (g:Gr):(Xez g).2=0\/((Xez g).2 != 0)=true/\bT (Xcj (Xez g).1)=⟨#[]⟩:=by
 unfold Xez
 (repeat' split) <;> first|exact .inl rfl|exact .inr ⟨rfl,rfl⟩
set_option maxHeartbeats 1000000 in
theorem Yi4 (h:Env13 gp) (g k:Gr):Does QP gp 8 [g.v,k.v] (vb true):=by
 have cs:=X2a h
 have cg:=Yi2 (gp:=gp) g 30
 have ch:=Yi2 (gp:=gp) k 30
 obtain⟨hs,hst⟩:=Xm9 g 30
 obtain⟨hs',hst'⟩:=Xm9 k 30
 generalize Xde g 30=q at *
 generalize Xde k 30=r at *
 have c1:=Yzg ⟨h.e,h.p⟩ q hs hst
 have c2:=Yzg ⟨h.e,h.p⟩ r hs' hst'
 have c3:=Xst h (Xsv hs) (Xna hs hst)
 have c4:=Xst h (Xsv hs') (Xna hs' hst')
 have c5:=Xmc (gp:=gp) (qOf q) (qOf r)
 have key:Xnf q=0->Xnf r=0->(Xez (qOf q)).2=0->(Xez (qOf r)).2=0->decide (qOf q=qOf r)=decide (bT (Xcj (Xez (qOf q)).1)=bT (Xcj (Xez (qOf r)).1)):=by
  intro e1 e2 o1 o2
  obtain⟨t1,d1,p1,l1⟩:=X0p hs e1 o1
  obtain⟨t2,d2,p2,l2⟩:=X0p hs' e2 o2
  rw[l1,l2]
  exact decide_eq_decide.2 ((Yi1 t1 t2 d1 d2 p1 p2).symm.trans Yyo.symm)
 have n1:=Yi3 (qOf q)
 have n2:=Yi3 (qOf r)
 generalize decide (qOf q=qOf r)=b at *
 generalize bT (Xcj (Xez (qOf q)).1)=S at *
 generalize bT (Xcj (Xez (qOf r)).1)=T at *
 generalize (Xez (qOf q)).2=i at *
 generalize (Xez (qOf r)).2=j at *
 generalize qOf q=A at *
 generalize qOf r=C at *
 generalize Xnf q=e at *
 generalize Xnf r=f at *
 refine Ww3 ?_
 simp only[go_sem]
 rcases n1 with rfl|⟨hi,rfl⟩ <;> rcases n2 with rfl|⟨hj,rfl⟩
 ·by_cases he:e=0
  ·by_cases hf:f=0
   ·subst he;subst hf
    have hk:=key rfl rfl rfl rfl
    subst hk
    repeat' first|refine Kn rfl ?_|((first|refine Ka ?_|refine Kb ?_|refine Kv ?_|refine Ke ?_);simp only[go_sem])|refine Kf ?_|refine Kg ?_|refine⟨_,cs,Kg ?_⟩|refine⟨_,⟨cs,rfl⟩,Kg ?_⟩|refine⟨_,cg,Kg ?_⟩|refine⟨_,⟨cg,rfl⟩,Kg ?_⟩|refine⟨_,ch,Kg ?_⟩|refine⟨_,⟨ch,rfl⟩,Kg ?_⟩|refine⟨_,c1,Kg ?_⟩|refine⟨_,⟨c1,rfl⟩,Kg ?_⟩|refine⟨_,c2,Kg ?_⟩|refine⟨_,⟨c2,rfl⟩,Kg ?_⟩|refine⟨_,c3,Kg ?_⟩|refine⟨_,⟨c3,rfl⟩,Kg ?_⟩|refine⟨_,c4,Kg ?_⟩|refine⟨_,⟨c4,rfl⟩,Kg ?_⟩|refine⟨_,c5,Kg ?_⟩|refine⟨_,⟨c5,rfl⟩,Kg ?_⟩|(apply Kp<;>intro _<;>try (exfalso;omega))|((first|refine Kh ?_|refine Ki rfl ?_);simp only[or_self,Qs,Qt,Qu,Qv,Qw,Qx,Qy,Qz,Za,go_sem])
    all_goals first|(exfalso;simp_all;done)|simp_all|trace_state
   ·have hf2:(f != 0)=true:=by simpa using hf
    subst he
    repeat' first|refine Kn rfl ?_|((first|refine Ka ?_|refine Kb ?_|refine Kv ?_|refine Ke ?_);simp only[hf2,go_sem])|refine Kf ?_|refine Kg ?_|refine⟨_,cs,Kg ?_⟩|refine⟨_,⟨cs,rfl⟩,Kg ?_⟩|refine⟨_,cg,Kg ?_⟩|refine⟨_,⟨cg,rfl⟩,Kg ?_⟩|refine⟨_,ch,Kg ?_⟩|refine⟨_,⟨ch,rfl⟩,Kg ?_⟩|refine⟨_,c1,Kg ?_⟩|refine⟨_,⟨c1,rfl⟩,Kg ?_⟩|refine⟨_,c2,Kg ?_⟩|refine⟨_,⟨c2,rfl⟩,Kg ?_⟩|refine⟨_,c3,Kg ?_⟩|refine⟨_,⟨c3,rfl⟩,Kg ?_⟩|refine⟨_,c4,Kg ?_⟩|refine⟨_,⟨c4,rfl⟩,Kg ?_⟩|refine⟨_,c5,Kg ?_⟩|refine⟨_,⟨c5,rfl⟩,Kg ?_⟩|(apply Kp<;>intro _<;>try (exfalso;omega))|((first|refine Kh ?_|refine Ki rfl ?_);simp only[hf2,or_self,Qs,Qt,Qu,Qv,Qw,Qx,Qy,Qz,Za,go_sem])
    all_goals first|(exfalso;simp_all;done)|simp_all|trace_state
  ·have he2:(e != 0)=true:=by simpa using he
   repeat' first|refine Kn rfl ?_|((first|refine Ka ?_|refine Kb ?_|refine Kv ?_|refine Ke ?_);simp only[he2,go_sem])|refine Kf ?_|refine Kg ?_|refine⟨_,cs,Kg ?_⟩|refine⟨_,⟨cs,rfl⟩,Kg ?_⟩|refine⟨_,cg,Kg ?_⟩|refine⟨_,⟨cg,rfl⟩,Kg ?_⟩|refine⟨_,ch,Kg ?_⟩|refine⟨_,⟨ch,rfl⟩,Kg ?_⟩|refine⟨_,c1,Kg ?_⟩|refine⟨_,⟨c1,rfl⟩,Kg ?_⟩|refine⟨_,c2,Kg ?_⟩|refine⟨_,⟨c2,rfl⟩,Kg ?_⟩|refine⟨_,c3,Kg ?_⟩|refine⟨_,⟨c3,rfl⟩,Kg ?_⟩|refine⟨_,c4,Kg ?_⟩|refine⟨_,⟨c4,rfl⟩,Kg ?_⟩|refine⟨_,c5,Kg ?_⟩|refine⟨_,⟨c5,rfl⟩,Kg ?_⟩|(apply Kp<;>intro _<;>try (exfalso;omega))|((first|refine Kh ?_|refine Ki rfl ?_);simp only[he2,or_self,Qs,Qt,Qu,Qv,Qw,Qx,Qy,Qz,Za,go_sem])
   all_goals first|(exfalso;simp_all;done)|simp_all|trace_state
 ·repeat' (first|refine Kn rfl ?_|((first|refine Ka ?_|refine Kb ?_|refine Kv ?_|refine Ke ?_);simp only[hj,go_sem])|refine Kf ?_|refine Kg ?_|refine⟨_,cs,Kg ?_⟩|refine⟨_,⟨cs,rfl⟩,Kg ?_⟩|refine⟨_,cg,Kg ?_⟩|refine⟨_,⟨cg,rfl⟩,Kg ?_⟩|refine⟨_,ch,Kg ?_⟩|refine⟨_,⟨ch,rfl⟩,Kg ?_⟩|refine⟨_,c1,Kg ?_⟩|refine⟨_,⟨c1,rfl⟩,Kg ?_⟩|refine⟨_,c2,Kg ?_⟩|refine⟨_,⟨c2,rfl⟩,Kg ?_⟩|refine⟨_,c3,Kg ?_⟩|refine⟨_,⟨c3,rfl⟩,Kg ?_⟩|refine⟨_,c4,Kg ?_⟩|refine⟨_,⟨c4,rfl⟩,Kg ?_⟩|refine⟨_,c5,Kg ?_⟩|refine⟨_,⟨c5,rfl⟩,Kg ?_⟩|(apply Kp<;>intro _<;>try (exfalso;omega))|((first|refine Kh ?_|refine Ki rfl ?_);simp only[hj,or_self,Qs,Qt,Qu,Qv,Qw,Qx,Qy,Qz,Za,go_sem]))
  all_goals first|(exfalso;simp_all;done)|simp_all|trace_state
 ·repeat' (first|refine Kn rfl ?_|((first|refine Ka ?_|refine Kb ?_|refine Kv ?_|refine Ke ?_);simp only[hi,go_sem])|refine Kf ?_|refine Kg ?_|refine⟨_,cs,Kg ?_⟩|refine⟨_,⟨cs,rfl⟩,Kg ?_⟩|refine⟨_,cg,Kg ?_⟩|refine⟨_,⟨cg,rfl⟩,Kg ?_⟩|refine⟨_,ch,Kg ?_⟩|refine⟨_,⟨ch,rfl⟩,Kg ?_⟩|refine⟨_,c1,Kg ?_⟩|refine⟨_,⟨c1,rfl⟩,Kg ?_⟩|refine⟨_,c2,Kg ?_⟩|refine⟨_,⟨c2,rfl⟩,Kg ?_⟩|refine⟨_,c3,Kg ?_⟩|refine⟨_,⟨c3,rfl⟩,Kg ?_⟩|refine⟨_,c4,Kg ?_⟩|refine⟨_,⟨c4,rfl⟩,Kg ?_⟩|refine⟨_,c5,Kg ?_⟩|refine⟨_,⟨c5,rfl⟩,Kg ?_⟩|(apply Kp<;>intro _<;>try (exfalso;omega))|((first|refine Kh ?_|refine Ki rfl ?_);simp only[hi,or_self,Qs,Qt,Qu,Qv,Qw,Qx,Qy,Qz,Za,go_sem]))
  all_goals first|(exfalso;simp_all;done)|simp_all|trace_state
 ·repeat' (first|refine Kn rfl ?_|((first|refine Ka ?_|refine Kb ?_|refine Kv ?_|refine Ke ?_);simp only[hi,hj,go_sem])|refine Kf ?_|refine Kg ?_|refine⟨_,cs,Kg ?_⟩|refine⟨_,⟨cs,rfl⟩,Kg ?_⟩|refine⟨_,cg,Kg ?_⟩|refine⟨_,⟨cg,rfl⟩,Kg ?_⟩|refine⟨_,ch,Kg ?_⟩|refine⟨_,⟨ch,rfl⟩,Kg ?_⟩|refine⟨_,c1,Kg ?_⟩|refine⟨_,⟨c1,rfl⟩,Kg ?_⟩|refine⟨_,c2,Kg ?_⟩|refine⟨_,⟨c2,rfl⟩,Kg ?_⟩|refine⟨_,c3,Kg ?_⟩|refine⟨_,⟨c3,rfl⟩,Kg ?_⟩|refine⟨_,c4,Kg ?_⟩|refine⟨_,⟨c4,rfl⟩,Kg ?_⟩|refine⟨_,c5,Kg ?_⟩|refine⟨_,⟨c5,rfl⟩,Kg ?_⟩|(apply Kp<;>intro _<;>try (exfalso;omega))|((first|refine Kh ?_|refine Ki rfl ?_);simp only[hi,hj,or_self,Qs,Qt,Qu,Qv,Qw,Qx,Qy,Qz,Za,go_sem]))
  all_goals first|(exfalso;simp_all;done)|simp_all|trace_state
end Go.Fw.L07
