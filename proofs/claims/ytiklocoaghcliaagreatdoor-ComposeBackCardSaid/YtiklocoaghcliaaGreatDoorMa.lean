/- Chapter 18,part 1: trees; which are shaped as they must be. -/
import Derived.Test.YtiklocoaghcliaaGreatDoorLc
import Derived.Test.YtiklocoaghcliaaGreatDoorEa
set_option linter.all false
namespace Go.Fw.L07
open Go Go.Fw
open Go.Fw.Sh renaming intro->Kg
open Go.Fw renaming Xh9->Kv,Xel->Kf,Xdn->Kt,Xdl->Kl,Xfl->Km,Gx->Kn
open Go.Fw renaming Xec->Kw, Xbg->Kw, Xbk->Kw, Xbv->Kw, Xb3->Kw, Xh6->Kw, Xem->Kw
open Go.Fw.Sh renaming intro->Kf
open And renaming intro->Kp
open Go.Proofs.Tryz renaming prog->QP
set_option maxRecDepth 4000
variable {gp:Xaj}
inductive Tr where
 | mk (k:Int) (name:ByteArray) (x:Sc) (keys:List Sc) (kids:List Tr)
def Tr.k:Tr->Int|.mk k _ _ _ _=>k
def Tr.name:Tr->ByteArray|.mk _ n _ _ _=>n
def Tr.x:Tr->Sc|.mk _ _ x _ _=>x
def Tr.keys:Tr->List Sc|.mk _ _ _ l _=>l
def Tr.kids:Tr->List Tr|.mk _ _ _ _ l=>l
mutual
def Tr.ds:Tr->List D
 | .mk k name x keys kids=>[.int .i64 k,.str name,.int .i64 x.k,.int .i64 x.n,.str x.s,.sl (scs keys),.sl (Wxz kids)]
def Wxz:List Tr->List (List D)
 | []=>[]
 | t::l=>t.ds::Wxz l
end
abbrev trs (l:List Tr):List (List D):=l.map Tr.ds
theorem Yb8:∀ l:List Tr,Wxz l=trs l
 | []=>rfl
 | t::l=>by simp only[Wxz,trs,List.map_cons,Yb8 l]
abbrev Tr.dd (t:Tr):List D:=[.int .i64 t.k,.str t.name,.int .i64 t.x.k,.int .i64 t.x.n,.str t.x.s,.sl (scs t.keys),.sl (trs t.kids)]
abbrev Tr.as (t:Tr):List A:=[.d (.int .i64 t.k),.d (.str t.name),.d (.int .i64 t.x.k),.d (.int .i64 t.x.n),.d (.str t.x.s),.d (.sl (scs t.keys)),.d (.sl (trs t.kids))]
abbrev Tr.v (t:Tr):V:=.agg t.as
theorem Tr.ds_eq (t:Tr):t.ds=t.dd:=by
 cases t with
 | mk k name x keys kids=>simp only[Tr.ds,Yb8];rfl
theorem Ywu {l:List Tr} {i:Nat} {t:Tr} (h:l[i]?=some t):(trs l)[i]?=some t.dd:=by rw[Xae h,t.ds_eq]
def Xuj (r:Int):Bool:=(decide (65<=r) && decide (r<=90)) || (decide (97<=r) && decide (r<=122)) || (decide (48<=r) && decide (r<=57)) || decide (r=95) || decide (r=45)
theorem Yb9 (r:Int):Xao QP gp 131 [.one (.d (.int .i32 r))] (vb (Xuj r)):=by
 refine Y7g ?_
 simp only[go_sem]
 repeat' first|refine Kn rfl ?_|((first|refine Kw ?_|refine Kv ?_);simp only[go_sem])|refine Kf ?_|apply Kp<;>intro _
 all_goals (unfold Xuj;grind)
def Xc9 (s:ByteArray):Nat->Nat->Bool
 | 0,_=>true
 | f+1,p=>if p < s.size then Xuj (Utf8.decode s p).1 && Xc9 s f (p+(Utf8.decode s p).2) else true
def Xdr (s:ByteArray):Bool:=Xc9 s s.size 0 && (decide (s≠⟨#[]⟩) && decide ((s.size:Int)<=20))
theorem Xg3 (s:ByteArray):Xao QP gp 110 [vs s] (vb (Xdr s)):=by
 refine Y5l ?_
 simp only[go_sem]
 repeat' first|refine Kn rfl ?_|((first|refine Kw ?_|refine Kv ?_);simp only[go_sem])|refine Kf ?_|apply Kp<;>intro _
 refine Kt (fr 20 [(0,vs s),(6,.one (.own 0 0))]) ?_
 refine Km (fun mz sz=>∃ p f:Nat,mz=s.size - p/\s.size - p<=f/\Xc9 s f p=Xc9 s s.size 0/\sz=⟨fr 20 [(0,vs s),(6,.one (.own 0 0))],[.siter s p]⟩) s.size ⟨0,s.size,rfl,Nat.le_refl _,rfl,rfl⟩ ?_
 rintro _ _ ⟨p,f,rfl,hf,hr,rfl⟩
 simp only[go_sem]
 by_cases hp:p < s.size
 ·obtain⟨f,rfl⟩:∃ g,f=g+1:=⟨f - 1,by omega⟩
  have hw:=Lib.decode_width_pos s p hp
  simp only[Xc9,if_pos hp] at hr
  cases hs:Xuj (Utf8.decode s p).1 with
  | false =>
   have c1:=Yb9 (gp:=gp) (Utf8.decode s p).1
   rw[hs] at c1 hr
   have hb:Xdr s=false:=by unfold Xdr;rw[<- hr];rfl
   rw[hb]
   repeat' first|refine Kn rfl ?_|((first|refine Kw ?_|refine Kv ?_);simp only[go_sem])|refine Kf ?_|refine⟨_,c1,Kg ?_⟩|refine⟨_,⟨c1,rfl⟩,Kg ?_⟩|(apply Kp<;>intro _<;>try (exfalso;omega))
   all_goals trace_state
  | true =>
   have c1:=Yb9 (gp:=gp) (Utf8.decode s p).1
   rw[hs] at c1 hr
   rw[Bool.true_and] at hr
   repeat' first|refine Kn rfl ?_|((first|refine Kw ?_|refine Kv ?_);simp only[go_sem])|refine Kf ?_|refine⟨_,c1,Kg ?_⟩|refine⟨_,⟨c1,rfl⟩,Kg ?_⟩|(apply Kp<;>intro _<;>try (exfalso;omega))
   ·refine Kt (fr 20 [(0,vs s),(6,.one (.own 0 0))]) ?_
    exact Kl ⟨s.size - (p+(Utf8.decode s p).2),by omega,p+(Utf8.decode s p).2,f,rfl,by omega,hr,rfl⟩
 ·have he:Xc9 s s.size 0=true:=by
   rw[<- hr]
   cases f with
   | zero=>rfl
   | succ f=>simp only[Xc9,if_neg hp]
  repeat' first|refine Kn rfl ?_|((first|refine Kw ?_|refine Kv ?_);simp only[go_sem])|refine Kf ?_|(apply Kp<;>intro _<;>try (exfalso;omega))
  all_goals (first|(rename_i h;exact absurd h hp)|(unfold Xdr;rw[he];simp;grind)|trace_state)
theorem Xd1 (l:List Bool):Xao QP gp 128 [.one (.d (.sl (bls l)))] (vb (l.all id)):=by
 refine Y63 ?_
 simp only[go_sem]
 repeat' first|refine Kn rfl ?_|((first|refine Kw ?_|refine Kv ?_);simp only[go_sem])|refine Kf ?_|refine⟨_,Xed _ _,Kg ?_⟩|refine⟨_,⟨Xed _ _,rfl⟩,Kg ?_⟩|apply Kp<;>intro _
 induction l <;> simp_all
theorem Xjx (t:Tr):Xao QP gp 129 [t.v] (vb (isZ t.x)):=by
 refine Y67 ?_
 simp only[go_sem]
 repeat' first|refine Kn rfl ?_|((first|refine Kw ?_|refine Kv ?_);simp only[Xpm,go_sem])|refine Kf ?_|apply Kp<;>intro _
 all_goals rfl
section
variable (R:ByteArray->Bool) (hR:∀ s,Xao QP gp 40 [vs s] (vb (R s)))
include hR
theorem Yca (x:Sc):Xao QP gp 146 [x.v] (vb (!prR R x)):=by
 refine Y8n ?_
 simp only[go_sem]
 repeat' first|refine Kn rfl ?_|((first|refine Kw ?_|refine Kv ?_);simp only[go_sem])|refine Kf ?_|refine⟨_,Xb6 R hR _,Kg ?_⟩|refine⟨_,⟨Xb6 R hR _,rfl⟩,Kg ?_⟩|apply Kp<;>intro _
 try rfl
theorem Xmw (t:Tr):Xao QP gp 130 [t.v] (vb (t.keys.all (prR R))):=by
 refine Y7c ?_
 simp only[go_sem]
 repeat' first|refine Kn rfl ?_|((first|refine Kw ?_|refine Kv ?_);simp only[go_sem])|refine Kf ?_|refine⟨_,Xez _ _ _ (Yca R hR),Kg ?_⟩|refine⟨_,⟨Xez _ _ _ (Yca R hR),rfl⟩,Kg ?_⟩|apply Kp<;>intro _
 all_goals (try (rw[Bool.eq_iff_iff];simp;done))
def Wa2 (R:ByteArray->Bool) (t:Tr):Bool:=prR R t.x && (decide (t.keys=[]) && decide (t.kids=[]))
def Wa3 (t:Tr):Bool:=isZ t.x && decide (t.keys=[])
def Wia (R:ByteArray->Bool) (t:Tr):Bool:=isZ t.x && (decide (t.keys.length=t.kids.length) && t.keys.all (prR R))
def Wa4 (t:Tr):Bool:=isZ t.x && (decide (t.keys=[]) && (decide (t.kids=[]) && decide (t.name≠⟨#[]⟩)))
theorem Ymv (t:Tr):Xao QP gp 106 [t.v] (vb (Wa2 R t)):=by
 refine Y41 ?_
 simp only[go_sem]
 repeat' first|refine Kn rfl ?_|((first|refine Kw ?_|refine Kv ?_);simp only[go_sem])|refine Kf ?_|refine⟨_,Xb6 R hR _,Kg ?_⟩|refine⟨_,⟨Xb6 R hR _,rfl⟩,Kg ?_⟩|refine⟨_,Xd1 [_,_,_],Kg ?_⟩|refine⟨_,⟨Xd1 [_,_,_],rfl⟩,Kg ?_⟩|apply Kp<;>intro _
 unfold Wa2
 cases t.keys <;> cases t.kids <;> simp <;> omega
omit hR in
theorem Ymw (t:Tr):Xao QP gp 107 [t.v] (vb (Wa3 t)):=by
 refine Y45 ?_
 simp only[go_sem]
 repeat' first|refine Kn rfl ?_|((first|refine Kw ?_|refine Kv ?_);simp only[go_sem])|refine Kf ?_|refine⟨_,Xjx t,Kg ?_⟩|refine⟨_,⟨Xjx t,rfl⟩,Kg ?_⟩|refine⟨_,Xd1 [_,_],Kg ?_⟩|refine⟨_,⟨Xd1 [_,_],rfl⟩,Kg ?_⟩|apply Kp<;>intro _
 unfold Wa3
 cases t.keys <;> simp <;> omega
theorem Ymx (t:Tr):Xao QP gp 108 [t.v] (vb (Wia R t)):=by
 refine Y49 ?_
 simp only[go_sem]
 repeat' first|refine Kn rfl ?_|((first|refine Kw ?_|refine Kv ?_);simp only[go_sem])|refine Kf ?_|refine⟨_,Xjx t,Kg ?_⟩|refine⟨_,⟨Xjx t,rfl⟩,Kg ?_⟩|refine⟨_,Xmw R hR t,Kg ?_⟩|refine⟨_,⟨Xmw R hR t,rfl⟩,Kg ?_⟩|refine⟨_,Xd1 [_,_,_],Kg ?_⟩|refine⟨_,⟨Xd1 [_,_,_],rfl⟩,Kg ?_⟩|apply Kp<;>intro _
 unfold Wia
 simp
 congr 2
 rw[Bool.eq_iff_iff];simp;omega
omit hR in
theorem Ymy (t:Tr):Xao QP gp 109 [t.v] (vb (Wa4 t)):=by
 refine Y5d ?_
 simp only[go_sem]
 repeat' first|refine Kn rfl ?_|((first|refine Kw ?_|refine Kv ?_);simp only[go_sem])|refine Kf ?_|refine⟨_,Xjx t,Kg ?_⟩|refine⟨_,⟨Xjx t,rfl⟩,Kg ?_⟩|refine⟨_,Xd1 [_,_,_,_],Kg ?_⟩|refine⟨_,⟨Xd1 [_,_,_,_],rfl⟩,Kg ?_⟩|apply Kp<;>intro _
 unfold Wa4
 cases t.keys <;> cases t.kids <;> simp <;> omega
def Xcx (R:ByteArray->Bool) (t:Tr):Bool :=
 (if t.k=0 then Wa2 R t else if t.k=1 then Wa3 t else if t.k=2 then Wia R t else if t.k=3 then Wa4 t else false) && (decide (t.name=⟨#[]⟩) || Xdr t.name)
set_option maxHeartbeats 1000000 in
theorem Ycb (t:Tr):Xao QP gp 79 [t.v] (vb (Xcx R t)):=by
 refine Wpq ?_
 simp only[go_sem]
 by_cases hk:0<=t.k/\t.k < 4
 ·rcases (show t.k=0\/t.k=1\/t.k=2\/t.k=3 by omega) with h|h|h|h
  ·have c1:=Ymv R hR t
   have e:Xcx R t=(Wa2 R t && (decide (t.name=⟨#[]⟩) || Xdr t.name)):=by simp[Xcx,h]
   rw[e]
   repeat' first|refine Kn rfl ?_|((first|refine Kw ?_|refine Kv ?_);simp only[go_sem])|refine Kf ?_|refine⟨_,c1,Kg ?_⟩|refine⟨_,⟨c1,rfl⟩,Kg ?_⟩|refine⟨_,Xg3 _,Kg ?_⟩|refine⟨_,⟨Xg3 _,rfl⟩,Kg ?_⟩|refine⟨0,⟨h,by decide⟩,Kg ?_⟩|(apply Kp<;>intro _<;>try (exfalso;omega))
   all_goals simp_all
  ·have c1:=Ymw (gp:=gp) t
   have e:Xcx R t=(Wa3 t && (decide (t.name=⟨#[]⟩) || Xdr t.name)):=by simp[Xcx,h]
   rw[e]
   repeat' first|refine Kn rfl ?_|((first|refine Kw ?_|refine Kv ?_);simp only[go_sem])|refine Kf ?_|refine⟨_,c1,Kg ?_⟩|refine⟨_,⟨c1,rfl⟩,Kg ?_⟩|refine⟨_,Xg3 _,Kg ?_⟩|refine⟨_,⟨Xg3 _,rfl⟩,Kg ?_⟩|refine⟨1,⟨h,by decide⟩,Kg ?_⟩|(apply Kp<;>intro _<;>try (exfalso;omega))
   all_goals simp_all
  ·have c1:=Ymx R hR t
   have e:Xcx R t=(Wia R t && (decide (t.name=⟨#[]⟩) || Xdr t.name)):=by simp[Xcx,h]
   rw[e]
   repeat' first|refine Kn rfl ?_|((first|refine Kw ?_|refine Kv ?_);simp only[go_sem])|refine Kf ?_|refine⟨_,c1,Kg ?_⟩|refine⟨_,⟨c1,rfl⟩,Kg ?_⟩|refine⟨_,Xg3 _,Kg ?_⟩|refine⟨_,⟨Xg3 _,rfl⟩,Kg ?_⟩|refine⟨2,⟨h,by decide⟩,Kg ?_⟩|(apply Kp<;>intro _<;>try (exfalso;omega))
   all_goals simp_all
  ·have c1:=Ymy (gp:=gp) t
   have e:Xcx R t=(Wa4 t && (decide (t.name=⟨#[]⟩) || Xdr t.name)):=by simp[Xcx,h]
   rw[e]
   repeat' first|refine Kn rfl ?_|((first|refine Kw ?_|refine Kv ?_);simp only[go_sem])|refine Kf ?_|refine⟨_,c1,Kg ?_⟩|refine⟨_,⟨c1,rfl⟩,Kg ?_⟩|refine⟨_,Xg3 _,Kg ?_⟩|refine⟨_,⟨Xg3 _,rfl⟩,Kg ?_⟩|refine⟨3,⟨h,by decide⟩,Kg ?_⟩|(apply Kp<;>intro _<;>try (exfalso;omega))
   all_goals simp_all
 ·have e:Xcx R t=false:=by
   unfold Xcx
   rw[if_neg (by omega),if_neg (by omega),if_neg (by omega),if_neg (by omega)];rfl
  rw[e]
  repeat' first|refine Kn rfl ?_|((first|refine Kw ?_|refine Kv ?_);simp only[go_sem])|refine Kf ?_|(apply Kp<;>intro _<;>try (exfalso;omega))
  all_goals simp_all
end
abbrev Nm:=List (ByteArray × Int)
def Xnd:Nm->ByteArray->Option Int
 | [],_=>none
 | p::m,a=>if a=p.1 then some p.2 else Xnd m a
def Xne:Nm->ByteArray->Int->Nm
 | [],a,b=>[(a,b)]
 | p::m,a,b=>if a=p.1 then (a,b)::m else p::Xne m a b
def mpS (m:Nm):List (V × V):=m.map fun p=>(vs p.1,vi p.2)
theorem Wa5 (a b:ByteArray):eqV false [.s] (vs a) (vs b)=some (decide (a=b)):=by simp only[go_sem]
theorem Xp1:∀ (m:Nm) (a:ByteArray),Xdc false [.s] (mpS m) (vs a)=some ((Xnd m a).map vi)
 | [],a=>rfl
 | (k,v)::m,a=>by
  simp only[mpS,List.map_cons,Xdc,Wa5,Xnd]
  by_cases h:a=k
  ·simp[h]
  ·simp only[h,decide_false,if_neg,not_false_eq_true]
   exact Xp1 m a
theorem Ycc:∀ (m:Nm) (a:ByteArray) (b:Int),Xj9 false [.s] (mpS m) (vs a) (vi b)=some (mpS (Xne m a b))
 | [],a,b=>rfl
 | (k,v)::m,a,b=>by
  simp only[mpS,List.map_cons,Xj9,Wa5,Xne]
  by_cases h:a=k
  ·simp[h]
  ·have:=Ycc m a b
   simp only[mpS] at this
   simp only[h,decide_false,if_neg,not_false_eq_true,this]
   rfl
theorem Xbu (m:Nm):(Ch.map (mpS m)).refs=[]:=by
 simp only[Ch.refs]
 rw[List.flatMap_eq_nil_iff]
 intro e he
 obtain⟨a,_,rfl⟩:=List.mem_map.1 he
 rfl
def Xp2 (R:ByteArray->Bool) (t:Tr) (deep:Int) (n:Nat) (nm:Nm):Int :=
 if deep > 24 then 73 else if Xcx R t=false then 93 else if ¬ t.keys.Nodup then 101 else if t.k=3/\Xnd nm t.name=none then 100 else if t.k≠3/\n=200 then 71 else 0
structure Lr where
 is:List Int
 e:Int
 new:List Nd
 nm:Nm
mutual
def Xch (R:ByteArray->Bool):Tr->Int->Nat->Nm->Lr
 | .mk k name x keys kids,deep,n,nm =>
  let e:=Xp2 R (.mk k name x keys kids) deep n nm
  if e≠0 then ⟨[0],e,[],nm⟩ else if k=3 then ⟨[(Xnd nm name).getD 0],0,[],nm⟩ else
  let r:=Xcd R kids (deep+1) (n+1) (if name=⟨#[]⟩ then nm else Xne nm name n)
  ⟨[if r.e≠0 then 0 else (n:Int)],r.e,⟨k,x,keys,r.is⟩::r.new,r.nm⟩
def Xcd (R:ByteArray->Bool):List Tr->Int->Nat->Nm->Lr
 | [],_,_,nm=>⟨[],0,[],nm⟩
 | t::l,deep,n,nm =>
  let a:=Xch R t deep n nm
  if a.e≠0 then a else
  let b:=Xcd R l deep (n+a.new.length) a.nm
  ⟨a.is++b.is,b.e,a.new++b.new,b.nm⟩
end
theorem Xda (R:ByteArray->Bool) (t:Tr) (deep:Int) (n:Nat) (nm:Nm):Xch R t deep n nm =
  if Xp2 R t deep n nm≠0 then ⟨[0],Xp2 R t deep n nm,[],nm⟩ else if t.k=3 then ⟨[(Xnd nm t.name).getD 0],0,[],nm⟩ else
  ⟨[if (Xcd R t.kids (deep+1) (n+1) (if t.name=⟨#[]⟩ then nm else Xne nm t.name n)).e≠0 then 0 else (n:Int)],(Xcd R t.kids (deep+1) (n+1) (if t.name=⟨#[]⟩ then nm else Xne nm t.name n)).e,
   ⟨t.k,t.x,t.keys,(Xcd R t.kids (deep+1) (n+1) (if t.name=⟨#[]⟩ then nm else Xne nm t.name n)).is⟩::(Xcd R t.kids (deep+1) (n+1) (if t.name=⟨#[]⟩ then nm else Xne nm t.name n)).new,(Xcd R t.kids (deep+1) (n+1) (if t.name=⟨#[]⟩ then nm else Xne nm t.name n)).nm⟩:=by
 cases t with
 | mk k name x keys kids=>rw[Xch];rfl
theorem Xbi (R:ByteArray->Bool) (t:Tr) (l:List Tr) (deep:Int) (n:Nat) (nm:Nm):Xcd R (t::l) deep n nm =
  if (Xch R t deep n nm).e≠0 then Xch R t deep n nm else
  ⟨(Xch R t deep n nm).is++(Xcd R l deep (n+(Xch R t deep n nm).new.length) (Xch R t deep n nm).nm).is,(Xcd R l deep (n+(Xch R t deep n nm).new.length) (Xch R t deep n nm).nm).e,
   (Xch R t deep n nm).new++(Xcd R l deep (n+(Xch R t deep n nm).new.length) (Xch R t deep n nm).nm).new,(Xcd R l deep (n+(Xch R t deep n nm).new.length) (Xch R t deep n nm).nm).nm⟩:=by rw[Xcd]
theorem Xsi (R:ByteArray->Bool) (t:Tr) (deep:Int):∀ (l:List Tr) (n:Nat) (nm:Nm),(Xcd R l deep n nm).e=0 ->
  Xcd R (l++[t]) deep n nm=⟨(Xcd R l deep n nm).is++(Xch R t deep (n+(Xcd R l deep n nm).new.length) (Xcd R l deep n nm).nm).is,(Xch R t deep (n+(Xcd R l deep n nm).new.length) (Xcd R l deep n nm).nm).e,
   (Xcd R l deep n nm).new++(Xch R t deep (n+(Xcd R l deep n nm).new.length) (Xcd R l deep n nm).nm).new,(Xch R t deep (n+(Xcd R l deep n nm).new.length) (Xcd R l deep n nm).nm).nm⟩
 | [],n,nm,_=>by
  rw[List.nil_append,Xbi]
  simp only[Xcd]
  split <;> simp_all
 | a::l,n,nm,h=>by
  rw[Xbi] at h
  split at h
  ·rename_i h2;exact absurd h h2
  ·rename_i h2
   have ih:=Xsi R t deep l (n+(Xch R a deep n nm).new.length) (Xch R a deep n nm).nm h
   rw[List.cons_append,Xbi,Xbi,if_neg h2,if_neg h2,ih]
   simp[Nat.add_assoc]
theorem Xsj (R:ByteArray->Bool) (deep:Int):∀ (l r:List Tr) (n:Nat) (nm:Nm),(Xcd R l deep n nm).e≠0->Xcd R (l++r) deep n nm=Xcd R l deep n nm
 | [],_,_,_,h=>absurd rfl h
 | a::l,r,n,nm,h=>by
  rw[List.cons_append,Xbi,Xbi]
  rw[Xbi] at h
  split
  ·rfl
  ·rename_i h2
   rw[if_neg h2] at h
   rw[Xsj R deep l r _ _ h]
theorem Xuk (R:ByteArray->Bool) (t:Tr) (deep:Int) (n:Nat) (nm:Nm):∃ i,(Xch R t deep n nm).is=[i]:=by
 rw[Xda]
 split
 ·exact⟨_,rfl⟩
 ·split <;> exact⟨_,rfl⟩
abbrev Xtb (e:Int):V:=.one (.d (if e=0 then .nilI else .ifc 106 true [.int .i64 e]))
abbrev ndK (x:Nd):List D × List (List D):=([.int .i64 x.k,.int .i64 x.x.k,.int .i64 x.x.n,.str x.x.s,.sl (scs x.keys)],Xai x.kids)
abbrev Xul (root:Int) (ver:Nat):Ch:=.cells [.d (.int .i64 root),.own 1 ver,.own 2 0]
abbrev Xum (L:List Nd) (ver:Nat):Ch:=.nest 6 1 ver (L.map ndK)
theorem Xun (R:ByteArray->Bool) (hR:∀ s,Xao QP gp 40 [vs s] (vb (R s))) (t:Tr) (deep:Int) (root:Int) (ver:Nat) (L:List Nd) (nm:Nm) :
  Tri QP gp 57 [.one (.ptr 0 0),t.v,vi deep] [Xul root ver,Xum L ver,.map (mpS nm)] fun r post=>r=Xtb (Xp2 R t deep L.length nm)/\post=[Xul root ver,Xum L ver,.map (mpS nm)]:=by
 have c1:=Ycb R hR t
 have c2:=Y9c (gp:=gp) t.keys
 have hf:=Xp1 nm t.name
 have hk1:eqV false [.s] (vs t.name) (vs t.name)≠none:=by rw[Wa5];simp
 refine Y32 ?_
 simp only[go_sem]
 unfold Xp2
 by_cases h1:deep > 24
 ·rw[if_pos h1]
  repeat' first|refine Kn rfl ?_|((first|refine Kw ?_|refine Kv ?_);simp only[go_sem])|refine Kf ?_|refine⟨_,c1,Kg ?_⟩|refine⟨_,⟨c1,rfl⟩,Kg ?_⟩|refine⟨_,c2,Kg ?_⟩|refine⟨_,⟨c2,rfl⟩,Kg ?_⟩|(apply Kp<;>intro _<;>try (exfalso;omega))
  refine⟨_,⟨hf,by cases Xnd nm t.name <;> rfl⟩,Kg ?_⟩
  repeat' first|refine Kn rfl ?_|((first|refine Kw ?_|refine Kv ?_);simp only[go_sem])|refine Kf ?_|refine⟨_,c1,Kg ?_⟩|refine⟨_,⟨c1,rfl⟩,Kg ?_⟩|refine⟨_,c2,Kg ?_⟩|refine⟨_,⟨c2,rfl⟩,Kg ?_⟩|(apply Kp<;>intro _<;>try (exfalso;omega))
 ·rw[if_neg h1]
  repeat' first|refine Kn rfl ?_|((first|refine Kw ?_|refine Kv ?_);simp only[go_sem])|refine Kf ?_|refine⟨_,c1,Kg ?_⟩|refine⟨_,⟨c1,rfl⟩,Kg ?_⟩|refine⟨_,c2,Kg ?_⟩|refine⟨_,⟨c2,rfl⟩,Kg ?_⟩|(apply Kp<;>intro _<;>try (exfalso;omega))
  refine⟨_,⟨hf,by cases Xnd nm t.name <;> rfl⟩,Kg ?_⟩
  repeat' first|refine Kn rfl ?_|((first|refine Kw ?_|refine Kv ?_);simp only[go_sem])|refine Kf ?_|refine⟨_,c1,Kg ?_⟩|refine⟨_,⟨c1,rfl⟩,Kg ?_⟩|refine⟨_,c2,Kg ?_⟩|refine⟨_,⟨c2,rfl⟩,Kg ?_⟩|(apply Kp<;>intro _<;>try (exfalso;omega))
  all_goals (cases hgs:Xnd nm t.name <;> simp_all <;> first|omega|done)
theorem Xsk {P:Tr->Prop} (h:∀ t:Tr,(∀ c∈t.kids,P c)->P t):∀ t,P t
 | .mk k n x keys kids=>h (.mk k n x keys kids) fun c (hc:c∈kids)=>Xsk h c
 termination_by t=>SizeOf.sizeOf t
 decreasing_by
 have:=List.sizeOf_lt_of_mem hc
 simp;omega
section
variable {R:ByteArray->Bool}
theorem Xx4 {l:List Tr} (h:∀ c∈l,∀ (deep:Int) (n:Nat) (nm:Nm),n<=200->n+(Xch R c deep n nm).new.length<=200):∀ (deep:Int) (n:Nat) (nm:Nm),n<=200->n+(Xcd R l deep n nm).new.length<=200:=by
 induction l with
 | nil=>intro deep n nm hn;simpa [Xcd] using hn
 | cons t l ih =>
  intro deep n nm hn
  have h1:=h t (by simp) deep n nm hn
  rw[Xbi]
  split
  ·exact h1
  ·have h2:=ih (fun c hc=>h c (by simp[hc])) deep _ (Xch R t deep n nm).nm h1
   simp only[List.length_append]
   omega
theorem Xx5 (t:Tr):∀ (deep:Int) (n:Nat) (nm:Nm),n<=200->n+(Xch R t deep n nm).new.length<=200:=by
 induction t using Xsk with
 | h t ih =>
  intro deep n nm hn
  rw[Xda]
  split
  ·simpa using hn
  ·rename_i hc
   split
   ·simpa using hn
   ·rename_i hk
    have hn2:n≠200:=by
     intro e
     apply hc
     unfold Xp2
     split
     ·omega
     ·split
      ·omega
      ·split
       ·omega
       ·split
        ·omega
        ·rw[if_pos ⟨hk,e⟩];omega
    have:=Xx4 ih (deep+1) (n+1) (if t.name=⟨#[]⟩ then nm else Xne nm t.name n) (by omega)
    simp only[List.length_cons]
    omega
theorem Ymz {t:Tr} {deep:Int} {n:Nat} {nm:Nm} (h:Xp2 R t deep n nm=0):deep<=24/\Xcx R t=true/\t.keys.Nodup/\(t.k=3->Xnd nm t.name≠none)/\(t.k≠3->n≠200):=by
 unfold Xp2 at h
 split at h
 ·omega
 ·rename_i h1
  split at h
  ·omega
  ·rename_i h2
   split at h
   ·omega
   ·rename_i h3
    split at h
    ·omega
    ·rename_i h4
     split at h
     ·omega
     ·rename_i h5
      exact⟨by omega,by simpa using h2,by simpa using h3,fun hk hn=>h4 ⟨hk,hn⟩,fun hk hn=>h5 ⟨hk,hn⟩⟩
mutual
def Wib:Tr->Nat
 | .mk k _ _ _ kids=>(if k=3 then 0 else 1)+Wa6 kids
def Wa6:List Tr->Nat
 | []=>0
 | t::l=>Wib t+Wa6 l
end
theorem Wa7 (t:Tr):Wib t=(if t.k=3 then 0 else 1)+Wa6 t.kids:=by cases t;rw[Wib];rfl
theorem Ym0 {t:Tr} (h:Xcx R t=true) (hk:t.k=3):t.kids=[]/\t.name≠⟨#[]⟩/\t.keys=[]:=by
 simp[Xcx,hk,Wa4] at h
 exact⟨h.1.2.2.1,h.1.2.2.2,h.1.2.1⟩
theorem Ym1 {l:List Tr} (h:∀ c∈l,∀ (deep:Int) (n:Nat) (nm:Nm),(Xch R c deep n nm).e=0->(Xch R c deep n nm).new.length=Wib c):∀ (deep:Int) (n:Nat) (nm:Nm),(Xcd R l deep n nm).e=0->(Xcd R l deep n nm).new.length=Wa6 l:=by
 induction l with
 | nil=>intro deep n nm _;simp[Xcd,Wa6]
 | cons t l ih =>
  intro deep n nm he
  rw[Xbi] at he ⊢
  split at he
  ·rename_i h1;exact absurd he h1
  ·rename_i h1
   rw[if_neg h1]
   have h2:=h t (by simp) deep n nm (by simpa using h1)
   have h3:=ih (fun c hc=>h c (by simp[hc])) deep _ _ he
   simp only[List.length_append,Wa6]
   omega
theorem Ym2 (t:Tr):∀ (deep:Int) (n:Nat) (nm:Nm),(Xch R t deep n nm).e=0->(Xch R t deep n nm).new.length=Wib t:=by
 induction t using Xsk with
 | h t ih =>
  intro deep n nm he
  rw[Xda] at he ⊢
  rw[Wa7]
  split at he
  ·rename_i h1;exact absurd he h1
  ·rename_i h1
   rw[if_neg h1]
   split
   ·rename_i hk
    have:=(Ym0 (Ymz (by simpa using h1)).2.1 hk).1
    simp[this,Wa6]
   ·rename_i hk
    rw[if_neg hk] at he
    have:=Ym1 ih (deep+1) (n+1) _ he
    simp only[List.length_cons,this]
    omega
mutual
def smT:Tr->Prop
 | .mk _ _ _ keys kids=>keys.length<=12/\kids.length<=12/\smL kids
def smL:List Tr->Prop
 | []=>True
 | t::l=>smT t/\smL l
end
theorem Ycd:∀ {l:List Tr},smL l↔∀ c∈l,smT c
 | []=>by simp[smL]
 | t::l=>by simp only[smL,Ycd (l:=l),List.mem_cons,forall_eq_or_imp]
theorem Xp3 {t:Tr}:smT t↔t.keys.length<=12/\t.kids.length<=12/\∀ c∈t.kids,smT c:=by
 cases t with
 | mk k n x keys kids=>rw[smT,Ycd];exact Iff.rfl
def Yin (nm:Nm) (n:Nat):Prop:=∀ p∈nm,0<=p.2/\p.2 < n
theorem Yin.mono {nm:Nm} {n m:Nat} (h:Yin nm n) (hn:n<=m):Yin nm m:=fun p hp=>⟨(h p hp).1,by have:=(h p hp).2;omega⟩
theorem Xx6:∀ {nm:Nm} {a:ByteArray} {b:Int},Xnd nm a=some b->∃ p∈nm,p.2=b
 | [],_,_,h=>by cases h
 | q::nm,a,b,h=>by
  simp only[Xnd] at h
  split at h
  ·cases h;exact⟨q,by simp,rfl⟩
  ·obtain⟨p,hp,e⟩:=Xx6 h;exact⟨p,by simp[hp],e⟩
theorem Yce:∀ {nm:Nm} {a:ByteArray} {n:Nat},Yin nm n->Yin (Xne nm a n) (n+1)
 | [],a,n,_=>by intro p hp;simp[Xne] at hp;subst hp;simp;omega
 | q::nm,a,n,h=>by
  intro p hp
  simp only[Xne] at hp
  split at hp
  ·rcases List.mem_cons.1 hp with rfl|hp
   ·simp;omega
   ·have:=h p (by simp[hp]);exact⟨this.1,by omega⟩
  ·rcases List.mem_cons.1 hp with rfl|hp
   ·have:=h p (by simp);exact⟨this.1,by omega⟩
   ·exact Yce (nm:=nm) (fun q hq=>h q (by simp[hq])) p hp
structure LOK (R:ByteArray->Bool) (n:Nat) (r:Lr):Prop where
 nm:Yin r.nm (n+r.new.length)
 is:∀ i∈r.is,0<=i/\i < ((n+r.new.length:Nat):Int)
 node:∀ x∈r.new,∀ N:Nat,n+r.new.length<=N->Xa8 R x N=true
 par:∀ j,j < r.new.length->((n+j:Nat):Int)∈r.is\/∃ p x,p < j/\r.new[p]?=some x/\((n+j:Nat):Int)∈x.kids
theorem Xjy {R:ByteArray->Bool} (deep:Int):∀ (l:List Tr) (n:Nat) (nm:Nm),(Xcd R l deep n nm).e=0->(Xcd R l deep n nm).is.length=l.length
 | [],_,_,_=>by simp[Xcd]
 | t::l,n,nm,he=>by
  rw[Xbi] at he ⊢
  split at he
  ·rename_i h1;exact absurd he h1
  ·rename_i h1
   rw[if_neg h1]
   obtain⟨i,hi⟩:=Xuk R t deep n nm
   simp only[List.length_append,hi,Xjy deep l _ _ he,List.length_cons,List.length_nil]
   omega
theorem Wa8 {l:List Tr} (h:∀ c∈l,∀ (deep:Int) (n:Nat) (nm:Nm),Yin nm n->(Xch R c deep n nm).e=0->LOK R n (Xch R c deep n nm)):∀ (deep:Int) (n:Nat) (nm:Nm),Yin nm n->(Xcd R l deep n nm).e=0->LOK R n (Xcd R l deep n nm):=by
 induction l with
 | nil =>
  intro deep n nm hn _
  simp only[Xcd]
  exact⟨hn,by simp,by simp,by simp⟩
 | cons t l ih =>
  intro deep n nm hn he
  rw[Xbi] at he ⊢
  split at he
  ·rename_i h1;exact absurd he h1
  ·rename_i h1
   rw[if_neg h1]
   have ha:=h t (by simp) deep n nm hn (by simpa using h1)
   have hb:=ih (fun c hc=>h c (by simp[hc])) deep _ _ ha.nm he
   refine⟨?_,fun i hi=>?_,fun x hx N hN=>?_,fun j hj=>?_⟩
   ·have:=hb.nm;simp only[List.length_append] at this ⊢;rwa [<- Nat.add_assoc]
   ·simp only[List.length_append]
    rcases List.mem_append.1 hi with hi|hi
    ·have:=ha.is i hi;omega
    ·have:=hb.is i hi;omega
   ·simp only[List.length_append] at hN
    rcases List.mem_append.1 hx with hx|hx
    ·exact ha.node x hx N (by omega)
    ·exact hb.node x hx N (by omega)
   ·simp only[List.length_append] at hj
    rcases Nat.lt_or_ge j (Xch R t deep n nm).new.length with hlt|hge
    ·rcases ha.par j hlt with h2|⟨p,x,h2,h3,h4⟩
     ·exact .inl (List.mem_append.2 (.inl h2))
     ·exact .inr ⟨p,x,h2,by rw[List.getElem?_append_left (by omega)];exact h3,h4⟩
    ·obtain⟨q,rfl⟩:=Nat.exists_eq_add_of_le hge
     rcases hb.par q (by omega) with h2|⟨p,x,h2,h3,h4⟩
     ·exact .inl (List.mem_append.2 (.inr (by rw[<- Nat.add_assoc];exact h2)))
     ·exact .inr ⟨(Xch R t deep n nm).new.length+p,x,by omega,by rw[List.getElem?_append_right (by omega),Nat.add_sub_cancel_left];exact h3,by rw[<- Nat.add_assoc];exact h4⟩
theorem Wa9 (t:Tr):∀ (deep:Int) (n:Nat) (nm:Nm),Yin nm n->(Xch R t deep n nm).e=0->LOK R n (Xch R t deep n nm):=by
 induction t using Xsk with
 | h t ih =>
  intro deep n nm hn he
  rw[Xda] at he ⊢
  split at he
  ·rename_i h1;exact absurd he h1
  ·rename_i h1
   rw[if_neg h1]
   have hc:=Ymz (t:=t) (R:=R) (deep:=deep) (n:=n) (nm:=nm) (by simpa using h1)
   split
   ·rename_i hk
    obtain⟨b,hb⟩:∃ b,Xnd nm t.name=some b:=by
     cases hg:Xnd nm t.name with
     | none=>exact absurd hg (hc.2.2.2.1 hk)
     | some b=>exact⟨b,rfl⟩
    obtain⟨p,hp,rfl⟩:=Xx6 hb
    refine⟨hn,fun i hi=>?_,by simp,by simp⟩
    simp[hb] at hi
    subst hi
    simpa using hn p hp
   ·rename_i hk
    rw[if_neg hk] at he
    have hnm:Yin (if t.name=⟨#[]⟩ then nm else Xne nm t.name n) (n+1):=by
     split
     ·exact hn.mono (by omega)
     ·exact Yce hn
    have hb:=Wa8 ih (deep+1) (n+1) _ hnm he
    have hl:=Xjy (R:=R) (deep+1) t.kids (n+1) _ he
    rw[he]
    generalize Xcd R t.kids (deep+1) (n+1) (if t.name=⟨#[]⟩ then nm else Xne nm t.name n)=r at *
    simp only[ne_eq,not_true,if_false]
    refine⟨?_,fun i hi=>?_,fun x hx N hN=>?_,fun j hj=>?_⟩
    ·have:=hb.nm;simp only[List.length_cons];rwa [show n+(r.new.length+1)=n+1+r.new.length from by omega]
    ·simp only[List.mem_cons,List.not_mem_nil,or_false] at hi
     subst hi
     simp only[List.length_cons];omega
    ·simp only[List.length_cons] at hN
     rcases List.mem_cons.1 hx with rfl|hx
     ·have hki:Xd0 r.is N=true:=Xmr fun i hi=>by have:=hb.is i hi;omega
      have hs:=hc.2.1
      unfold Xcx at hs
      unfold Xa8
      rw[Bool.and_eq_true] at hs
      obtain⟨hs,_⟩:=hs
      split at hs
      ·rename_i h0
       rw[if_pos h0]
       simp only[Wa2,Bool.and_eq_true,decide_eq_true_eq] at hs
       have:r.is=[]:=by
        have h2:=hs.2.2
        rw[h2] at hl
        exact List.length_eq_zero_iff.1 hl
       simp only[Yil,Bool.and_eq_true,decide_eq_true_eq]
       exact⟨hs.1,hs.2.1,this⟩
      ·rename_i h0
       rw[if_neg h0]
       split at hs
       ·rename_i h1'
        rw[if_pos h1']
        simp only[Wa3,Bool.and_eq_true,decide_eq_true_eq] at hs
        simp only[Yal,Bool.and_eq_true,decide_eq_true_eq]
        exact⟨hs.1,hs.2,hki⟩
       ·rename_i h1'
        rw[if_neg h1']
        split at hs
        ·rename_i h2'
         rw[if_pos h2']
         simp only[Wia,Bool.and_eq_true,decide_eq_true_eq] at hs
         simp only[Yam,Xpo,Bool.and_eq_true,decide_eq_true_eq]
         exact⟨hs.1,by rw[hl];exact hs.2.1,⟨hs.2.2,hc.2.2.1⟩,hki⟩
        ·first|(cases hs;done)|(exfalso;revert hs;simp[hk])
     ·exact hb.node x hx N (by omega)
    ·cases j with
     | zero=>exact .inl (by simp)
     | succ j =>
      simp only[List.length_cons] at hj
      right
      rcases hb.par j (by omega) with h2|⟨p,x,h2,h3,h4⟩
      ·exact⟨0,_,by omega,rfl,by simpa [Nat.add_assoc,Nat.add_comm 1 j] using h2⟩
      ·exact⟨p+1,x,by omega,by simpa using h3,by simpa [Nat.add_assoc,Nat.add_comm 1 j] using h4⟩
theorem Wba {l:List Tr} (h:∀ c∈l,smT c->∀ (deep:Int) (n:Nat) (nm:Nm),∀ x∈(Xch R c deep n nm).new,x.keys.length<=12/\x.kids.length<=12) (hl:∀ c∈l,smT c):∀ (deep:Int) (n:Nat) (nm:Nm),(∀ x∈(Xcd R l deep n nm).new,x.keys.length<=12/\x.kids.length<=12)/\(Xcd R l deep n nm).is.length<=l.length:=by
 induction l with
 | nil=>intro deep n nm;simp[Xcd]
 | cons t l ih =>
  intro deep n nm
  have h1:=h t (by simp) (hl t (by simp)) deep n nm
  obtain⟨i,hi⟩:=Xuk R t deep n nm
  rw[Xbi]
  split
  ·exact⟨h1,by simp[hi]⟩
  ·obtain⟨h2,h3⟩:=ih (fun c hc=>h c (by simp[hc])) (fun c hc=>hl c (by simp[hc])) deep (n+(Xch R t deep n nm).new.length) (Xch R t deep n nm).nm
   refine⟨fun x hx=>?_,by simp[hi];omega⟩
   rcases List.mem_append.1 hx with hx|hx
   ·exact h1 x hx
   ·exact h2 x hx
theorem Wbb (t:Tr):smT t->∀ (deep:Int) (n:Nat) (nm:Nm),∀ x∈(Xch R t deep n nm).new,x.keys.length<=12/\x.kids.length<=12:=by
 induction t using Xsk with
 | h t ih =>
  intro hs deep n nm
  obtain⟨s1,s2,s3⟩:=Xp3.1 hs
  rw[Xda]
  split
  ·simp
  ·split
   ·simp
   ·obtain⟨h2,h3⟩:=Wba (R:=R) (fun c hc hs=>ih c hc hs) s3 (deep+1) (n+1) (if t.name=⟨#[]⟩ then nm else Xne nm t.name n)
    intro x hx
    rcases List.mem_cons.1 hx with rfl|hx
    ·exact⟨s1,by simp only;omega⟩
    ·exact h2 x hx
end
end Go.Fw.L07
