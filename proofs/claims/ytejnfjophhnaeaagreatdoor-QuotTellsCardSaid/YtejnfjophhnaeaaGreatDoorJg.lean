/- Chapter 11: quotients,by definition. -/
import Derived.Test.YtejnfjophhnaeaaGreatDoorJf
import Derived.Test.YtejnfjophhnaeaaGreatDoorJd
import Derived.Test.YtejnfjophhnaeaaGreatDoorL07L11Mini
import Derived.Test.YtejnfjophhnaeaaGreatDoorVb
import Derived.Test.YtejnfjophhnaeaaGreatDoorJc
set_option linter.all false
namespace Go.Fw.L07
open Go Go.Fw
open Go.Fw.Sh renaming intro->Kg
open Go.Fw renaming Xhj->Ka,Xev->Kb,Xhm->Kv,Xew->Ke,Xex->Kf,Xhl->Kh,Xhk->Ki,Xdt->Kt,Xfn->Ku,Xdr->Kl,Xfh->Km,Gx->Kn,Gw->Ko
open Int renaming natCast_nonneg->Kq
open And renaming intro->Kp
open Go.Proofs.Tryz renaming prog->QP
open Go.Fw.V.one renaming injEq->Qs
open Go.Fw.V.agg renaming injEq->Qt
open Go.Fw.V.tup renaming injEq->Qu
open Go.Fw.A.d renaming injEq->Qv
open Go.Fw.D.bool renaming injEq->Qw
open Go.Fw.D.int renaming injEq->Qx
open Go.Fw.D.str renaming injEq->Qy
open Go.Fw.D.sl renaming injEq->Qz
open List.cons renaming injEq->Za
set_option maxRecDepth 4000
variable {gp:Xal}
theorem Yju {g:Gr} {i:Nat} {c:Int} (hci:(Xaz g.l)[i]?=some c) (hn:¬ c < Xeq ((Xaz g.l).take i) 0):(Xat g).l[Xeq ((Xaz g.l).take i) 0]?=some (Xgo (Xfa g.l) (Xau g.l i)):=by
 have:=Xua (k:=0) (i0:=0) hci hn
 unfold Xat Xzm
 dsimp only
 rw[List.getElem?_map]
 rw[Nat.sub_zero] at this
 rw[this]
 simp
theorem Yjv (g:Gr) (i:Nat):Xeq ((Xaz g.l).take i) 0<=(Xat g).l.length:=by
 rw[Xc9]
 unfold Xzm
 rw[Xnj]
 have h1:∀ (l:List Int) (k i:Nat),Xeq (l.take i) k<=Xeq l k:=by
  intro l
  induction l with
  | nil=>intro k i;simp
  | cons c r ih =>
   intro k i
   cases i with
   | zero=>simp only[List.take_zero,Xeq];have:=Xnh r (if c < k then k else k+1);split at this <;> rename_i h <;> simp only[h,if_true,if_false] <;> omega
   | succ i=>simp only[List.take_succ_cons,Xeq];exact ih _ i
 have:=h1 (Xaz g.l) 0 i
 omega
set_option maxHeartbeats 4000000 in
theorem Xsj (g:Gr) (hg:Good g):Xak QP gp 58 [g.v,.one (.d (.sl (Xag (Xaz g.l))))] (Xat g).v:=by
 refine W29 ?_
 simp only[go_sem]
 have hs:=hg.s
 have hgl:=hg.len
 have hCl:=Xd1 hg.fine
 have hord:=Xkd hg.fine
 have hroot:=Xg8 hg.fine hg.in
 have hr0:=hg.in
 unfold inL at hr0
 have hW:(Xat g).root=Xfa g.l g.root:=rfl
 repeat' first|refine Kn rfl ?_|((first|refine Ka ?_|refine Kb ?_|refine Kv ?_|refine Ke ?_);simp only[go_sem])|refine Kf ?_|refine Kg ?_|refine⟨_,⟨hr0.1,Xab hroot,rfl⟩,Kg ?_⟩|(apply Kp<;>intro _<;>try (exfalso;omega))|((first|refine Kh ?_|refine Ki rfl ?_);simp only[or_self,Qs,Qt,Qu,Qv,Qw,Qx,Qy,Qz,Za,go_sem])
 refine Xfm 1 1 6 (by decide) rfl rfl ?_
 simp only[go_sem]
 refine Kt (fr 83 [(1,.one (.d (.sl (Xag (Xaz g.l))))),(2,.one (.d (.bx [.int .i64 g.root,.sl (nds g.l)]))),(4,.one (.ptr 0 0)),(5,.one (.ptr 1 0)),(6,vi ((0:Nat):Int))]) ?_
 refine Km (fun mz sz=>∃ i n:Nat,i<=g.l.length/\mz=g.l.length - i/\n=Xeq ((Xaz g.l).take i) 0/\sz=⟨fr 83 [(1,.one (.d (.sl (Xag (Xaz g.l))))),(2,.one (.d (.bx [.int .i64 g.root,.sl (nds g.l)]))),(4,.one (.ptr 0 0)),(5,.one (.ptr 1 0)),(6,vi (i:Int))],[.cells [.d (.int .i64 0),.nil],.cells [.d (.int .i64 (Xfa g.l g.root)),.own 2 n],.row 6 n (nds ((Xat g).l.take n))]⟩) g.l.length ⟨0,0,Nat.zero_le _,rfl,by simp[Xeq],by simp[nds]⟩ ?_
 rintro _ _ ⟨i,n,hi,rfl,hn,rfl⟩
 simp only[go_sem]
 have hnW:n<=(Xat g).l.length:=by rw[hn];exact Yjv g i
 have hni:n<=i:=by
  have:=Xt1 ((Xaz g.l).take i) 0
  rw[List.length_take] at this
  omega
 have hWl:((Xat g).l.take n).length=n:=by rw[List.length_take];omega
 by_cases hil:i < g.l.length
 ·have e1:decide ((i:Int) < (g.l.length:Int))=true:=decide_eq_true (by omega)
  obtain⟨ci,hci⟩:=Xai (l:=Xaz g.l) (i:=i) (by omega)
  obtain⟨o1,o2,o3⟩:=Xnc hord hci
  rw[<- hn] at o2 o3
  obtain⟨x,hx⟩:=Xai hil
  have hnd:Xau g.l i=x:=by unfold Xau;rw[if_pos (by omega),Int.toNat_natCast,hx];rfl
  by_cases hcn:ci < (n:Int)
  ·have e2:decide (ci < (n:Int))=true:=decide_eq_true hcn
   rw[if_pos hcn] at o3
   repeat' first|refine Kn rfl ?_|((first|refine Ka ?_|refine Kb ?_|refine Kv ?_|refine Ke ?_);simp only[e1,e2,hWl,go_sem])|refine Kf ?_|refine Kg ?_|refine⟨_,⟨Kq _,Xab hci,rfl⟩,Kg ?_⟩|(apply Kp<;>intro _<;>try (exfalso;omega))|((first|refine Kh ?_|refine Ki rfl ?_);simp only[e1,e2,hWl,or_self,Qs,Qt,Qu,Qv,Qw,Qx,Qy,Qz,Za,go_sem])
   refine⟨Xah hil (by unfold Xac;omega),?_⟩
   refine Kt (fr 83 [(1,.one (.d (.sl (Xag (Xaz g.l))))),(2,.one (.d (.bx [.int .i64 g.root,.sl (nds g.l)]))),(4,.one (.ptr 0 0)),(5,.one (.ptr 1 0)),(6,vi (i+1))]) ?_
   exact Kl ⟨g.l.length - (i+1),by omega,i+1,n,by omega,rfl,o3.symm,rfl⟩
  ·have e2:decide (ci < (n:Int))=false:=decide_eq_false hcn
   rw[if_neg hcn] at o3
   have hget:=Yju hci (by rw[<- hn];exact hcn)
   rw[<- hn,hnd] at hget
   have k1:=Yq4 (gp:=gp) g i hs
   have k2:=Yif (gp:=gp) g i hs
   rw[hnd] at k1 k2
   repeat' first|refine Kn rfl ?_|((first|refine Ka ?_|refine Kb ?_|refine Kv ?_|refine Ke ?_);simp only[e1,e2,hWl,go_sem])|refine Kf ?_|refine Kg ?_|refine⟨_,k1,Kg ?_⟩|refine⟨_,⟨k1,rfl⟩,Kg ?_⟩|refine⟨_,k2,Kg ?_⟩|refine⟨_,⟨k2,rfl⟩,Kg ?_⟩|refine⟨_,⟨Kq _,Xab hci,rfl⟩,Kg ?_⟩|refine⟨_,⟨Kq _,Xab hx,rfl⟩,Kg ?_⟩|(apply Kp<;>intro _<;>try (exfalso;omega))|((first|refine Kh ?_|refine Ki rfl ?_);simp only[e1,e2,hWl,or_self,Qs,Qt,Qu,Qv,Qw,Qx,Qy,Qz,Za,go_sem])
   refine Xfm 3 5 1 (by decide) rfl rfl ?_
   simp only[go_sem]
   have hk12:=Xdk x 12 (hs x (List.mem_of_getElem? hx))
   have hxr:=hg.fine.node x (List.mem_of_getElem? hx)
   have hkin:=fun (k:Nat) (y:Int) (hy:(Xaf x)[k]?=some y)=>hg.fine.kid (i:Int) y (by rw[kdL,hnd];exact List.mem_of_getElem? hy)
   refine Kt (fr 83 [(1,.one (.d (.sl (Xag (Xaz g.l))))),(2,.one (.d (.bx [.int .i64 g.root,.sl (nds g.l)]))),(4,.one (.ptr 0 0)),(5,.one (.ptr 1 0)),(6,vi (i:Int)),(7,.one (.ptr 3 0)),(8,.one (.d (.sl (Xag (Xaf x))))),(10,vi ((0:Nat):Int))]) ?_
   refine Km (fun mz sz=>∃ k:Nat,k<=(Xaf x).length/\mz=(Xaf x).length - k/\sz=⟨fr 83 [(1,.one (.d (.sl (Xag (Xaz g.l))))),(2,.one (.d (.bx [.int .i64 g.root,.sl (nds g.l)]))),(4,.one (.ptr 0 0)),(5,.one (.ptr 1 0)),(6,vi (i:Int)),(7,.one (.ptr 3 0)),(8,.one (.d (.sl (Xag (Xaf x))))),(10,vi (k:Int))],[Ch.cells [.d (.int .i64 0),.nil],.cells [.d (.int .i64 (Xfa g.l g.root)),.own 2 n],.row 6 n (nds ((Xat g).l.take n)),.cells [.d (.int .i64 x.k),.d (.int .i64 x.x.k),.d (.int .i64 x.x.n),.d (.str x.x.s),.d (.sl (scs (Xaj x))),.own 4 k],.row 1 k (Xag (((Xaf x).map (Xfa g.l)).take k))]⟩) (Xaf x).length ⟨0,Nat.zero_le _,rfl,by simp[Xag]⟩ ?_
   rintro _ _ ⟨k,hk,rfl,rfl⟩
   simp only[go_sem]
   by_cases hkl:k < (Xaf x).length
   ·have e3:decide ((k:Int) < ((Xaf x).length:Int))=true:=decide_eq_true (by omega)
    obtain⟨y,hy⟩:=Xai hkl
    have hyi:=hkin k y hy
    have hya:=Xg8 hg.fine hyi
    have hmy:((Xaf x).map (Xfa g.l))[k]?=some (Xfa g.l y):=by rw[List.getElem?_map,hy];rfl
    repeat' first|refine Kn rfl ?_|((first|refine Ka ?_|refine Kb ?_|refine Kv ?_|refine Ke ?_);simp only[e3,go_sem])|refine Kf ?_|refine Kg ?_|refine⟨_,⟨Kq _,Xab hy,rfl⟩,Kg ?_⟩|refine⟨_,⟨hyi.1,Xab hya,rfl⟩,Kg ?_⟩|(apply Kp<;>intro _<;>try (exfalso;omega))|((first|refine Kh ?_|refine Ki rfl ?_);simp only[e3,or_self,Qs,Qt,Qu,Qv,Qw,Qx,Qy,Qz,Za,go_sem])
    refine⟨by simp,by simp;omega,by simp[Xac];omega,?_⟩
    rw[show Xag (((Xaf x).map (Xfa g.l)).take k)++[_]=Xag (((Xaf x).map (Xfa g.l)).take (k+1)) from Xcv hmy]
    repeat' first|refine Kn rfl ?_|((first|refine Ka ?_|refine Kb ?_|refine Kv ?_|refine Ke ?_);simp only[e3,go_sem])|refine Kf ?_|refine Kg ?_|(apply Kp<;>intro _<;>try (exfalso;omega))|((first|refine Kh ?_|refine Ki rfl ?_);simp only[e3,or_self,Qs,Qt,Qu,Qv,Qw,Qx,Qy,Qz,Za,go_sem])
    refine⟨Xah hkl (by unfold Xac;omega),?_⟩
    refine Kt (fr 83 [(1,.one (.d (.sl (Xag (Xaz g.l))))),(2,.one (.d (.bx [.int .i64 g.root,.sl (nds g.l)]))),(4,.one (.ptr 0 0)),(5,.one (.ptr 1 0)),(6,vi (i:Int)),(7,.one (.ptr 3 0)),(8,.one (.d (.sl (Xag (Xaf x))))),(10,vi (k+1))]) ?_
    exact Kl ⟨(Xaf x).length - (k+1),by omega,k+1,by omega,rfl,rfl⟩
   ·obtain rfl:k=(Xaf x).length:=by omega
    have e3:decide (((Xaf x).length:Int) < ((Xaf x).length:Int))=false:=decide_eq_false (by omega)
    rw[show ((Xaf x).map (Xfa g.l)).take (Xaf x).length=(Xaf x).map (Xfa g.l) from List.take_of_length_le (by simp)]
    repeat' first|refine Ko rfl ?_|((first|refine Ka ?_|refine Kb ?_|refine Kv ?_|refine Ke ?_);simp only[e3,go_sem])|refine Kf ?_|refine Kg ?_|(apply Kp<;>intro _<;>try (exfalso;omega))|((first|refine Kh ?_|refine Ki rfl ?_);simp only[e3,or_self,Qs,Qt,Qu,Qv,Qw,Qx,Qy,Qz,Za,go_sem])
    refine Xc1 rfl ?_
    refine Xar 4 ?_
    simp only[go_sem]
    repeat' first|refine Kn rfl ?_|((first|refine Ka ?_|refine Kb ?_|refine Kv ?_|refine Ke ?_);simp only[hWl,go_sem])|refine Kf ?_|refine Kg ?_|(apply Kp<;>intro _<;>try (exfalso;omega))|((first|refine Kh ?_|refine Ki rfl ?_);simp only[hWl,or_self,Qs,Qt,Qu,Qv,Qw,Qx,Qy,Qz,Za,go_sem])
    refine⟨by simp,by omega,by unfold Xac;omega,?_⟩
    rw[show nds ((Xat g).l.take n)++[[.int .i64 x.k,.int .i64 x.x.k,.int .i64 x.x.n,.str x.x.s,.sl (scs (Xaj x)),.sl (Xag ((Xaf x).map (Xfa g.l)))]]=nds ((Xat g).l.take (n+1)) from Xi1 hget]
    repeat' first|refine Kn rfl ?_|((first|refine Ka ?_|refine Kb ?_|refine Kv ?_|refine Ke ?_);simp only[go_sem])|refine Kf ?_|refine Kg ?_|(apply Kp<;>intro _<;>try (exfalso;omega))|((first|refine Kh ?_|refine Ki rfl ?_);simp only[or_self,Qs,Qt,Qu,Qv,Qw,Qx,Qy,Qz,Za,go_sem])
    refine⟨Xah hil (by unfold Xac;omega),?_⟩
    refine Kt (fr 83 [(1,.one (.d (.sl (Xag (Xaz g.l))))),(2,.one (.d (.bx [.int .i64 g.root,.sl (nds g.l)]))),(4,.one (.ptr 0 0)),(5,.one (.ptr 1 0)),(6,vi (i+1))]) ?_
    simp only[go_sem]
    refine Ku 3 ?_
    simp only[go_sem]
    exact Kl ⟨g.l.length - (i+1),by omega,i+1,n+1,by omega,rfl,o3.symm,rfl⟩
 ·obtain rfl:i=g.l.length:=by omega
  have e1:decide ((g.l.length:Int) < (g.l.length:Int))=false:=decide_eq_false (by omega)
  repeat' first|refine Ko rfl ?_|((first|refine Ka ?_|refine Kb ?_|refine Kv ?_|refine Ke ?_);simp only[e1,go_sem])|refine Kf ?_|refine Kg ?_|(apply Kp<;>intro _<;>try (exfalso;omega))|((first|refine Kh ?_|refine Ki rfl ?_);simp only[e1,or_self,Qs,Qt,Qu,Qv,Qw,Qx,Qy,Qz,Za,go_sem])
  refine Xc1 rfl ?_
  refine Xar 2 ?_
  simp only[go_sem]
  repeat' first|refine Kn rfl ?_|((first|refine Ka ?_|refine Kb ?_|refine Kv ?_|refine Ke ?_);simp only[go_sem])|refine Kf ?_|refine Kg ?_|(apply Kp<;>intro _<;>try (exfalso;omega))|((first|refine Kh ?_|refine Ki rfl ?_);simp only[or_self,Qs,Qt,Qu,Qv,Qw,Qx,Qy,Qz,Za,go_sem])
  have hend:n=(Xat g).l.length:=by
   rw[hn,List.take_of_length_le (by omega),Xc9]
   unfold Xzm
   rw[Xnj,Nat.sub_zero]
  rw[List.take_of_length_le (by omega)]
  exact⟨rfl,rfl⟩
theorem Xnk {g:Gr} (hg:Good g) (hst:∀ x∈g.l,x.short):∀ x∈(Xat g).l,x.short:=fun x hx=>by
 have hsm:=hg.whole.s x hx
 simp only[Xat,List.mem_map] at hx
 obtain⟨a,ha,rfl⟩:=hx
 obtain⟨j,hj⟩:=List.getElem?_of_mem ha
 have h2:=hst _ (Xmr (Xzn hg.fine hj).1)
 exact⟨hsm.1,hsm.2,h2.2.2.1,fun z hz=>h2.2.2.2 z (Xzw z hz)⟩
theorem Wne (g:Gr) (hs:Xc7 g) (hst:∀ x∈g.l,x.short):Xak QP gp 26 [g.v] (.tup [(qOf g).v,vi (Xfw g)]):=by
 refine W1o ?_
 simp only[go_sem]
 have c1:=Xqd (gp:=gp) g hs hst
 by_cases hc:chk g=none
 ·have hg:Good g:=⟨hc,hs⟩
  have c2:=Xsj (gp:=gp) g hg
  have c3:=W3u (gp:=gp) (Xat g) hg.whole.s (Xnk hg hst)
  rw[Xhh hg,Xbv hc] at c1
  rw[Xpx hg.whole,Xbv hg.whole.c] at c3
  rw[Xjn hg,Xbv hc]
  have hq:Xc0 g=Xbh (Xat g):=rfl
  rw[hq]
  generalize Xat g=W at *
  repeat' first|refine Kn rfl ?_|((first|refine Ka ?_|refine Kb ?_|refine Kv ?_|refine Ke ?_);simp only[go_sem])|refine Kf ?_|refine Kg ?_|refine⟨_,c1,Kg ?_⟩|refine⟨_,⟨c1,rfl⟩,Kg ?_⟩|refine⟨_,c2,Kg ?_⟩|refine⟨_,⟨c2,rfl⟩,Kg ?_⟩|refine⟨_,c3,Kg ?_⟩|refine⟨_,⟨c3,rfl⟩,Kg ?_⟩|(apply Kp<;>intro _<;>try (exfalso;omega))|((first|refine Kh ?_|refine Ki rfl ?_);simp only[or_self,Qs,Qt,Qu,Qv,Qw,Qx,Qy,Qz,Za,go_sem])
  all_goals trace_state
 ·have he:=Xdc hc
  have e0:cOf g=[]:=by unfold cOf;rw[if_neg hc]
  have e1:qOf g=⟨0,[]⟩:=by unfold qOf;rw[if_neg hc]
  rw[e0] at c1
  rw[e1]
  generalize Xfw g=e at *
  have hne:(e != 0)=true:=by simpa using he
  repeat' first|refine Kn rfl ?_|((first|refine Ka ?_|refine Kb ?_|refine Kv ?_|refine Ke ?_);simp only[hne,go_sem])|refine Kf ?_|refine Kg ?_|refine⟨_,c1,Kg ?_⟩|refine⟨_,⟨c1,rfl⟩,Kg ?_⟩|(apply Kp<;>intro _<;>try (exfalso;omega))|((first|refine Kh ?_|refine Ki rfl ?_);simp only[hne,or_self,Qs,Qt,Qu,Qv,Qw,Qx,Qy,Qz,Za,go_sem])
  all_goals trace_state
set_option maxHeartbeats 1000000 in
theorem Ysk (g:Gr) (hs:Xc7 g) (hst:∀ x∈g.l,x.short):Xak QP gp 31 [g.v] (vb (decide (chk g=none/\g=Xc0 g))):=by
 refine W2f ?_
 simp only[go_sem]
 have c1:=Xqd (gp:=gp) g hs hst
 by_cases hc:chk g=none
 ·have hg:Good g:=⟨hc,hs⟩
  have hgl:=hg.len
  have hCl:=Xd1 hg.fine
  rw[Xhh hg,Xbv hc] at c1
  have hd:=Yrc hg.fine
  have hq:=Yrd hg
  have c2:=Wnd (gp:=gp) g hs hst (by omega)
  repeat' first|refine Kn rfl ?_|((first|refine Ka ?_|refine Kb ?_|refine Kv ?_|refine Ke ?_);simp only[go_sem])|refine Kf ?_|refine Kg ?_|refine⟨_,c1,Kg ?_⟩|refine⟨_,⟨c1,rfl⟩,Kg ?_⟩|(apply Kp<;>intro _<;>try (exfalso;omega))|((first|refine Kh ?_|refine Ki rfl ?_);simp only[or_self,Qs,Qt,Qu,Qv,Qw,Qx,Qy,Qz,Za,go_sem])
  refine Kt (fr 29 [(1,.one (.d (.bx [.int .i64 g.root,.sl (nds g.l)]))),(3,.one (.d (.sl (Xag (Xaz g.l))))),(4,vi 0),(5,vi ((0:Nat):Int))]) ?_
  refine Km (fun mz sz=>∃ i:Nat,i<=g.l.length/\mz=g.l.length - i/\(∀ b:Nat,b < i->(Xaz g.l)[b]?=some (b:Int))/\sz=⟨fr 29 [(1,.one (.d (.bx [.int .i64 g.root,.sl (nds g.l)]))),(3,.one (.d (.sl (Xag (Xaz g.l))))),(4,vi 0),(5,vi (i:Int))],[]⟩) g.l.length ⟨0,Nat.zero_le _,rfl,fun b hb=>by omega,rfl⟩ ?_
  rintro _ _ ⟨i,hi,rfl,hb,rfl⟩
  simp only[go_sem]
  by_cases hil:i < g.l.length
  ·obtain⟨ci,hci⟩:=Xai (l:=Xaz g.l) (i:=i) (by omega)
   have e1:decide ((i:Int) < (g.l.length:Int))=true:=decide_eq_true (by omega)
   by_cases hcc:ci=(i:Int)
   ·subst hcc
    repeat' first|refine Kn rfl ?_|((first|refine Ka ?_|refine Kb ?_|refine Kv ?_|refine Ke ?_);simp only[hCl,e1,go_sem])|refine Kf ?_|refine Kg ?_|refine⟨_,⟨Kq _,Xab hci,rfl⟩,Kg ?_⟩|(apply Kp<;>intro _<;>try (exfalso;omega))|((first|refine Kh ?_|refine Ki rfl ?_);simp only[hCl,e1,or_self,Qs,Qt,Qu,Qv,Qw,Qx,Qy,Qz,Za,go_sem])
    refine⟨Xah hil (by unfold Xac;omega),?_⟩
    refine Kt (fr 29 [(1,.one (.d (.bx [.int .i64 g.root,.sl (nds g.l)]))),(3,.one (.d (.sl (Xag (Xaz g.l))))),(4,vi 0),(5,vi (i+1))]) ?_
    refine Kl ⟨g.l.length - (i+1),by omega,i+1,by omega,rfl,fun b hb2=>?_,rfl⟩
    by_cases e:b=i
    ·subst e;exact hci
    ·exact hb b (by omega)
   ·have e2:(ci != (i:Int))=true:=by simpa using hcc
    have e3:decide (chk g=none/\g=Xc0 g)=false:=decide_eq_false fun hh=>by
     have:=hd.1 (hq.1 hh.2.symm).1 i hil
     rw[hci] at this
     exact hcc (Option.some.inj this)
    rw[e3]
    repeat' first|refine Kn rfl ?_|((first|refine Ka ?_|refine Kb ?_|refine Kv ?_|refine Ke ?_);simp only[hCl,e1,e2,go_sem])|refine Kf ?_|refine Kg ?_|refine⟨_,⟨Kq _,Xab hci,rfl⟩,Kg ?_⟩|(apply Kp<;>intro _<;>try (exfalso;omega))|((first|refine Kh ?_|refine Ki rfl ?_);simp only[hCl,e1,e2,or_self,Qs,Qt,Qu,Qv,Qw,Qx,Qy,Qz,Za,go_sem])
    all_goals trace_state
  ·obtain rfl:i=g.l.length:=by omega
   have e1:decide ((g.l.length:Int) < (g.l.length:Int))=false:=decide_eq_false (by omega)
   have e3:decide (chk g=none/\g=Xc0 g)=decide (chk g=none/\g=Xbh g):=by
    rw[decide_eq_decide]
    have hD:=hd.2 hb
    constructor
    ·rintro⟨h1,h2⟩;exact⟨h1,(hq.1 h2.symm).2.symm⟩
    ·rintro⟨h1,h2⟩;exact⟨h1,(hq.2 ⟨hD,h2.symm⟩).symm⟩
   rw[e3]
   repeat' first|refine Kn rfl ?_|((first|refine Ka ?_|refine Kb ?_|refine Kv ?_|refine Ke ?_);simp only[hCl,e1,go_sem])|refine Kf ?_|refine Kg ?_|refine⟨_,c2,Kg ?_⟩|refine⟨_,⟨c2,rfl⟩,Kg ?_⟩|(apply Kp<;>intro _<;>try (exfalso;omega))|((first|refine Kh ?_|refine Ki rfl ?_);simp only[hCl,e1,or_self,Qs,Qt,Qu,Qv,Qw,Qx,Qy,Qz,Za,go_sem])
   all_goals trace_state
 ·have he:=Xdc hc
  have e0:cOf g=[]:=by unfold cOf;rw[if_neg hc]
  rw[e0] at c1
  have e3:decide (chk g=none/\g=Xc0 g)=false:=decide_eq_false fun hh=>hc hh.1
  rw[e3]
  generalize Xfw g=e at *
  have hne:(e==0)=false:=by simpa using he
  repeat' first|refine Kn rfl ?_|((first|refine Ka ?_|refine Kb ?_|refine Kv ?_|refine Ke ?_);simp only[hne,go_sem])|refine Kf ?_|refine Kg ?_|refine⟨_,c1,Kg ?_⟩|refine⟨_,⟨c1,rfl⟩,Kg ?_⟩|(apply Kp<;>intro _<;>try (exfalso;omega))|((first|refine Kh ?_|refine Ki rfl ?_);simp only[hne,or_self,Qs,Qt,Qu,Qv,Qw,Qx,Qy,Qz,Za,go_sem])
  refine Kt (fr 29 [(1,.one (.d (.bx [.int .i64 g.root,.sl (nds g.l)]))),(3,.one (.d (.sl (Xag [])))),(4,vi e),(5,vi 0)]) ?_
  refine Km (fun mz sz=>sz=⟨fr 29 [(1,.one (.d (.bx [.int .i64 g.root,.sl (nds g.l)]))),(3,.one (.d (.sl (Xag [])))),(4,vi e),(5,vi 0)],[]⟩) 0 rfl ?_
  rintro _ _ rfl
  simp only[go_sem]
  repeat' first|refine Kn rfl ?_|((first|refine Ka ?_|refine Kb ?_|refine Kv ?_|refine Ke ?_);simp only[hne,go_sem])|refine Kf ?_|refine Kg ?_|(apply Kp<;>intro _<;>try (exfalso;omega))|((first|refine Kh ?_|refine Ki rfl ?_);simp only[hne,or_self,Qs,Qt,Qu,Qv,Qw,Qx,Qy,Qz,Za,go_sem])
  all_goals trace_state
set_option maxHeartbeats 1000000 in
theorem Ysl (g:Gr) (hs:Xc7 g) (hst:∀ x∈g.l,x.short):Xak QP gp 28 [g.v] (.tup [.one (.d (.sl (Xag (pOf g)))),vi (Xfw g)]):=by
 refine W12 ?_
 simp only[go_sem]
 have c1:=Xqd (gp:=gp) g hs hst
 by_cases hc:chk g=none
 ·have hg:Good g:=⟨hc,hs⟩
  have hgl:=hg.len
  have hCl:=Xd1 hg.fine
  have c2:=Xsj (gp:=gp) g hg
  have c3:=W3s (gp:=gp) (Xat g) hg.whole.s (Xnk hg hst)
  have hwl:=hg.whole.wlen
  have hwk:=hg.whole.len
  rw[Xhh hg,Xbv hc] at c1
  rw[Xld hg.whole,Xbv hg.whole.c] at c3
  have e0:pOf g=(Xaz g.l).map fun c=>inJ (Xav (Xat g)) c:=by unfold pOf Wnq;rw[if_pos hc];rfl
  rw[e0,Xbv hc]
  have c4:=fun c:Int=>in8 (gp:=gp) (Xav (Xat g)) c (by omega)
  generalize Xav (Xat g)=W at *
  generalize Xat g=Q at *
  generalize Xaz g.l=C at *
  repeat' first|refine Kn rfl ?_|((first|refine Ka ?_|refine Kb ?_|refine Kv ?_|refine Ke ?_);simp only[go_sem])|refine Kf ?_|refine Kg ?_|refine⟨_,c1,Kg ?_⟩|refine⟨_,⟨c1,rfl⟩,Kg ?_⟩|refine⟨_,c2,Kg ?_⟩|refine⟨_,⟨c2,rfl⟩,Kg ?_⟩|refine⟨_,c3,Kg ?_⟩|refine⟨_,⟨c3,rfl⟩,Kg ?_⟩|(apply Kp<;>intro _<;>try (exfalso;omega))|((first|refine Kh ?_|refine Ki rfl ?_);simp only[or_self,Qs,Qt,Qu,Qv,Qw,Qx,Qy,Qz,Za,go_sem])
  refine Xds 8 1 (by decide) rfl ?_
  simp only[go_sem]
  refine Kt (fr 41 [(4,.one (.d (.sl (Xag C)))),(6,.one (.d (.sl (Xag W)))),(8,.one (.own 0 (0:Nat))),(9,vi (0:Nat))]) ?_
  refine Km (fun mz sz=>∃ i:Nat,i<=C.length/\mz=C.length - i/\(0<=i)/\sz=⟨fr 41 [(4,.one (.d (.sl (Xag C)))),(6,.one (.d (.sl (Xag W)))),(8,.one (.own 0 i)),(9,vi i)],[.row 1 i (Xag ((C.map fun c=>inJ W c).take i))]⟩) (C.length) ⟨0,Nat.zero_le _,(Nat.sub_zero _).symm,?_,rfl⟩ ?_
  ·exact Nat.zero_le _
  rintro _ _ ⟨i,hi,rfl,-,rfl⟩
  simp only[go_sem]
  by_cases hil:i < C.length
  ·obtain⟨c,hci⟩:=Xai hil
   have hm:(C.map fun c=>inJ W c)[i]?=some (inJ W c):=by rw[List.getElem?_map,hci];rfl
   have e1:decide ((i:Int) < (C.length:Int))=true:=decide_eq_true (by omega)
   have c5:=c4 c
   repeat' first|refine Kn rfl ?_|((first|refine Ka ?_|refine Kb ?_|refine Kv ?_|refine Ke ?_);simp only[e1,go_sem])|refine Kf ?_|refine Kg ?_|refine⟨_,c5,Kg ?_⟩|refine⟨_,⟨c5,rfl⟩,Kg ?_⟩|refine⟨_,⟨Kq _,(by first|exact Xab hci|(rw[Int.toNat_natCast];exact Xab hci)),rfl⟩,Kg ?_⟩|(apply Kp<;>intro _<;>try (exfalso;omega))|((first|refine Kh ?_|refine Ki rfl ?_);simp only[e1,or_self,Qs,Qt,Qu,Qv,Qw,Qx,Qy,Qz,Za,go_sem])
   refine⟨by simp,by simp;omega,by simp[Xac];omega,?_⟩
   rw[show Xag ((C.map fun c=>inJ W c).take i)++[_]=Xag ((C.map fun c=>inJ W c).take (i+1)) from Xcv hm]
   repeat' first|refine Kn rfl ?_|((first|refine Ka ?_|refine Kb ?_|refine Kv ?_|refine Ke ?_);simp only[e1,go_sem])|refine Kf ?_|refine Kg ?_|(apply Kp<;>intro _<;>try (exfalso;omega))|((first|refine Kh ?_|refine Ki rfl ?_);simp only[e1,or_self,Qs,Qt,Qu,Qv,Qw,Qx,Qy,Qz,Za,go_sem])
   refine⟨Xah hil (by unfold Xac;omega),?_⟩
   refine Kt (fr 41 [(4,.one (.d (.sl (Xag C)))),(6,.one (.d (.sl (Xag W)))),(8,.one (.own 0 (i+1))),(9,vi (i+1))]) ?_
   refine Ku 1 ?_
   simp only[go_sem]
   refine Kl ⟨C.length - (i+1),by omega,i+1,by omega,rfl,?_,rfl⟩
   exact Nat.zero_le _
  ·obtain rfl:i=C.length:=by omega
   have e1:decide ((C.length:Int) < (C.length:Int))=false:=decide_eq_false (by omega)
   rw[List.take_of_length_le (by simp)]
   repeat' first|refine Ko rfl ?_|((first|refine Ka ?_|refine Kb ?_|refine Kv ?_|refine Ke ?_);simp only[e1,go_sem])|refine Kf ?_|refine Kg ?_|(apply Kp<;>intro _<;>try (exfalso;omega))|((first|refine Kh ?_|refine Ki rfl ?_);simp only[e1,or_self,Qs,Qt,Qu,Qv,Qw,Qx,Qy,Qz,Za,go_sem])
   refine Xc1 rfl ?_
   refine Xar 0 ?_
   simp only[go_sem]
   repeat' first|refine Kn rfl ?_|((first|refine Ka ?_|refine Kb ?_|refine Kv ?_|refine Ke ?_);simp only[go_sem])|refine Kf ?_|refine Kg ?_|(apply Kp<;>intro _<;>try (exfalso;omega))|((first|refine Kh ?_|refine Ki rfl ?_);simp only[or_self,Qs,Qt,Qu,Qv,Qw,Qx,Qy,Qz,Za,go_sem])
   all_goals trace_state
 ·have he:=Xdc hc
  have e0:cOf g=[]:=by unfold cOf;rw[if_neg hc]
  have e1:pOf g=[]:=by unfold pOf;rw[if_neg hc]
  rw[e0] at c1
  rw[e1]
  generalize Xfw g=e at *
  have hne:(e != 0)=true:=by simpa using he
  repeat' first|refine Kn rfl ?_|((first|refine Ka ?_|refine Kb ?_|refine Kv ?_|refine Ke ?_);simp only[hne,go_sem])|refine Kf ?_|refine Kg ?_|refine⟨_,c1,Kg ?_⟩|refine⟨_,⟨c1,rfl⟩,Kg ?_⟩|(apply Kp<;>intro _<;>try (exfalso;omega))|((first|refine Kh ?_|refine Ki rfl ?_);simp only[hne,or_self,Qs,Qt,Qu,Qv,Qw,Qx,Qy,Qz,Za,go_sem])
  all_goals trace_state
end Go.Fw.L07
