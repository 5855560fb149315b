/- Chapter 10: two graphs as one,which say the same,by definition. -/
import Derived.Test.YtejnfjophhnaeaaGreatDoorJf
import Derived.Test.YtejnfjophhnaeaaGreatDoorL07BS10
set_option linter.all false
namespace Go.Fw.L07
open Go Go.Fw
open Go.Fw.Sh renaming intro->Kg
open Go.Fw renaming Xhi->Ka,Xef->Ka,Xed->Kb,Xhm->Kv,Xee->Ke,Xeg->Kf,Xhk->Kh,Xhj->Ki,Xdf->Kt,Xff->Ku,Xdd->Kl,Xe9->Km,Gx->Kn,Gw->Ko
open And renaming intro->Kp
open Go.Proofs.Tryz renaming prog->QP
open Go.Fw.V.one renaming injEq->Qs
open Go.Fw.V.agg renaming injEq->Qt
open Go.Fw.V.tup renaming injEq->Qu
open Go.Fw.A.d renaming injEq->Qv
open Go.Fw.D.bool renaming injEq->Qw
open Go.Fw.D.int renaming injEq->Qx
open Go.Fw.D.str renaming injEq->Qy
open Go.Fw.D.sl renaming injEq->Qz
open List.cons renaming injEq->Za
set_option maxRecDepth 4000
variable {gp:Xag}
set_option maxHeartbeats 1000000 in
theorem Yg2 {g h:Gr} (hg:Good g) (hh:Good h):Xam QP gp 42 [g.v,h.v] (Xh8 g h).v:=by
 have hgl:=hg.len
 have hhl:=hh.len
 have hkin:∀ x∈h.l,∀ k∈x.kids,0<=k/\k < 200:=fun x hx k hk=>by
  obtain⟨n,hn⟩:=List.getElem?_of_mem hx
  obtain⟨h1,h2⟩:=Xkn hn
  have:=(Xml (hh.node h1) k).2 (by rw[h2];exact hk)
  have:=hh.kid n k this
  omega
 have hJl:(Xbi g.l h.l).length=g.l.length+h.l.length:=Xhg
 have hJa:∀ (i:Nat) (x:Nd),h.l[i]?=some x->(Xbi g.l h.l)[g.l.length+i]?=some (Xhv g.l.length x):=fun i x hx=>by
  unfold Xbi
  rw[List.getElem?_append_right (by omega),Nat.add_sub_cancel_left,List.getElem?_map,hx];rfl
 have hJ0:(Xbi g.l h.l).take (g.l.length+0)=g.l:=by unfold Xbi;simp
 refine Wp4 ?_
 simp only[go_sem]
 repeat' first|refine Kn rfl ?_|((first|refine Ka ?_|refine Kb ?_|refine Kv ?_|refine Ke ?_);simp only[go_sem])|refine Kf ?_|refine Kg ?_|apply Kp<;>intro _|((first|refine Kh ?_|refine Ki rfl ?_);simp only[or_self,Qs,Qt,Qu,Qv,Qw,Qx,Qy,Qz,Za,go_sem])
 refine⟨fun p hp=>by obtain⟨_,_,rfl⟩:=List.mem_map.1 hp;rfl,by omega,by unfold Xab;omega,?_⟩
 repeat' first|refine Kn rfl ?_|((first|refine Ka ?_|refine Kb ?_|refine Kv ?_|refine Ke ?_);simp only[go_sem])|refine Kf ?_|refine Kg ?_|apply Kp<;>intro _|((first|refine Kh ?_|refine Ki rfl ?_);simp only[or_self,Qs,Qt,Qu,Qv,Qw,Qx,Qy,Qz,Za,go_sem])
 refine Kt (fr 66 [(2,.one (.d (.bx [.int .i64 g.root,.sl (nds g.l)]))),(3,.one (.d (.bx [.int .i64 h.root,.sl (nds h.l)]))),(4,.one (.ptr 0 0)),(5,.one (.ptr 1 0)),(6,vi ((0:Nat):Int))]) ?_
 rw[show Ch.row 6 0 (nds g.l)=Ch.row 6 0 (nds ((Xbi g.l h.l).take (g.l.length+0))) from by rw[hJ0]]
 refine Kt (fr 66 [(2,.one (.d (.bx [.int .i64 g.root,.sl (nds g.l)]))),(3,.one (.d (.bx [.int .i64 h.root,.sl (nds h.l)]))),(4,.one (.ptr 0 0)),(5,.one (.ptr 1 0)),(6,vi (0:Nat))]) ?_
 refine Km (fun mz sz=>∃ i:Nat,i<=h.l.length/\mz=h.l.length - i/\(0<=i)/\sz=⟨fr 66 [(2,.one (.d (.bx [.int .i64 g.root,.sl (nds g.l)]))),(3,.one (.d (.bx [.int .i64 h.root,.sl (nds h.l)]))),(4,.one (.ptr 0 0)),(5,.one (.ptr 1 0)),(6,vi i)],[.cells [.d (.int .i64 0),.nil],.cells [.d (.int .i64 g.root),.own 2 i],.row 6 i (nds ((Xbi g.l h.l).take (g.l.length+i)))]⟩) (h.l.length) ⟨0,Nat.zero_le _,(Nat.sub_zero _).symm,?_,rfl⟩ ?_
 ·exact Nat.zero_le _
 rintro _ _ ⟨i,hi,rfl,-,rfl⟩
 simp only[go_sem]
 by_cases hil:i < h.l.length
 ·obtain⟨x,hx⟩:=Xaj hil
  have hxm:=List.mem_of_getElem? hx
  have e1:decide ((i:Int) < (h.l.length:Int))=true:=decide_eq_true (by omega)
  have hkl:=(hh.s x hxm).2
  have hsn:nds ((Xbi g.l h.l).take (g.l.length+i))++[[.int .i64 x.k,.int .i64 x.x.k,.int .i64 x.x.n,.str x.x.s,.sl (scs x.keys),.sl (Xai (x.kids.map fun i=>i+(g.l.length:Int)))]]=nds ((Xbi g.l h.l).take (g.l.length+(i+1))):=Xo3 (hJa i x hx)
  repeat' first|refine Kn rfl ?_|((first|refine Ka ?_|refine Kb ?_|refine Kv ?_|refine Ke ?_);simp only[e1,go_sem])|refine Kf ?_|refine Kg ?_|refine⟨_,⟨Int.natCast_nonneg _,Xad hx,rfl⟩,Kg ?_⟩|apply Kp<;>intro _|((first|refine Kh ?_|refine Ki rfl ?_);simp only[e1,or_self,Qs,Qt,Qu,Qv,Qw,Qx,Qy,Qz,Za,go_sem])
  refine Xox 4 5 1 (by decide) rfl rfl ?_
  simp only[go_sem]
  refine Kt (fr 66 [(2,.one (.d (.bx [.int .i64 g.root,.sl (nds g.l)]))),(3,.one (.d (.bx [.int .i64 h.root,.sl (nds h.l)]))),(4,.one (.ptr 0 0)),(5,.one (.ptr 1 0)),(6,vi i),(7,.one (.ptr 3 0)),(8,.one (.ptr 4 0)),(9,vi ((0:Nat):Int))]) ?_
  refine Km (fun mz sz=>∃ j:Nat,j<=x.kids.length/\mz=x.kids.length - j/\sz=⟨fr 66 [(2,.one (.d (.bx [.int .i64 g.root,.sl (nds g.l)]))),(3,.one (.d (.bx [.int .i64 h.root,.sl (nds h.l)]))),(4,.one (.ptr 0 0)),(5,.one (.ptr 1 0)),(6,vi i),(7,.one (.ptr 3 0)),(8,.one (.ptr 4 0)),(9,vi (j:Int))],[.cells [.d (.int .i64 0),.nil],.cells [.d (.int .i64 g.root),.own 2 i],.row 6 i (nds ((Xbi g.l h.l).take (g.l.length+i))),.cells x.as,.cells [.d (.int .i64 x.k),.d (.int .i64 x.x.k),.d (.int .i64 x.x.n),.d (.str x.x.s),.d (.sl (scs x.keys)),.own 5 j],.row 1 j (Xai ((x.kids.map fun i=>i+(g.l.length:Int)).take j))]⟩) x.kids.length ⟨0,Nat.zero_le _,rfl,by simp[Xai]⟩ ?_
  rintro _ _ ⟨j,hj,rfl,rfl⟩
  simp only[go_sem]
  by_cases hjl:j < x.kids.length
  ·obtain⟨y,hy⟩:=Xaj hjl
   have e2:decide ((j:Int) < (x.kids.length:Int))=true:=decide_eq_true (by omega)
   have hyk:=hkin x hxm y (List.mem_of_getElem? hy)
   have hmy:(x.kids.map fun i=>i+(g.l.length:Int))[j]?=some (y+(g.l.length:Int)):=by rw[List.getElem?_map,hy];rfl
   repeat' first|refine Kn rfl ?_|((first|refine Ka ?_|refine Kb ?_|refine Kv ?_|refine Ke ?_);simp only[e2,go_sem])|refine Kf ?_|refine Kg ?_|refine⟨_,⟨Int.natCast_nonneg _,Xad hy,rfl⟩,Kg ?_⟩|apply Kp<;>intro _|((first|refine Kh ?_|refine Ki rfl ?_);simp only[e2,or_self,Qs,Qt,Qu,Qv,Qw,Qx,Qy,Qz,Za,go_sem])
   refine⟨by unfold inK;simp[IntKind.min,IntKind.max,IntKind.signed,IntKind.bits];omega,by simp,by simp only[List.length_take,List.length_map];omega,by simp only[List.length_take,List.length_map];unfold Xab;omega,?_⟩
   rw[show Xai ((x.kids.map fun i=>i+(g.l.length:Int)).take j)++[[.int .i64 (y+(g.l.length:Int))]]=Xai ((x.kids.map fun i=>i+(g.l.length:Int)).take (j+1)) from Xea hmy]
   repeat' first|refine Kn rfl ?_|((first|refine Ka ?_|refine Kb ?_|refine Kv ?_|refine Ke ?_);simp only[e2,go_sem])|refine Kf ?_|refine Kg ?_|apply Kp<;>intro _|((first|refine Kh ?_|refine Ki rfl ?_);simp only[e2,or_self,Qs,Qt,Qu,Qv,Qw,Qx,Qy,Qz,Za,go_sem])
   refine⟨Xaf hjl (by unfold Xab;omega),?_⟩
   refine Kt (fr 66 [(2,.one (.d (.bx [.int .i64 g.root,.sl (nds g.l)]))),(3,.one (.d (.bx [.int .i64 h.root,.sl (nds h.l)]))),(4,.one (.ptr 0 0)),(5,.one (.ptr 1 0)),(6,vi i),(7,.one (.ptr 3 0)),(8,.one (.ptr 4 0)),(9,vi (j+1))]) ?_
   exact Kl ⟨x.kids.length - (j+1),by omega,j+1,by omega,rfl,rfl⟩
  ·obtain rfl:j=x.kids.length:=by omega
   have e2:decide ((x.kids.length:Int) < (x.kids.length:Int))=false:=decide_eq_false (by omega)
   rw[show (x.kids.map fun i=>i+(g.l.length:Int)).take x.kids.length=x.kids.map fun i=>i+(g.l.length:Int) from List.take_of_length_le (by simp)]
   repeat' first|refine Ko rfl ?_|((first|refine Ka ?_|refine Kb ?_|refine Kv ?_|refine Ke ?_);simp only[e2,go_sem])|refine Kf ?_|refine Kg ?_|(apply Kp<;>intro _<;>try (exfalso;omega))|((first|refine Kh ?_|refine Ki rfl ?_);simp only[e2,or_self,Qs,Qt,Qu,Qv,Qw,Qx,Qy,Qz,Za,go_sem])
   refine Xc3 rfl ?_
   refine Xat 5 ?_
   simp only[go_sem]
   repeat' first|refine Kn rfl ?_|((first|refine Ka ?_|refine Kb ?_|refine Kv ?_|refine Ke ?_);simp only[go_sem])|refine Kf ?_|refine Kg ?_|apply Kp<;>intro _|((first|refine Kh ?_|refine Ki rfl ?_);simp only[or_self,Qs,Qt,Qu,Qv,Qw,Qx,Qy,Qz,Za,go_sem])
   refine⟨by simp,by simp only[List.length_take,List.length_map];omega,by simp only[List.length_take,List.length_map];unfold Xab;omega,?_⟩
   rw[hsn]
   repeat' first|refine Kn rfl ?_|((first|refine Ka ?_|refine Kb ?_|refine Kv ?_|refine Ke ?_);simp only[go_sem])|refine Kf ?_|refine Kg ?_|apply Kp<;>intro _|((first|refine Kh ?_|refine Ki rfl ?_);simp only[or_self,Qs,Qt,Qu,Qv,Qw,Qx,Qy,Qz,Za,go_sem])
   refine⟨Xaf hil (by unfold Xab;omega),?_⟩
   refine Kt (fr 66 [(2,.one (.d (.bx [.int .i64 g.root,.sl (nds g.l)]))),(3,.one (.d (.bx [.int .i64 h.root,.sl (nds h.l)]))),(4,.one (.ptr 0 0)),(5,.one (.ptr 1 0)),(6,vi (i+1))]) ?_
   refine Ku 3 ?_
   simp only[go_sem]
   refine Kl ⟨h.l.length - (i+1),by omega,i+1,by omega,rfl,?_,rfl⟩
   exact Nat.zero_le _
 ·obtain rfl:i=h.l.length:=by omega
  have e1:decide ((h.l.length:Int) < (h.l.length:Int))=false:=decide_eq_false (by omega)
  rw[List.take_of_length_le (by omega)]
  repeat' first|refine Ko rfl ?_|((first|refine Ka ?_|refine Kb ?_|refine Kv ?_|refine Ke ?_);simp only[e1,go_sem])|refine Kf ?_|refine Kg ?_|(apply Kp<;>intro _<;>try (exfalso;omega))|((first|refine Kh ?_|refine Ki rfl ?_);simp only[e1,or_self,Qs,Qt,Qu,Qv,Qw,Qx,Qy,Qz,Za,go_sem])
  refine Xc3 rfl ?_
  refine Xat 2 ?_
  simp only[go_sem]
  repeat' first|refine Kn rfl ?_|((first|refine Ka ?_|refine Kb ?_|refine Kv ?_|refine Ke ?_);simp only[go_sem])|refine Kf ?_|refine Kg ?_|apply Kp<;>intro _|((first|refine Kh ?_|refine Ki rfl ?_);simp only[or_self,Qs,Qt,Qu,Qv,Qw,Qx,Qy,Qz,Za,go_sem])
  all_goals exact⟨rfl,rfl⟩
theorem Yg3 {g h:Gr} (hg:Good g) (hh:Good h) (hl:g.l.length+h.l.length<=200):Good (Xh8 g h):=by
 have hJl:(Xbi g.l h.l).length=g.l.length+h.l.length:=Xhg
 have hf:=hg.fine.join hh.fine
 have h1:=hg.in
 unfold inL at h1
 exact⟨Xwu (by show (Xbi g.l h.l).length<=200;omega) (by show 0<=g.root/\g.root < ((Xbi g.l h.l).length:Int);omega) fun x hx=>hf.node x hx,hf.small⟩
set_option maxHeartbeats 1000000 in
theorem Yoo (g h:Gr) (hs:Xd9 g) (hs':Xd9 h) (hst:∀ x∈g.l,x.short) (hst':∀ x∈h.l,x.short) (hl:g.l.length+h.l.length<=200):Xam QP gp 17 [g.v,h.v] (.tup [vb (Xpv g h),vi (Xpw g h)]):=by
 have c1:Xam QP gp 39 [g.v] (.tup [vi ((chk g).getD (0,0)).1,vi (Xf3 g)]):=Xyf (gp:=gp) g hst
 have c2:Xam QP gp 39 [h.v] (.tup [vi ((chk h).getD (0,0)).1,vi (Xf3 h)]):=Xyf (gp:=gp) h hst'
 refine Wov ?_
 simp only[go_sem]
 by_cases e:Xf3 g=0
 ·by_cases e':Xf3 h=0
  ·have hg:Good g:=⟨Yon.1 e,hs⟩
   have hh:Good h:=⟨Yon.1 e',hs'⟩
   have hJ:=Yg3 hg hh hl
   have c3:=Yg2 (gp:=gp) hg hh
   have hJl:(Xbi g.l h.l).length=g.l.length+h.l.length:=Xhg
   have c4:=Yvv (gp:=gp) (Xh8 g h) hJ hJ.s hJ.fine (by show (Xbi g.l h.l).length<=1000;omega)
   have hb:Xpv g h=Ynw g h:=by unfold Xpv;rw[if_pos ⟨hg.c,hh.c⟩]
   have he:Xpw g h=0:=by unfold Xpw;rw[if_pos e,e']
   rw[hb,he]
   have hr:=hg.in
   have hr':=hh.in
   unfold inL at hr hr'
   obtain⟨a,ha⟩:=Int.eq_ofNat_of_zero_le hr.1
   obtain⟨b,hb'⟩:=Int.eq_ofNat_of_zero_le hr'.1
   have hM:(Xg4 (Xp1 (Xbi g.l h.l)))[a]?=some [.sl (bls (Yvw (Xbi g.l h.l) a))]:=by unfold Xg4;rw[List.getElem?_map,Xy2 _ (by omega)];rfl
   have hR:=Xy3 (Xbi g.l h.l) (i:=a) (j:=b+g.l.length) (by omega)
   have hrow:g.root.toNat=a:=by omega
   have hcol:(h.root+(g.l.length:Int)).toNat=b+g.l.length:=by omega
   have hS:Ynw g h=decide ((Xc5 (Xbi g.l h.l))[a]?=(Xc5 (Xbi g.l h.l))[b+g.l.length]?):=by
    unfold Ynw
    rw[hrow,hcol]
   rw[hS]
   have hM0:(Xg4 (Xp1 (Xbi g.l h.l)))[g.root.toNat]?=some [.sl (bls (Yvw (Xbi g.l h.l) a))]:=by rw[hrow];exact hM
   have hR1:(bls (Yvw (Xbi g.l h.l) a))[(h.root+(g.l.length:Int)).toNat]?=some [.bool (decide ((Xc5 (Xbi g.l h.l))[a]?=(Xc5 (Xbi g.l h.l))[b+g.l.length]?))]:=by rw[hcol];exact Xad hR
   have h00:0<=h.root+(g.l.length:Int):=by omega
   rw[e] at c1
   rw[e'] at c2
   have hjl:(Xh8 g h).l=Xbi g.l h.l:=rfl
   rw[hjl] at c4
   have hik:inK .i64 (h.root+(g.l.length:Int)):=by unfold inK;simp[IntKind.min,IntKind.max,IntKind.signed,IntKind.bits];omega
   generalize Xh8 g h=J at *
   repeat' first|refine Kn rfl ?_|((first|refine Ka ?_|refine Kb ?_|refine Kv ?_|refine Ke ?_);simp only[go_sem])|refine Kf ?_|refine Kg ?_|refine⟨_,c1,Kg ?_⟩|refine⟨_,⟨c1,rfl⟩,Kg ?_⟩|refine⟨_,c2,Kg ?_⟩|refine⟨_,⟨c2,rfl⟩,Kg ?_⟩|refine⟨_,c3,Kg ?_⟩|refine⟨_,⟨c3,rfl⟩,Kg ?_⟩|refine⟨_,c4,Kg ?_⟩|refine⟨_,⟨c4,rfl⟩,Kg ?_⟩|refine⟨_,⟨hr.1,hM0,rfl⟩,Kg ?_⟩|refine⟨hik,?_⟩|refine⟨_,⟨h00,hR1,rfl⟩,Kg ?_⟩|(apply Kp<;>intro _<;>try (exfalso;omega))|((first|refine Kh ?_|refine Ki rfl ?_);simp only[or_self,Qs,Qt,Qu,Qv,Qw,Qx,Qy,Qz,Za,go_sem])
   all_goals trace_state
   all_goals trace_state
  ·have hb:Xpv g h=false:=by unfold Xpv;rw[if_neg (fun hh=>e' (Xcu hh.2))]
   have he:Xpw g h=Xf3 h:=by unfold Xpw;rw[if_pos e]
   rw[hb,he]
   rw[e] at c1
   have e2:(Xf3 h != 0)=true:=by simpa using e'
   repeat' first|refine Kn rfl ?_|((first|refine Ka ?_|refine Kb ?_|refine Kv ?_|refine Ke ?_);simp only[e2,go_sem])|refine Kf ?_|refine Kg ?_|refine⟨_,c1,Kg ?_⟩|refine⟨_,⟨c1,rfl⟩,Kg ?_⟩|refine⟨_,c2,Kg ?_⟩|refine⟨_,⟨c2,rfl⟩,Kg ?_⟩|(apply Kp<;>intro _<;>try (exfalso;omega))|((first|refine Kh ?_|refine Ki rfl ?_);simp only[e2,or_self,Qs,Qt,Qu,Qv,Qw,Qx,Qy,Qz,Za,go_sem])
   all_goals trace_state
 ·have hb:Xpv g h=false:=by unfold Xpv;rw[if_neg (fun hh=>e (Xcu hh.1))]
  have he:Xpw g h=Xf3 g:=by unfold Xpw;rw[if_neg e]
  rw[hb,he]
  have e2:(Xf3 g != 0)=true:=by simpa using e
  repeat' first|refine Kn rfl ?_|((first|refine Ka ?_|refine Kb ?_|refine Kv ?_|refine Ke ?_);simp only[e2,go_sem])|refine Kf ?_|refine Kg ?_|refine⟨_,c1,Kg ?_⟩|refine⟨_,⟨c1,rfl⟩,Kg ?_⟩|refine⟨_,c2,Kg ?_⟩|refine⟨_,⟨c2,rfl⟩,Kg ?_⟩|(apply Kp<;>intro _<;>try (exfalso;omega))|((first|refine Kh ?_|refine Ki rfl ?_);simp only[e2,or_self,Qs,Qt,Qu,Qv,Qw,Qx,Qy,Qz,Za,go_sem])
  all_goals trace_state
end Go.Fw.L07
