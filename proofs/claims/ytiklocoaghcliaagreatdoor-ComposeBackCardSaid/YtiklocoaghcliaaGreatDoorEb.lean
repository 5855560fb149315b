/- Chapter 12,plain: how often nodes stand,how deep. -/
import Derived.Test.YtiklocoaghcliaaGreatDoorEa
import Derived.Test.YtiklocoaghcliaaGreatDoorL07L12Mini
import Derived.Test.YtiklocoaghcliaaGreatDoorLc
set_option linter.all false
namespace Go.Fw.L07
open Go Go.Fw
open Go.Fw.Sh renaming intro->Kg
open Go.Fw renaming Xec->Ka,Xbg->Ka,Xhs->Ka,Xh9->Kv,Xel->Kf,Yjy->Ki,Xdn->Kt,Xl3->Kk,Xh8->Ku,Xdl->Kl,Xfl->Km,Gx->Kn,Gw->Ko
open Go.Fw renaming Xbg->Ka, Xbk->Ka, Xbv->Ka, Xb3->Ka
open Go.Fw renaming Xec->Kw, Xbg->Kw, Xbk->Kw, Xbv->Kw, Xb3->Kw, Xh6->Kw, Xem->Kw
open Go.Fw.Sh renaming intro->Kf
open Int renaming natCast_nonneg->Kq
open List renaming getElem?_eq_some_iff->Kr
open And renaming intro->Kp
open Nat renaming reduceAdd->Qa,reduceSub->Qb,reduceMul->Qc,reduceLeDiff->Qd,reduceLT->Qe,reduceEqDiff->Qf
open Int renaming reduceToNat->Qg,reduceLT->Qh,reduceLE->Qi,reduceGT->Qj,reduceGE->Qk,reduceEq->Ql,reduceNe->Qm,reduceBEq->Qn,reduceBNe->Qo,reduceAdd->Qp,reduceSub->Qq,reduceNeg->Qr
open Go.Fw.V.one renaming injEq->Qs
open Go.Fw.V.agg renaming injEq->Qt
open Go.Fw.V.tup renaming injEq->Qu
open Go.Fw.A.d renaming injEq->Qv
open Go.Fw.D.bool renaming injEq->Qw
open Go.Fw.D.int renaming injEq->Qx
open Go.Fw.D.str renaming injEq->Qy
open Go.Fw.D.sl renaming injEq->Qz
open List.cons renaming injEq->Za
set_option maxRecDepth 4000
def Xgh (n:Nat) (ks:List Int):List Int:=(List.range n).map (fun i:Nat=>((ks.count (i:Int):Nat):Int))
theorem Xfd (n:Nat) (ks:List Int):(Xgh n ks).length=n:=by simp[Xgh]
theorem Xsz {n i:Nat} (ks:List Int) (h:i < n):(Xgh n ks)[i]?=some ((ks.count (i:Int):Nat):Int):=by
 unfold Xgh
 rw[List.getElem?_map,List.getElem?_range h];rfl
theorem Yhi (n:Nat):Xgh n []=List.replicate n 0:=by
 apply List.ext_getElem?
 intro i
 by_cases h:i < n
 ·rw[Xsz _ h,List.getElem?_replicate,if_pos h];rfl
 ·rw[List.getElem?_eq_none (by rw[Xfd];omega),List.getElem?_eq_none (by simp;omega)]
theorem Ypd {n j:Nat} (ks:List Int) (h:j < n):(Xgh n ks).set j (((ks.count (j:Int):Nat):Int)+1)=Xgh n (ks++[(j:Int)]):=by
 apply List.ext_getElem?
 intro i
 by_cases hi:i < n
 ·rw[Xsz _ hi,List.getElem?_set]
  by_cases e:j=i
  ·subst e
   rw[if_pos rfl,if_pos (by rw[Xfd];exact h)]
   simp[List.count_append]
  ·rw[if_neg e,Xsz _ hi]
   have:¬ (j:Int)=(i:Int):=by omega
   simp[List.count_append,List.count_cons,this]
 ·rw[List.getElem?_eq_none (by rw[List.length_set,Xfd];omega),List.getElem?_eq_none (by rw[Xfd];omega)]
def flat (g:Gr):List Int:=g.l.flatMap Nd.kids
def Xg9 (g:Gr):List Int:=Xgh g.l.length (0::flat g)
def Yyt (f:Nat->Int):Nat->Int
 | 0=>0
 | n+1=>Yyt f n+f n
theorem flat_len:∀ (l:List Nd),((l.flatMap Nd.kids).length:Int)=Yyt (fun i=>(((l[i]?).map fun x=>(x.kids.length:Int)).getD 0)) l.length
 | []=>rfl
 | x::l=>by
  have e:Yyt (fun i=>((((x::l)[i]?).map fun x=>(x.kids.length:Int)).getD 0)) (l.length+1)=(x.kids.length:Int)+Yyt (fun i=>(((l[i]?).map fun x=>(x.kids.length:Int)).getD 0)) l.length:=by
   generalize l.length=n
   induction n with
   | zero=>simp[Yyt]
   | succ n ih =>
    have:Yyt (fun i=>((((x::l)[i]?).map fun x=>(x.kids.length:Int)).getD 0)) (n+1+1)=Yyt (fun i=>((((x::l)[i]?).map fun x=>(x.kids.length:Int)).getD 0)) (n+1)+((((x::l)[n+1]?).map fun x=>(x.kids.length:Int)).getD 0):=rfl
    rw[this,ih]
    simp only[Yyt,List.getElem?_cons_succ]
    omega
  rw[List.length_cons,e,List.flatMap_cons,List.length_append,Int.natCast_add,flat_len l]
def Xzt (x:Nd) (n:Int):Bool:=decide (x.kids≠[]) && decide (n > 1)
def Ww6:List Nd->List Int->Nat->List Int
 | x::l,n::m,k=>if Xzt x n then ((k+1:Nat):Int)::Ww6 l m (k+1) else 0::Ww6 l m k
 | _,_,_=>[]
def Xfe (g:Gr) (us:List Int):Nat->List Int × Nat
 | 0=>([],0)
 | i+1=>match g.l[i]?,us[i]? with
  | some x,some n=>if Xzt x n then ((Xfe g us i).1++[(((Xfe g us i).2+1:Nat):Int)],(Xfe g us i).2+1) else ((Xfe g us i).1++[0],(Xfe g us i).2)
  | _,_=>Xfe g us i
def Xuz (g:Gr):List Int:=(Xfe g (Xg9 g) g.l.length).1
theorem Xk2 {g:Gr} {us:List Int} (h:us.length=g.l.length):∀ i,i<=g.l.length->(Xfe g us i).1.length=i
 | 0,_=>rfl
 | i+1,hi=>by
  obtain⟨x,hx⟩:=Xaq (l:=g.l) (i:=i) (by omega)
  obtain⟨n,hn⟩:=Xaq (l:=us) (i:=i) (by omega)
  simp only[Xfe,hx,hn]
  split <;> simp[Xk2 h i (by omega)]
theorem Xzu {g:Gr} {us:List Int} (h:us.length=g.l.length) {i:Nat}:∀ j,i<=j->j<=g.l.length->∀ k,k < i->(Xfe g us j).1[k]?=(Xfe g us i).1[k]?
 | 0,hij,_,k,hk=>by omega
 | j+1,hij,hj,k,hk=>by
  by_cases e:i=j+1
  ·rw[e]
  ·rw[<- Xzu h j (by omega) (by omega) k hk]
   have hl:=Xk2 h j (by omega)
   obtain⟨x,hx⟩:=Xaq (l:=g.l) (i:=j) (by omega)
   obtain⟨n,hn⟩:=Xaq (l:=us) (i:=j) (by omega)
   simp only[Xfe,hx,hn]
   split <;> rw[List.getElem?_append_left (by omega)]
theorem Wg9 {g:Gr} {us:List Int} (h:us.length=g.l.length) {i:Nat} {x:Nd} {n:Int} (hx:g.l[i]?=some x) (hn:us[i]?=some n) :
  (Xfe g us g.l.length).1[i]?=some (if Xzt x n then (((Xfe g us i).2+1:Nat):Int) else 0):=by
 have hi:=(Kr.1 hx).1
 rw[Xzu h (i:=i+1) g.l.length (by omega) (Nat.le_refl _) i (by omega)]
 have hl:=Xk2 h i (by omega)
 simp only[Xfe,hx,hn]
 split <;> rw[List.getElem?_append_right (by omega),hl,Nat.sub_self] <;> rfl
inductive DepW (k:Int->List Int):Int->List Int->List Int->List Int->Prop
 | nil (d:Int) (a:List Int):DepW k d [] a a
 | skip {d:Int} {i:Nat} {r a b:List Int} {x:Int}:a[i]?=some x->0 < x->DepW k d r a b->DepW k d ((i:Int)::r) a b
 | step {d:Int} {i:Nat} {r a b c:List Int} {x:Int}:a[i]?=some x->¬ 0 < x->DepW k (d+1) (k i) (a.set i d) b->DepW k d r b c->DepW k d ((i:Int)::r) a c
theorem DepW.det {k:Int->List Int} {d:Int} {t a b c:List Int} (h:DepW k d t a b) (h':DepW k d t a c):b=c:=by
 induction h generalizing c with
 | nil=>cases h';rfl
 | skip hx h0 _ ih =>
  cases h' with
  | skip _ _ h2=>exact ih h2
  | step hy h1 _ _=>rw[hx] at hy;cases hy;exact absurd h0 h1
 | step hx h0 _ _ ih1 ih2 =>
  cases h' with
  | skip hy h1 _=>rw[hx] at hy;cases hy;exact absurd h1 h0
  | step hy h1 h2 h3 =>
   have:=ih1 h2
   subst this
   exact ih2 h3
theorem DepW.len {k:Int->List Int} {d:Int} {t a b:List Int} (h:DepW k d t a b):b.length=a.length:=by
 induction h with
 | nil=>rfl
 | skip _ _ _ ih=>exact ih
 | step _ _ _ _ ih1 ih2=>rw[ih2,ih1,List.length_set]
open Classical in
noncomputable def Xqj (k:Int->List Int) (d:Int) (t a:List Int):List Int:=if h:∃ b,DepW k d t a b then Classical.choose h else a
theorem DepW.eq {k:Int->List Int} {d:Int} {t a b:List Int} (h:DepW k d t a b):Xqj k d t a=b:=by
 unfold Xqj
 rw[dif_pos ⟨b,h⟩]
 exact (Classical.choose_spec (⟨b,h⟩:∃ b,DepW k d t a b)).det h
def Yip (a:List Int):Nat:=a.countP fun x=>decide (¬ 0 < x)
theorem Xk3 {a:List Int} {i:Nat} {x d:Int} (h:a[i]?=some x) (h0:¬ 0 < x) (hd:0 < d):Yip (a.set i d)+1=Yip a:=by
 induction a generalizing i with
 | nil=>simp at h
 | cons y a ih =>
  cases i with
  | zero =>
   simp at h;subst h
   simp[Yip,List.countP_cons,hd,h0]
  | succ i =>
   have:=ih (i:=i) (by simpa using h)
   simp only[Yip,List.set_cons_succ,List.countP_cons] at this ⊢
   omega
theorem Yhj {k:Int->List Int} {n:Nat} (hk:∀ i,∀ j∈k i,0<=j/\j < n):∀ (z:Nat) (d:Int) (t a:List Int),Yip a<=z->0 < d->a.length=n->(∀ i∈t,0<=i/\i < n)->∃ b,DepW k d t a b/\Yip b<=Yip a:=by
 intro z
 induction z with
 | zero =>
  intro d t
  induction t with
  | nil=>intro a _ _ _ _;exact⟨a,.nil d a,Nat.le_refl _⟩
  | cons i t ih =>
   intro a hz hd hl ht
   have hi:=ht i (by simp)
   obtain⟨m,rfl⟩:=Int.eq_ofNat_of_zero_le hi.1
   obtain⟨x,hx⟩:=Xaq (l:=a) (i:=m) (by omega)
   by_cases h0:0 < x
   ·obtain⟨b,hb,hzb⟩:=ih a hz hd hl fun j hj=>ht j (by simp[hj])
    exact⟨b,.skip hx h0 hb,hzb⟩
   ·have:=Xk3 hx h0 hd
    omega
 | succ z ihz =>
  intro d t
  induction t with
  | nil=>intro a _ _ _ _;exact⟨a,.nil d a,Nat.le_refl _⟩
  | cons i t ih =>
   intro a hz hd hl ht
   have hi:=ht i (by simp)
   obtain⟨m,rfl⟩:=Int.eq_ofNat_of_zero_le hi.1
   obtain⟨x,hx⟩:=Xaq (l:=a) (i:=m) (by omega)
   by_cases h0:0 < x
   ·obtain⟨b,hb,hzb⟩:=ih a hz hd hl fun j hj=>ht j (by simp[hj])
    exact⟨b,.skip hx h0 hb,hzb⟩
   ·have hzs:=Xk3 hx h0 hd
    obtain⟨b,hb,hzb⟩:=ihz (d+1) (k m) (a.set m d) (by omega) (by omega) (by simp[hl]) (hk m)
    obtain⟨c,hc,hzc⟩:=ih b (by omega) hd (by rw[hb.len];simp[hl]) fun j hj=>ht j (by simp[hj])
    exact⟨c,.step hx h0 hb hc,by omega⟩
abbrev Xd2 (m:Nat):List Int:=(List.range m).map (fun i:Nat=>(i:Int))
theorem Xcy (m:Nat):(Xd2 m).length=m:=by rw[List.length_map,List.length_range]
theorem Xjb {m i:Nat} (h:i < m):(Xd2 m)[i]?=some (i:Int):=by rw[List.getElem?_map,List.getElem?_range h];rfl
theorem Xor {m:Nat} {i:Int}:i∈Xd2 m↔0<=i/\i < m:=by
 simp only[List.mem_map,List.mem_range]
 constructor
 ·rintro⟨j,hj,rfl⟩;omega
 ·rintro⟨h1,h2⟩;exact⟨i.toNat,by omega,by omega⟩
theorem Xm7 (m:Nat):Xd2 (m+1)=Xd2 m++[(m:Int)]:=by
 show (List.range (m+1)).map _=(List.range m).map _++_
 rw[List.range_succ,List.map_append];rfl
structure Tdy (g:Gr):Prop where
 good:Good g
 root:g.root=0
 walk:Xbn g=Xd2 g.l.length
 kids:∀ x∈g.l,Xak x=x.kids
 self:g=Xbl g
theorem Good.tdy {q:Gr} (h:Good q):Tdy (Xbl q) where
 good:=h.tidy
 root:=rfl
 walk:=by rw[Xsg h,Xeo]
 kids:=by
  intro x hx
  simp only[Xbl,List.mem_map] at hx
  obtain⟨i,hi,rfl⟩:=hx
  exact (Xmq (h.node (h.wIn i hi)) _).1
 self:=(Yb4 h).symm
theorem Ype {l:List Nd} {i:Nat} {x:Nd} (h:l[i]?=some x):Xbc l i=x:=by
 have hi:=(Kr.1 h).1
 unfold Xbc
 rw[if_pos (by omega),Int.toNat_natCast,h];rfl
theorem Tdy.kd {g:Gr} (h:Tdy g) {i:Nat} {x:Nd} (hx:g.l[i]?=some x):kd g i=x.kids:=by
 rw[L07.kd,Ype hx]
 exact h.kids x (List.mem_of_getElem? hx)
theorem Tdy.flatIn {g:Gr} (h:Tdy g):∀ k∈flat g,0<=k/\k < g.l.length:=by
 intro k hk
 obtain⟨x,hx,hk⟩:=List.mem_flatMap.1 hk
 obtain⟨i,hi⟩:=List.mem_iff_getElem?.1 hx
 rw[<- h.kd hi] at hk
 exact h.good.kid i k hk
theorem Tdy.pos {g:Gr} (h:Tdy g):0 < g.l.length:=by
 have:=h.good.root;omega
theorem Tdy.from {g:Gr} (h:Tdy g) {i:Nat} (hi:i < g.l.length) (h0:0 < i):(i:Int)∈flat g:=by
 have hw:(Xbn g)[i]?=some (i:Int):=by rw[h.walk];exact Xjb hi
 obtain⟨m,p,hm,hp,hk⟩:=h.good.from hw h0
 rw[h.walk,Xjb (by omega)] at hp
 cases hp
 obtain⟨x,hx⟩:=Xaq (l:=g.l) (i:=m) (by omega)
 rw[h.kd hx] at hk
 exact List.mem_flatMap.2 ⟨x,List.mem_of_getElem? hx,hk⟩
noncomputable def Xgi (g:Gr):List Int:=Xqj (kd g) 1 [0] (List.replicate g.l.length 0)
theorem Tdy.dep {g:Gr} (h:Tdy g):DepW (L07.kd g) 1 [0] (List.replicate g.l.length 0) (Xgi g):=by
 obtain⟨b,hb,_⟩:=Yhj (k:=L07.kd g) (n:=g.l.length) h.good.kid _ 1 [0] (List.replicate g.l.length 0) (Nat.le_refl _) (by omega) (by simp) (by simp;exact h.pos)
 have:=hb.eq
 unfold Xgi
 rw[this]
 exact hb
theorem Tdy.dep_len {g:Gr} (h:Tdy g):(Xgi g).length=g.l.length:=by rw[h.dep.len];simp
open Go.Proofs.Tryz renaming prog->QP
variable {gp:Xaj}
abbrev ctC (g:Gr):Ch:=.cells [.d (.int .i64 g.root),.d (.sl (nds g.l)),.own 0 0]
theorem Ypf (n:Nat):List.replicate n [D.int .i64 0]=Xai (Xgh n []):=by rw[Yhi];simp[Xai]
theorem Yhk (h:Env gp) {g:Gr} (hg:Tdy g):Tri QP gp 52 [g.v] [] fun r post=>r=.tup [.one (.ptr 1 0),vi 0]/\post=[.row 1 0 (Xai (Xgh g.l.length [])),ctC g]:=by
 refine Wgr ?_
 simp only[go_sem]
 have c1:=Xp0 h g hg.good.s
 rw[show decide (chk g=none/\g=Xbl g)=true from decide_eq_true ⟨hg.good.c,hg.self⟩] at c1
 have hl:=hg.good.len
 have hlb:(g.l.length:Int)*8<=140737488355328:=by omega
 have hlm:(g.l.length:Int) < (Xad:Int):=by unfold Xad;omega
 repeat' first|refine Kn rfl ?_|((first|refine Kw ?_|refine Kv ?_);simp only[go_sem])|refine Kf ?_|refine⟨_,c1,Kg ?_⟩|refine⟨_,⟨c1,rfl⟩,Kg ?_⟩|refine⟨Kq _,hlb,hlm,?_⟩|apply Kp<;>intro _
 rw[Ypf]
theorem Ypg (sz v:Nat) (xs:List (List D)) (cs:List A):Tri QP gp 77 [.one (.ptr 1 0)] [.row sz v xs,.cells cs] fun r post =>
  r=.one (.clo (.func 101) [.ptr 2 0])/\post=[.row sz v xs,.cells cs,.cells [.ptr 1 0]]:=by
 refine Wg2 ?_
 simp only[go_sem]
 repeat' first|refine Kn rfl ?_|((first|refine Kw ?_|refine Kv ?_);simp only[go_sem])|refine Kf ?_|apply Kp<;>intro _
theorem Xs0:Xao QP gp 76 [] (.agg [.d (.bool false),.d (.bool true),.d (.bool true)]):=by
 refine Ww1 ?_
 simp only[go_sem]
 repeat' first|refine Kn rfl ?_|((first|refine Kw ?_|refine Kv ?_);simp only[go_sem])|refine Kf ?_|apply Kp<;>intro _
theorem Yhl {n j:Nat} (ks:List Int) (h:j < n):(Xai (Xgh n ks))[j]?=some [.int .i64 ((ks.count (j:Int):Nat):Int)]:=Xae (Xsz ks h)
theorem Xzv {n j:Nat} (ks:List Int) (h:j < n):(Xai (Xgh n ks)).set j [.int .i64 (((ks.count (j:Int):Nat):Int)+1)]=Xai (Xgh n (ks++[(j:Int)])):=by
 rw[Xpz,Ypd ks h]
theorem Wha:inK .i64 1:=by simp[inK,IntKind.min,IntKind.max,IntKind.signed,IntKind.bits]
theorem Whb {ks:List Int} {j:Int} (h:ks.length<=100000):inK .i64 (((ks.count j:Nat):Int)+1):=by
 have:=List.count_le_length (a:=j) (l:=ks)
 exact Xat (n:=1000000) (by omega) (by unfold Xad;omega)
theorem X1k {l:List Nd} (h:∀ x∈l,x.kids.length<=12):(l.flatMap Nd.kids).length<=12*l.length:=by
 induction l with
 | nil=>simp
 | cons x l ih =>
  have h1:=h x (by simp)
  have h2:=ih fun y hy=>h y (by simp[hy])
  simp only[List.flatMap_cons,List.length_append,List.length_cons]
  omega
theorem Ww7 {g:Gr} (hg:Tdy g):Tri QP gp 55 [.one (.ptr 1 0)] [.row 1 0 (Xai (Xgh g.l.length [])),ctC g] fun r post =>
  r=.one (.own 0 0)/\post=[.row 1 0 (Xai (Xg9 g)),ctC g]:=by
 have hpos:=hg.pos
 have hlen:=hg.good.len
 have hfi:=hg.flatIn
 have hsm:=hg.good.s
 refine Wg1 ?_
 simp only[go_sem]
 have hl0:0 < (Xgh g.l.length []).length:=by rw[Xfd];exact hpos
 have hg0:(Xai (Xgh g.l.length []))[0]?=some [.int .i64 0]:=by rw[Yhl [] hpos];rfl
 have hs0:(Xai (Xgh g.l.length [])).set 0 [.int .i64 1]=Xai (Xgh g.l.length [0]):=by
  have:=Xzv (n:=g.l.length) (j:=0) [] hpos
  simpa using this
 repeat' first|refine Kn rfl ?_|((first|refine Kw ?_|refine Kv ?_);simp only[hs0,go_sem])|refine Kf ?_|refine⟨hl0,?_⟩|refine⟨_,⟨hg0,Nat.le_refl _⟩,Kg ?_⟩|refine⟨Wha,?_⟩|apply Kp<;>intro _
 refine Or.inr (Or.inr ⟨[0,1],.one (.clo (.func 101) [.ptr 2 0]),[.row 1 0 (Xai (Xgh g.l.length [0])),ctC g,.cells [.ptr 1 0]],(by simp only[Xa1,Xds,rnV,rnA,Xdy,rn0,Xdx,Xb1,Xdt,rnC,Xah,List.isEmpty_nil,reduceCtorEq,↓reduceIte,Qa,Qb,Qc,Qd,Qe,Qf,Qg,Qh,Qi,Qj,Qk,Ql,Qm,Qn,Qo,Qp,Qq,Qr];simp only[go_sem];exact⟨Ww4,Ypg _ _ _ _⟩),Kg ?_⟩)
 simp only[go_sem]
 repeat' first|refine Kn rfl ?_|((first|refine Kw ?_|refine Kv ?_);simp only[go_sem])|refine Kf ?_|apply Kp<;>intro _
 refine Yzw (f2:=101) (caps:=[.one (.ptr 3 0)]) (fun pd own'=>pd=none/\∃ rest,own'=.row 1 0 (Xai (Xg9 g))::ctC g::.cells [.ptr 1 0]::rest) rfl ?_ Wg8 ?_ ?_ ?_
 ·intro y;simp only[go_sem]
 ·rintro b rc hps ⟨hs,hta,htb⟩
  refine Ypc ?_
  simp only[go_sem]
  repeat' first|refine Kn rfl ?_|((first|refine Kw ?_|refine Kv ?_);simp only[go_sem])|refine Kf ?_|apply Kp<;>intro _
  rw[show Ch.row 1 0 (Xai (Xgh g.l.length [0]))=Ch.row 1 0 (Xai (Xgh g.l.length (0::(g.l.take 0).flatMap Nd.kids))) from rfl]
  refine Kt (fr 33 [(0,.one (.d (.raw (.func (.yield b) #[] #[])))),(1,.one (.ptr 3 0)),(11,.one (.d (.sl (nds g.l)))),(12,vi g.l.length),(13,vi (0:Nat))]) ?_
  refine Km (fun mz sz=>∃ i:Nat,i<=g.l.length/\mz=g.l.length - i/\(0<=i)/\sz=⟨fr 33 [(0,.one (.d (.raw (.func (.yield b) #[] #[])))),(1,.one (.ptr 3 0)),(11,.one (.d (.sl (nds g.l)))),(12,vi g.l.length),(13,vi i)],[.row 1 0 (Xai (Xgh g.l.length (0::(g.l.take i).flatMap Nd.kids))),ctC g,.cells [.ptr 1 0],.cells [.ptr 1 0],.dead,.lp b _ rc .ready none]⟩) (g.l.length) ⟨0,Nat.zero_le _,(Nat.sub_zero _).symm,?_,rfl⟩ ?_
  ·exact Nat.zero_le _
  rintro _ _ ⟨i,hi,rfl,-,rfl⟩
  simp only[go_sem]
  by_cases hil:i < g.l.length
  ·obtain⟨x,hx⟩:=Xaq hil
   have hxm:=List.mem_of_getElem? hx
   have hxk:=(hsm x hxm).2
   have hdl:((g.l.take i).flatMap Nd.kids).length<=12*(g.l.take i).length:=X1k fun y hy=>(hsm y (List.mem_of_mem_take hy)).2
   have htl:(g.l.take i).length<=200:=by simp;omega
   have hnext:(g.l.take (i+1)).flatMap Nd.kids=(g.l.take i).flatMap Nd.kids++x.kids:=by rw[List.take_succ,hx];simp
   generalize (g.l.take i).flatMap Nd.kids=done at *
   repeat' first|refine Kn rfl ?_|((first|refine Kw ?_|refine Kv ?_);simp only[go_sem])|refine Kf ?_|refine⟨_,⟨Kq _,(by first|exact Xae hx|(rw[Int.toNat_natCast];exact Xae hx)),rfl⟩,Kg ?_⟩|(apply Kp<;>intro _<;>try (exfalso;omega))
   rw[show Ch.row 1 0 (Xai (Xgh g.l.length (0::done)))=Ch.row 1 0 (Xai (Xgh g.l.length (0::(done++x.kids.take 0)))) from by simp]
   refine Kt (fr 33 [(0,.one (.d (.raw (.func (.yield b) #[] #[])))),(1,.one (.ptr 3 0)),(3,vi i),(4,.one (.ptr 6 0)),(11,.one (.d (.sl (nds g.l)))),(12,vi g.l.length),(13,vi i),(19,.one (.d (.sl (Xai x.kids)))),(20,vi x.kids.length),(21,vi (0:Nat))]) ?_
   refine Km (fun mz sz=>∃ j:Nat,j<=x.kids.length/\mz=x.kids.length - j/\(0<=j)/\sz=⟨fr 33 [(0,.one (.d (.raw (.func (.yield b) #[] #[])))),(1,.one (.ptr 3 0)),(3,vi i),(4,.one (.ptr 6 0)),(11,.one (.d (.sl (nds g.l)))),(12,vi g.l.length),(13,vi i),(19,.one (.d (.sl (Xai x.kids)))),(20,vi x.kids.length),(21,vi j)],[.row 1 0 (Xai (Xgh g.l.length (0::(done++x.kids.take j)))),ctC g,.cells [.ptr 1 0],.cells [.ptr 1 0],.dead,.lp b _ rc .ready none,.cells x.as]⟩) (x.kids.length) ⟨0,Nat.zero_le _,(Nat.sub_zero _).symm,?_,rfl⟩ ?_
   ·exact Nat.zero_le _
   rintro _ _ ⟨j,hj,rfl,-,rfl⟩
   simp only[go_sem]
   by_cases hkl:j < x.kids.length
   ·obtain⟨y,hy⟩:=Xaq hkl
    have hyr:=hfi y (List.mem_flatMap.2 ⟨x,hxm,List.mem_of_getElem? hy⟩)
    obtain⟨m,rfl⟩:=Int.eq_ofNat_of_zero_le hyr.1
    have hmn:m < g.l.length:=by omega
    have hml:m < (Xgh g.l.length (0::(done++x.kids.take j))).length:=by rw[Xfd];exact hmn
    have hgm:=Yhl (0::(done++x.kids.take j)) hmn
    have hsm2:(Xai (Xgh g.l.length (0::(done++x.kids.take j)))).set m [.int .i64 ((((0::(done++x.kids.take j)).count (m:Int):Nat):Int)+1)]=Xai (Xgh g.l.length (0::(done++x.kids.take (j+1)))):=by
     rw[Xzv _ hmn,<- Xb8 hy];simp
    have hkc:=Whb (ks:=0::(done++x.kids.take j)) (j:=(m:Int)) (by simp;omega)
    repeat' first|refine Kn rfl ?_|((first|refine Kw ?_|refine Kv ?_);simp only[go_sem])|refine Kf ?_|refine⟨_,⟨Kq _,(by first|exact Xae hy|(rw[Int.toNat_natCast];exact Xae hy)),rfl⟩,Kg ?_⟩|(apply Kp<;>intro _<;>try (exfalso;omega))
    refine⟨[.row 1 0 (Xai (Xgh g.l.length (0::(done++x.kids.take (j+1))))),ctC g,.cells [.ptr 1 0],.cells [.ptr 1 0],.dead,.lp b _ rc .ready none,.cells x.as,.cells [.d (.int .i64 i),.d (.int .i64 m)]],true,by simp,⟨5,_,rc,hs,_,_,[.row 1 0 (Xai (Xgh g.l.length (0::(done++x.kids.take (j+1))))),ctC g,.cells [.ptr 1 0],.cells [.ptr 1 0],.dead,.dead,.cells x.as,.cells [.d (.int .i64 i),.d (.int .i64 m)]],none,rfl,by rw[<- Array.length_toList,hps];rfl,hta,htb,?_,rfl,rfl⟩,Kg ?_⟩
    ·rw[hps]
     simp only[go_sem]
     repeat' first|refine Kn rfl ?_|((first|refine Kw ?_|refine Kv ?_);simp only[go_sem])|refine Kf ?_|apply Kp<;>intro _
     refine Xfz ⟨rfl,?_⟩
     repeat' first|refine Kn rfl ?_|((first|refine Kw ?_|refine Kv ?_);simp only[go_sem])|refine Kf ?_|refine⟨Kq _,hml,?_⟩|refine⟨_,⟨hgm,Nat.le_refl _⟩,Kg ?_⟩|refine⟨hkc,?_⟩|apply Kp<;>intro _
     exact Xfz ⟨⟨rfl,rfl⟩,by rw[<- hsm2];rfl⟩
    ·simp only[go_sem]
     repeat' first|refine Kn rfl ?_|((first|refine Kw ?_|refine Kv ?_);simp only[go_sem])|refine Kf ?_|apply Kp<;>intro _
     refine⟨Xat hkl (by unfold Xad;omega),?_⟩
     refine Kt (fr 33 [(0,.one (.d (.raw (.func (.yield b) #[] #[])))),(1,.one (.ptr 3 0)),(3,vi i),(4,.one (.ptr 6 0)),(11,.one (.d (.sl (nds g.l)))),(12,vi g.l.length),(13,vi i),(19,.one (.d (.sl (Xai x.kids)))),(20,vi x.kids.length),(21,vi (j+1))]) ?_
     refine Ku 7 ?_
     simp only[go_sem]
     refine Kl ⟨x.kids.length - (j+1),by omega,j+1,by omega,rfl,?_,rfl⟩
     exact Nat.zero_le _
   ·obtain rfl:x.kids.length=j:=by omega
    rw[List.take_of_length_le (Nat.le_refl x.kids.length)]
    repeat' first|refine Kn rfl ?_|((first|refine Kw ?_|refine Kv ?_);simp only[go_sem])|refine Kf ?_|(apply Kp<;>intro _<;>try (exfalso;omega))
    refine⟨Xat hil (by unfold Xad;omega),?_⟩
    refine Kt (fr 33 [(0,.one (.d (.raw (.func (.yield b) #[] #[])))),(1,.one (.ptr 3 0)),(11,.one (.d (.sl (nds g.l)))),(12,vi g.l.length),(13,vi (i+1))]) ?_
    refine Ku 6 ?_
    simp only[go_sem]
    refine Kl ⟨g.l.length - (i+1),by omega,i+1,by omega,rfl,?_,by rw[hnext];rfl⟩
    exact Nat.zero_le _
  ·obtain rfl:g.l.length=i:=by omega
   rw[List.take_of_length_le (Nat.le_refl g.l.length)]
   repeat' first|refine Kn rfl ?_|((first|refine Kw ?_|refine Kv ?_);simp only[go_sem])|refine Kf ?_|(apply Kp<;>intro _<;>try (exfalso;omega))
   exact⟨.ready,none,rfl,by simp,rfl,_,rfl,rfl⟩
 ·rintro own' ⟨_,rest,rfl⟩
  simp only[go_sem]
  repeat refine Ko rfl ?_
  refine Ka ?_
  simp only[go_sem]
  refine Kt (fr 29 [(2,.one (.own 0 0))]) ?_
  refine Ku 2 ?_
  simp only[go_sem]
  refine Ki rfl ?_
  simp only[or_self,Qs,Qt,Qu,Qv,Qw,Qx,Qy,Qz,Za,go_sem]
 ·rintro _ _ ⟨h,_⟩;cases h
theorem X1l {g:Gr} {i:Nat} {x:Nd} (hx:g.l[i]?=some x) (hr:Xa8 Xag x g.l.length=true) (n:Int) (v:Nat) (xs:List (List D)):Tri QP gp 54 [.one (.ptr 1 0),vi i,vi n] [.row 1 v xs,ctC g] fun r post =>
  r=vb (Xzt x n)/\post=[.row 1 v xs,ctC g,.cells x.as]:=by
 refine Wgz ?_
 simp only[go_sem]
 repeat' first|refine Kn rfl ?_|((first|refine Kw ?_|refine Kv ?_);simp only[go_sem])|refine Kf ?_|refine⟨_,Xs0,Kg ?_⟩|refine⟨_,⟨Xs0,rfl⟩,Kg ?_⟩|refine⟨_,⟨Kq _,(by first|exact Xae hx|(rw[Int.toNat_natCast];exact Xae hx)),rfl⟩,Kg ?_⟩|apply Kp<;>intro _
 rcases Xfo hr with hk|hk|hk
 ·have hp:Xzt x n=false:=by simp[Xzt,(Xgz hr hk).2]
  rw[hp]
  refine⟨0,_,⟨hk,by decide,rfl⟩,Kg ?_⟩
  repeat' first|refine Kn rfl ?_|((first|refine Kw ?_|refine Kv ?_);simp only[go_sem])|refine Kf ?_|apply Kp<;>intro _
 ·have hp:Xzt x n=(decide (x.kids≠[]) && decide (n > 1)):=rfl
  refine⟨1,_,⟨hk,by decide,rfl⟩,Kg ?_⟩
  repeat' first|refine Kn rfl ?_|((first|refine Kw ?_|refine Kv ?_);simp only[go_sem])|refine Kf ?_|apply Kp<;>intro _
  all_goals (rw[hp];rename_i h;cases hkk:x.kids <;> simp_all)
  all_goals omega
 ·have hp:Xzt x n=(decide (x.kids≠[]) && decide (n > 1)):=rfl
  refine⟨2,_,⟨hk,by decide,rfl⟩,Kg ?_⟩
  repeat' first|refine Kn rfl ?_|((first|refine Kw ?_|refine Kv ?_);simp only[go_sem])|refine Kf ?_|apply Kp<;>intro _
  all_goals (rw[hp];rename_i h;cases hkk:x.kids <;> simp_all)
  all_goals omega
abbrev mp (ms:List Int):List (V × V):=ms.map fun a=>(vi a,vb true)
theorem Yhm (ms:List Int):(Ch.map (mp ms)).refs=[]:=by
 simp only[Ch.refs]
 rw[List.flatMap_eq_nil_iff]
 intro e he
 obtain⟨a,_,rfl⟩:=List.mem_map.1 he
 rfl
theorem Yhn (h:Env gp) {g:Gr} (hg:Tdy g):Xao QP gp 28 [g.v] (.tup [.one (.d (.sl (Xai (Xuz g)))),vi 0]):=by
 refine Wwc ?_
 simp only[go_sem]
 repeat' first|refine Kn rfl ?_|((first|refine Kw ?_|refine Kv ?_);simp only[go_sem])|refine Kf ?_|apply Kp<;>intro _
 refine Xgb 13 ?_
 simp only[go_sem]
 repeat' first|refine Kn rfl ?_|((first|refine Kw ?_|refine Kv ?_);simp only[Xkn,go_sem])|refine Kf ?_|apply Kp<;>intro _
 refine Or.inr ⟨[],.tup [.one (.ptr 1 0),vi 0],[.row 1 0 (Xai (Xgh g.l.length [])),ctC g],(by simp only[Xa1,Xds,rnV,rnA,Xdy,rn0,Xdx,Xb1,Xdt,rnC,Xah,List.isEmpty_nil,reduceCtorEq,↓reduceIte,Qa,Qb,Qc,Qd,Qe,Qf,Qg,Qh,Qi,Qj,Qk,Ql,Qm,Qn,Qo,Qp,Qq,Qr];simp only[go_sem];exact⟨Yx7,Yhk h hg⟩),Kg ?_⟩
 simp only[go_sem]
 repeat' first|refine Kn rfl ?_|((first|refine Kw ?_|refine Kv ?_);simp only[Xkn,go_sem])|refine Kf ?_|apply Kp<;>intro _
 refine Or.inr (Or.inr ⟨[0,1],.one (.own 0 0),[.row 1 0 (Xai (Xg9 g)),ctC g],(by simp only[Xa1,Xds,rnV,rnA,Xdy,rn0,Xdx,Xb1,Xdt,rnC,Xah,List.isEmpty_nil,reduceCtorEq,↓reduceIte,Qa,Qb,Qc,Qd,Qe,Qf,Qg,Qh,Qi,Qj,Qk,Ql,Qm,Qn,Qo,Qp,Qq,Qr];simp only[go_sem];exact⟨Wwx,Ww7 hg⟩),Kg ?_⟩)
 simp only[go_sem]
 repeat' first|refine Kn rfl ?_|((first|refine Kw ?_|refine Kv ?_);simp only[Xkn,go_sem])|refine Kf ?_|apply Kp<;>intro _
 refine Xl5 8 1 (by decide) rfl ?_
 simp only[go_sem]
 have hul:(Xg9 g).length=g.l.length:=Xfd _ _
 have hgl:=hg.good.len
 rw[show Xuz g=(Xfe g (Xg9 g) g.l.length).1 from rfl]
 generalize Xg9 g=us at *
 refine Kt (fr 46 [(4,.one (.ptr 1 0)),(6,.one (.mvo (.func 54) false [.ptr 1 0])),(7,.one (.own 3 0)),(8,.one (.own 5 0)),(23,.one (.own 0 0)),(24,vi us.length),(25,vi ((0:Nat):Int))]) ?_
 refine Km (fun mz sz=>∃ (i:Nat) (ms:List Int),i<=us.length/\mz=us.length - i/\ms.length=(Xfe g us i).2/\(∀ a∈ms,a < i)/\ms.length<=i/\sz=⟨fr 46 [(4,.one (.ptr 1 0)),(6,.one (.mvo (.func 54) false [.ptr 1 0])),(7,.one (.own 3 0)),(8,.one (.own 5 i)),(23,.one (.own 0 0)),(24,vi us.length),(25,vi i)],[.row 1 0 (Xai us),ctC g,.dead,.map (mp ms),.dead,.row 1 i (Xai (Xfe g us i).1)]⟩) _ ⟨0,[],Nat.zero_le _,rfl,rfl,by simp,Nat.le_refl _,rfl⟩ ?_
 rintro _ _ ⟨i,ms,hi,rfl,hml,hmi,hmn,rfl⟩
 simp only[go_sem]
 by_cases hil:i < us.length
 ·obtain⟨n,hn⟩:=Xaq hil
  obtain⟨x,hx⟩:=Xaq (l:=g.l) (i:=i) (by omega)
  have hr:=(Xmj hg.good.c).2.2 x (List.mem_of_getElem? hx)
  have hal:=Xk2 (g:=g) hul i (by omega)
  have hgn:(Xai us)[i]?=some [.int .i64 n]:=Xae hn
  have ha8:((Xfe g us i).1.length+1)*8<=140737488355328:=by rw[hal];omega
  have halm:(Xfe g us i).1.length+1 < Xad:=by rw[hal];unfold Xad;omega
  have hst:Xfe g us (i+1)=if Xzt x n then ((Xfe g us i).1++[(((Xfe g us i).2+1:Nat):Int)],(Xfe g us i).2+1) else ((Xfe g us i).1++[0],(Xfe g us i).2):=by
   simp only[Xfe,hx,hn]
  have hcall:=X1l (gp:=gp) hx hr n 0 (Xai us)
  repeat' first|refine Kn rfl ?_|((first|refine Kw ?_|refine Kv ?_);simp only[Xkn,go_sem])|refine Kf ?_|refine⟨Kq _,hil,?_⟩|refine⟨_,⟨hgn,Nat.le_refl _⟩,Kg ?_⟩|(apply Kp<;>intro _<;>try (exfalso;omega))
  refine Or.inr (Or.inr ⟨[0,1],vb (Xzt x n),[.row 1 0 (Xai us),ctC g,.cells x.as],(by simp only[Xa1,Xds,rnV,rnA,Xdy,rn0,Xdx,Xb1,Xdt,rnC,Xah,List.isEmpty_nil,reduceCtorEq,↓reduceIte,Qa,Qb,Qc,Qd,Qe,Qf,Qg,Qh,Qi,Qj,Qk,Ql,Qm,Qn,Qo,Qp,Qq,Qr];simp only[go_sem];exact⟨Wwp,hcall⟩),Kg ?_⟩)
  simp only[go_sem]
  cases hp:Xzt x n with
  | true =>
   rw[hp] at hst
   have hput:=Xpn (v:=vb true) Xmt ms (i:Int) (fun h=>by have:=hmi _ h;omega)
   repeat' first|refine Kn rfl ?_|((first|refine Kw ?_|refine Kv ?_);simp only[Xkn,go_sem])|refine Kf ?_|refine⟨_,hput,Kg ?_⟩|refine⟨by simp,ha8,halm,?_⟩|(apply Kp<;>intro _<;>try (exfalso;omega))
   rw[show Xai (Xfe g us i).1++[[D.int .i64 (ms++[(i:Int)]).length]]=Xai (Xfe g us (i+1)).1 from by rw[hst];simp[Xai,hml]]
   refine⟨Xat hil (by unfold Xad;omega),?_⟩
   refine Kt (fr 46 [(4,.one (.ptr 1 0)),(6,.one (.mvo (.func 54) false [.ptr 1 0])),(7,.one (.own 3 0)),(8,.one (.own 5 (i+1))),(23,.one (.own 0 0)),(24,vi us.length),(25,vi ((i+1:Nat):Int))]) ?_
   refine Kk 6 (by simp only[List.length_nil,List.length_cons];decide) (by simp only[go_sem]) (by simp only[List.take_succ_cons,List.take_zero,List.all_cons,List.all_nil,Yhm];simp only[go_sem]) ?_
   simp only[go_sem]
   exact Kl ⟨us.length - (i+1),by omega,i+1,ms++[(i:Int)],by omega,rfl,by rw[hst];simp[hml],fun a ha=>by
    rcases List.mem_append.1 ha with ha|ha
    ·have:=hmi a ha;omega
    ·simp at ha;omega,by simp;omega,rfl⟩
  | false =>
   rw[hp] at hst
   repeat' first|refine Kn rfl ?_|((first|refine Kw ?_|refine Kv ?_);simp only[Xkn,go_sem])|refine Kf ?_|refine⟨by simp,ha8,halm,?_⟩|(apply Kp<;>intro _<;>try (exfalso;omega))
   rw[show Xai (Xfe g us i).1++[[D.int .i64 0]]=Xai (Xfe g us (i+1)).1 from by rw[hst];simp[Xai]]
   refine⟨Xat hil (by unfold Xad;omega),?_⟩
   refine Kt (fr 46 [(4,.one (.ptr 1 0)),(6,.one (.mvo (.func 54) false [.ptr 1 0])),(7,.one (.own 3 0)),(8,.one (.own 5 (i+1))),(23,.one (.own 0 0)),(24,vi us.length),(25,vi ((i+1:Nat):Int))]) ?_
   refine Kk 6 (by simp only[List.length_nil,List.length_cons];decide) (by simp only[go_sem]) (by simp only[List.take_succ_cons,List.take_zero,List.all_cons,List.all_nil,Yhm];simp only[go_sem]) ?_
   simp only[go_sem]
   exact Kl ⟨us.length - (i+1),by omega,i+1,ms,by omega,rfl,by rw[hst];exact hml,fun a ha=>by have:=hmi a ha;omega,by omega,rfl⟩
 ·obtain rfl:us.length=i:=by omega
  rw[<- hul]
  refine Xa0 5 ?_
  simp only[mp,go_sem]
  repeat' first|refine Kn rfl ?_|((first|refine Kw ?_|refine Kv ?_);simp only[Xkn,go_sem])|refine Kf ?_|(apply Kp<;>intro _<;>try (exfalso;omega))
  all_goals trace_state
theorem DepW.app {k:Int->List Int} {d:Int} {t r a b c:List Int} (h:DepW k d t a b) (h':DepW k d r b c):DepW k d (t++r) a c:=by
 induction h with
 | nil=>exact h'
 | skip hx h0 _ ih=>exact .skip hx h0 (ih h')
 | step hx h0 h1 _ _ ih=>exact .step hx h0 h1 (ih h')
abbrev Whc:Ch:=.cells [.ptr 1 0]
abbrev Whd:A:=.clo (.func 53) [.ptr 2 0,.ptr 3 0]
theorem Xs1 {g:Gr} {m:Nat} {x d:Int} {a:List Int} (hx:a[m]?=some x) (h0:0 < x) :
  Tri QP gp 53 [vi m,vi d,.one (.ptr 2 0),.one (.ptr 3 0)] [.row 1 0 (Xai a),ctC g,Whc,.cells [Whd]] fun r post =>
   r=.tup []/\post=[.row 1 0 (Xai (Xqj (kd g) d [(m:Int)] a)),ctC g,Whc,.cells [Whd]]:=by
 have hdep:Xqj (kd g) d [(m:Int)] a=a:=(DepW.skip hx h0 (.nil d a)).eq
 rw[hdep]
 have hg1:(Xai a)[m]?=some [.int .i64 x]:=Xae hx
 have hml:m < a.length:=(Kr.1 hx).1
 refine Yg8 ?_
 simp only[go_sem]
 repeat' first|refine Kn rfl ?_|((first|refine Kw ?_|refine Kv ?_);simp only[go_sem])|refine Kf ?_|refine⟨Kq _,hml,?_⟩|refine⟨_,⟨hg1,Nat.le_refl _⟩,Kg ?_⟩|(apply Kp<;>intro _<;>try (exfalso;omega))
theorem Whe {g:Gr} (hg:Tdy g):∀ (z:Nat) (d:Int) (i:Int) (a:List Int),Yip a<=z->0 < d->d+z<=1000->a.length=g.l.length->0<=i/\i < g.l.length ->
  Tri QP gp 53 [vi i,vi d,.one (.ptr 2 0),.one (.ptr 3 0)] [.row 1 0 (Xai a),ctC g,Whc,.cells [Whd]] fun r post =>
   r=.tup []/\post=[.row 1 0 (Xai (Xqj (kd g) d [i] a)),ctC g,Whc,.cells [Whd]]:=by
 intro z
 induction z with
 | zero =>
  intro d i a hz hd hdz hl hi
  obtain⟨m,rfl⟩:=Int.eq_ofNat_of_zero_le hi.1
  obtain⟨x,hx⟩:=Xaq (l:=a) (i:=m) (by omega)
  by_cases h0:0 < x
  ·exact Xs1 hx h0
  ·have:=Xk3 hx h0 hd
   omega
 | succ z ih =>
  intro d i a hz hd hdz hl hi
  obtain⟨m,rfl⟩:=Int.eq_ofNat_of_zero_le hi.1
  obtain⟨x,hx⟩:=Xaq (l:=a) (i:=m) (by omega)
  by_cases h0:0 < x
  ·exact Xs1 hx h0
  ·have hzs:=Xk3 hx h0 hd
   obtain⟨y,hy⟩:=Xaq (l:=g.l) (i:=m) (by omega)
   have hkd:=hg.kd hy
   have hky:=(hg.good.s y (List.mem_of_getElem? hy)).2
   have hkin:∀ j∈y.kids,0<=j/\j < g.l.length:=by rw[<- hkd];exact hg.good.kid m
   have ex:∀ t,(∀ j∈t,0<=j/\j < (g.l.length:Int))->DepW (kd g) (d+1) t (a.set m d) (Xqj (kd g) (d+1) t (a.set m d))/\Yip (Xqj (kd g) (d+1) t (a.set m d))<=z:=fun t ht=>by
    obtain⟨b,hb,hzb⟩:=Yhj (k:=kd g) (n:=g.l.length) hg.good.kid _ (d+1) t (a.set m d) (Nat.le_refl _) (by omega) (by simp[hl]) ht
    rw[hb.eq]
    exact⟨hb,by omega⟩
   have hfin:Xqj (kd g) d [(m:Int)] a=Xqj (kd g) (d+1) y.kids (a.set m d):=by
    have h1:=(ex y.kids hkin).1
    rw[<- hkd] at h1 ⊢
    exact (DepW.step hx h0 h1 (.nil d _)).eq
   rw[hfin]
   have hg1:(Xai a)[m]?=some [.int .i64 x]:=Xae hx
   have hml:m < a.length:=by omega
   have hset:(Xai a).set m [.int .i64 d]=Xai (a.set m d):=Xpz a m d
   have hd1:inK .i64 (d+1):=by simp[inK,IntKind.min,IntKind.max,IntKind.signed,IntKind.bits];omega
   refine Yg8 ?_
   simp only[go_sem]
   repeat' first|refine Kn rfl ?_|((first|refine Kw ?_|refine Kv ?_);simp only[hset,go_sem])|refine Kf ?_|refine⟨_,⟨Kq _,(by first|exact Xae hy|(rw[Int.toNat_natCast];exact Xae hy)),rfl⟩,Kg ?_⟩|refine⟨Kq _,hml,?_⟩|refine⟨_,⟨hg1,Nat.le_refl _⟩,Kg ?_⟩|(apply Kp<;>intro _<;>try (exfalso;omega))
   rw[show Ch.row 1 0 (Xai (a.set m d))=Ch.row 1 0 (Xai (Xqj (kd g) (d+1) (y.kids.take 0) (a.set m d))) from by rw[List.take_zero,(DepW.nil (k:=kd g) (d+1) (a.set m d)).eq]]
   refine Kt (fr 43 [(0,vi m),(1,vi d),(2,.one (.ptr 2 0)),(3,.one (.ptr 3 0)),(31,.one (.d (.sl (Xai y.kids)))),(32,vi y.kids.length),(33,vi (0:Nat))]) ?_
   refine Km (fun mz sz=>∃ i:Nat,i<=y.kids.length/\mz=y.kids.length - i/\(0<=i)/\sz=⟨fr 43 [(0,vi m),(1,vi d),(2,.one (.ptr 2 0)),(3,.one (.ptr 3 0)),(31,.one (.d (.sl (Xai y.kids)))),(32,vi y.kids.length),(33,vi i)],[.row 1 0 (Xai (Xqj (kd g) (d+1) (y.kids.take i) (a.set m d))),ctC g,Whc,.cells [Whd]]⟩) (y.kids.length) ⟨0,Nat.zero_le _,(Nat.sub_zero _).symm,?_,rfl⟩ ?_
   ·exact Nat.zero_le _
   rintro _ _ ⟨i,hi2,rfl,-,rfl⟩
   simp only[go_sem]
   by_cases hil:i < y.kids.length
   ·obtain⟨c,hc⟩:=Xaq hil
    obtain⟨e1,e2⟩:=ex (y.kids.take i) fun j hj=>hkin j (List.mem_of_mem_take hj)
    obtain⟨f1,f2⟩:=ex (y.kids.take (i+1)) fun j hj=>hkin j (List.mem_of_mem_take hj)
    have hstep:Xqj (kd g) (d+1) [c] (Xqj (kd g) (d+1) (y.kids.take i) (a.set m d))=Xqj (kd g) (d+1) (y.kids.take (i+1)) (a.set m d):=by
     obtain⟨b,hb,_⟩:=Yhj (k:=kd g) (n:=g.l.length) hg.good.kid _ (d+1) [c] (Xqj (kd g) (d+1) (y.kids.take i) (a.set m d)) (Nat.le_refl _) (by omega) (by rw[e1.len];simp[hl]) (by simpa using hkin c (List.mem_of_getElem? hc))
     have:=e1.app hb
     rw[Xb8 hc] at this
     rw[this.eq,hb.eq]
    have hcall:=ih (d+1) c (Xqj (kd g) (d+1) (y.kids.take i) (a.set m d)) e2 (by omega) (by omega) (by rw[e1.len];simp[hl]) (hkin c (List.mem_of_getElem? hc))
    rw[hstep] at hcall
    repeat' first|refine Kn rfl ?_|((first|refine Kw ?_|refine Kv ?_);simp only[go_sem])|refine Kf ?_|refine⟨_,⟨Kq _,(by first|exact Xae hc|(rw[Int.toNat_natCast];exact Xae hc)),rfl⟩,Kg ?_⟩|refine⟨hd1,?_⟩|(apply Kp<;>intro _<;>try (exfalso;omega))
    refine Or.inr (Or.inr ⟨[0,1,2,3],.tup [],[.row 1 0 (Xai (Xqj (kd g) (d+1) (y.kids.take (i+1)) (a.set m d))),ctC g,Whc,.cells [Whd]],(by simp only[Xa1,Xds,rnV,rnA,Xdy,rn0,Xdx,Xb1,Xdt,rnC,Xah,List.isEmpty_nil,reduceCtorEq,↓reduceIte,Qa,Qb,Qc,Qd,Qe,Qf,Qg,Qh,Qi,Qj,Qk,Ql,Qm,Qn,Qo,Qp,Qq,Qr];simp only[go_sem];exact⟨Yyc,hcall⟩),Kg ?_⟩)
    simp only[go_sem]
    repeat' first|refine Kn rfl ?_|((first|refine Kw ?_|refine Kv ?_);simp only[go_sem])|refine Kf ?_|(apply Kp<;>intro _<;>try (exfalso;omega))
    refine⟨Xat hil (by unfold Xad;omega),?_⟩
    refine Kt (fr 43 [(0,vi m),(1,vi d),(2,.one (.ptr 2 0)),(3,.one (.ptr 3 0)),(31,.one (.d (.sl (Xai y.kids)))),(32,vi y.kids.length),(33,vi (i+1))]) ?_
    refine Ku 4 ?_
    simp only[go_sem]
    refine Kl ⟨y.kids.length - (i+1),by omega,i+1,by omega,rfl,?_,rfl⟩
    exact Nat.zero_le _
   ·obtain rfl:y.kids.length=i:=by omega
    rw[List.take_of_length_le (Nat.le_refl y.kids.length)]
    repeat' first|refine Kn rfl ?_|((first|refine Kw ?_|refine Kv ?_);simp only[go_sem])|refine Kf ?_|(apply Kp<;>intro _<;>try (exfalso;omega))
theorem Xzw (h:Env gp) {g:Gr} (hg:Tdy g):Xao QP gp 27 [g.v] (.tup [.one (.d (.sl (Xai (Xgi g)))),vi 0]):=by
 have hz:Yip (Xgh g.l.length [])<=200:=by
  have:=List.countP_le_length (p:=fun x:Int=>decide (¬ 0 < x)) (l:=Xgh g.l.length [])
  rw[Xfd] at this
  exact Nat.le_trans this hg.good.len
 have hcall:=Whe (gp:=gp) hg 200 1 g.root (Xgh g.l.length []) hz (by omega) (by omega) (Xfd _ _) hg.good.root
 have hd:Xqj (kd g) 1 [g.root] (Xgh g.l.length [])=Xgi g:=by rw[Yhi,hg.root];rfl
 rw[hd] at hcall
 refine Wv5 ?_
 simp only[go_sem]
 repeat' first|refine Kn rfl ?_|((first|refine Kw ?_|refine Kv ?_);simp only[Xm6,go_sem])|refine Kf ?_|apply Kp<;>intro _
 refine Xgb 9 ?_
 simp only[go_sem]
 repeat' first|refine Kn rfl ?_|((first|refine Kw ?_|refine Kv ?_);simp only[Xsy,Xm6,go_sem])|refine Kf ?_|apply Kp<;>intro _
 refine Or.inr ⟨[],.tup [.one (.ptr 1 0),vi 0],[.row 1 0 (Xai (Xgh g.l.length [])),ctC g],(by simp only[Xa1,Xds,rnV,rnA,Xdy,rn0,Xdx,Xb1,Xdt,rnC,Xah,List.isEmpty_nil,reduceCtorEq,↓reduceIte,Qa,Qb,Qc,Qd,Qe,Qf,Qg,Qh,Qi,Qj,Qk,Ql,Qm,Qn,Qo,Qp,Qq,Qr];simp only[go_sem];exact⟨Yx7,Yhk h hg⟩),Kg ?_⟩
 simp only[go_sem]
 repeat' first|refine Kn rfl ?_|((first|refine Kw ?_|refine Kv ?_);simp only[Xsy,Xm6,go_sem])|refine Kf ?_|apply Kp<;>intro _
 refine Or.inr (Or.inr ⟨[0,1,3,4],.tup [],[.row 1 0 (Xai (Xgi g)),ctC g,Whc,.cells [Whd]],(by simp only[Xa1,Xds,rnV,rnA,Xdy,rn0,Xdx,Xb1,Xdt,rnC,Xah,List.isEmpty_nil,reduceCtorEq,↓reduceIte,Qa,Qb,Qc,Qd,Qe,Qf,Qg,Qh,Qi,Qj,Qk,Ql,Qm,Qn,Qo,Qp,Qq,Qr];simp only[go_sem];exact⟨Yyc,hcall⟩),Kg ?_⟩)
 simp only[go_sem]
 repeat' first|refine Kn rfl ?_|((first|refine Kw ?_|refine Kv ?_);simp only[Xsy,go_sem])|refine Kf ?_|apply Kp<;>intro _
 refine Xa0 0 ?_
 simp only[go_sem]
 repeat' first|refine Kn rfl ?_|((first|refine Kw ?_|refine Kv ?_);simp only[Xsy,Xm6,go_sem])|refine Kf ?_|apply Kp<;>intro _
 all_goals trace_state
noncomputable def W1x (g:Gr) (t:Bool):Gr:=if t=true/\chk g.cut=none then Xbl g.cut else g.cut
end Go.Fw.L07
