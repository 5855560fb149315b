/- Chapters 4,6,13,by definition: texts of scalars,numbers' digits. -/
import Derived.Test.YtakgmpkfpkmkaaaGreatDoorVa
import Derived.Test.YtakgmpkfpkmkaaaGreatDoorJc
import Derived.Test.YtakgmpkfpkmkaaaGreatDoorMa
import Derived.Test.YtakgmpkfpkmkaaaGreatDoorNc
set_option linter.all false
namespace Go.Fw.L07
open Go Go.Fw
open Go.Fw.Sh renaming intro->Kg
open Go.Fw renaming Xdt->Ka,Xd2->Kf,Xcp->Kt,Xfl->Ku,Xco->Kl,Xeg->Km,Gx->Kn
open Go.Fw renaming Xbs->Ka, Xbw->Ka, Xby->Ka, Xbz->Ka
open Go.Fw renaming Xdt->Kw, Xbs->Kw, Xbw->Kw, Xby->Kw, Xbz->Kw, Xhh->Kw, Xd3->Kw
open Go.Fw.Sh renaming intro->Kf
open Int renaming natCast_nonneg->Kq
open List renaming getElem?_eq_some_iff->Kr
open And renaming intro->Kp
open Go.Proofs.Tryz renaming prog->QP
open Nat renaming reduceAdd->Qa,reduceSub->Qb,reduceMul->Qc,reduceLeDiff->Qd,reduceLT->Qe,reduceEqDiff->Qf
open Int renaming reduceToNat->Qg,reduceLT->Qh,reduceLE->Qi,reduceGT->Qj,reduceGE->Qk,reduceEq->Ql,reduceNe->Qm,reduceBEq->Qn,reduceBNe->Qo,reduceAdd->Qp,reduceSub->Qq,reduceNeg->Qr
set_option maxRecDepth 4000
variable {gp:Heap}
theorem Xa2 (l:List UInt8):(bT l).size=l.length:=by show l.toArray.size=_;simp
theorem Xcv (a b:List UInt8):bT a++bT b=bT (a++b):=Xl7 a b
theorem Xpn:∀ u:Nat,u < 10->(⟨#[48,49,50,51,52,53,54,55,56,57]⟩:ByteArray).extract u (u+1)=bT [UInt8.ofNat (48+u)]:=by
 intro u h
 have:u=0\/u=1\/u=2\/u=3\/u=4\/u=5\/u=6\/u=7\/u=8\/u=9:=by omega
 rcases this with rfl|rfl|rfl|rfl|rfl|rfl|rfl|rfl|rfl|rfl <;> rfl
theorem Xpo (u:Nat) (h:u < 1000000000000000000):(Lib.decDigits u).length<=21:=by
 have:=Lib.itoa_length_le (u:Int) (by omega) (by omega)
 unfold Lib.itoa at this
 rw[if_neg (by omega),Int.toNat_natCast] at this
 exact this
theorem Xnz:∀ (N u:Nat),u<=N->u < 1000000000000000000->Does QP gp 90 [vi u] (vs (bT (Lib.decDigits u))):=by
 intro N
 induction N with
 | zero =>
  intro u h0 hu
  obtain rfl:u=0:=by omega
  have hi0:inK .i64 1:=by simp[inK,IntKind.min,IntKind.max,IntKind.signed,IntKind.bits]
  refine Xvf ?_
  simp only[go_sem]
  repeat' first|refine Kn rfl ?_|(refine Kw ?_;simp only[go_sem])|refine Kf ?_|refine⟨0,1,⟨rfl,rfl,by decide,by decide⟩,Kg ?_⟩|refine⟨hi0,?_⟩|(apply Kp<;>intro _<;>try (exfalso;omega))
  all_goals (first|rfl|(rw[Lib.decDigits];rfl)|trace_state)
 | succ N ih =>
  intro u h0 hu
  by_cases h10:u < 10
  ·have e1:decide ((u:Int) < 0)=false:=by simp
   have e2:decide ((u:Int) < 10)=true:=by simp;omega
   have hd:=Xpn u h10
   have hi1:inK .i64 ((u:Int)+1):=Xaw (by omega)
   have hu1:u<=u+1:=by omega
   have hu2:u+1<=10:=by omega
   rw[Lib.decDigits,dif_pos h10]
   refine Xvf ?_
   simp only[go_sem]
   repeat' first|refine Kn rfl ?_|(refine Kw ?_;simp only[e1,e2,hd,go_sem])|refine Kf ?_|refine⟨u,u+1,⟨rfl,rfl,hu1,hu2⟩,Kg ?_⟩|refine⟨hi1,?_⟩|(apply Kp<;>intro _<;>try (exfalso;omega))
   all_goals trace_state
  ·have e1:decide ((u:Int) < 0)=false:=by simp
   have e2:decide ((u:Int) < 10)=false:=by simp;omega
   have q1:Int.tdiv (u:Int) 10=((u / 10:Nat):Int):=Xgw u 10
   have q2:Int.tmod (u:Int) 10=((u % 10:Nat):Int):=rfl
   have c1:=ih (u / 10) (by omega) (by omega)
   have hd:=Xpn (u % 10) (by omega)
   have hi1:inK .i64 (((u % 10:Nat):Int)+1):=Xaw (by omega)
   have hi2:inK .i64 ((u / 10:Nat):Int):=Xaw (by omega)
   have hi3:inK .i64 ((u % 10:Nat):Int):=Xaw (by omega)
   have hu1:u % 10<=u % 10+1:=by omega
   have hu2:u % 10+1<=10:=by omega
   have hl:=Xpo (u / 10) (by omega)
   have hsz:(((bT (Lib.decDigits (u / 10))).size+(bT [UInt8.ofNat (48+u % 10)]).size:Nat):Int)<=9223372036854775807:=by rw[Xa2,Xa2];simp;omega
   have hap:=Xcv (Lib.decDigits (u / 10)) [UInt8.ofNat (48+u % 10)]
   rw[Lib.decDigits,dif_neg h10]
   refine Xvf ?_
   simp only[go_sem]
   repeat' first|refine Kn rfl ?_|(refine Kw ?_;simp only[e1,e2,q1,q2,hd,hap,go_sem])|refine Kf ?_|refine⟨_,c1,Kg ?_⟩|refine⟨_,⟨c1,rfl⟩,Kg ?_⟩|refine⟨u % 10,u % 10+1,⟨rfl,rfl,hu1,hu2⟩,Kg ?_⟩|refine⟨hsz,?_⟩|refine⟨hi1,?_⟩|refine⟨hi2,?_⟩|refine⟨hi3,?_⟩|(apply Kp<;>intro _<;>try (exfalso;omega))
   all_goals trace_state
theorem X1p (s:ByteArray):∀ f p:Nat,Xbh s f p=true->Xej s f p=some (sgF s f p)
 | 0,_,_=>rfl
 | f+1,p,hr=>by
  simp only[Xej,Xbh,sgF] at hr ⊢
  by_cases hp:p < s.size
  ·rw[if_pos hp,if_pos hp]
   rw[if_pos hp] at hr
   have h1:Xl0 s p=if (Utf8.decode s p).1=65533/\(Utf8.decode s p).2=1 then (0,0) else Utf8.decode s p:=by
    rw[Lib.decode_at]
    exact Xtl (by omega) (Xdw _ _) (Xdw _ _) (Xdw _ _) (Xdw _ _)
   have hw:=Lib.decode_width_pos s p hp
   by_cases hd:(Utf8.decode s p).1=65533/\(Utf8.decode s p).2=1
   ·rw[if_pos hd] at hr;cases hr
   ·rw[if_neg hd] at h1 hr
    rw[h1,if_neg (by omega),X1p s f _ hr];rfl
  ·rw[if_neg hp,if_neg hp]
theorem Yne {v:Nat} (h:okR (v:Int)):Xb8 v=Lib.encodeRune (v:Int):=by
 unfold okR at h
 unfold Xb8 Lib.encodeRune Lib.encodeRuneZ
 by_cases h1:v < 128
 ·rw[if_pos h1,if_pos (show 0<=(v:Int)/\(v:Int)<=127 by omega)];rfl
 ·rw[if_neg h1,if_neg (show ¬ (0<=(v:Int)/\(v:Int)<=127) by omega)]
  by_cases h2:v < 2048
  ·rw[if_pos h2,if_pos (show 128<=(v:Int)/\(v:Int)<=2047 by omega)]
   show [UInt8.ofNat _,UInt8.ofNat _]=[UInt8.ofNat _,UInt8.ofNat _]
   rw[show (192+(v:Int) / 64).toNat=192+v / 64 by omega,show (128+(v:Int) % 64).toNat=128+v % 64 by omega]
  ·rw[if_neg h2,if_neg (show ¬ (128<=(v:Int)/\(v:Int)<=2047) by omega)]
   by_cases h3:v < 65536
   ·rw[if_pos h3,if_pos (show (2048<=(v:Int)/\(v:Int) < 55296)\/(57343 < (v:Int)/\(v:Int)<=65535) by omega)]
    show [UInt8.ofNat _,UInt8.ofNat _,UInt8.ofNat _]=[UInt8.ofNat _,UInt8.ofNat _,UInt8.ofNat _]
    rw[show (224+(v:Int) / 4096).toNat=224+v / 4096 by omega,show (128+(v:Int) / 64 % 64).toNat=128+v / 64 % 64 by omega,show (128+(v:Int) % 64).toNat=128+v % 64 by omega]
   ·rw[if_neg h3,if_neg (show ¬ ((2048<=(v:Int)/\(v:Int) < 55296)\/(57343 < (v:Int)/\(v:Int)<=65535)) by omega),if_pos (show 65536<=(v:Int)/\(v:Int)<=1114111 by omega)]
    show [UInt8.ofNat _,UInt8.ofNat _,UInt8.ofNat _,UInt8.ofNat _]=[UInt8.ofNat _,UInt8.ofNat _,UInt8.ofNat _,UInt8.ofNat _]
    rw[show (240+(v:Int) / 262144).toNat=240+v / 262144 by omega,show (128+(v:Int) / 4096 % 64).toNat=128+v / 4096 % 64 by omega,show (128+(v:Int) / 64 % 64).toNat=128+v / 64 % 64 by omega,show (128+(v:Int) % 64).toNat=128+v % 64 by omega]
theorem Jdy (v:Nat):Does QP gp 158 [vi v] (vb (decide (32<=v/\v≠127))):=by
 refine Wqv ?_
 simp only[go_sem]
 repeat' first|refine Kn rfl ?_|(refine Kw ?_;simp only[go_sem])|refine Kf ?_|(apply Kp<;>intro _<;>try (exfalso;omega))
 all_goals first|grind|trace_state
def Y8y (u:Nat):UInt8:=(Xpu (u:Int)).toNat.toUInt8
theorem Ynf:∀ u:Nat,u < 16->(⟨#[48,49,50,51,52,53,54,55,56,57,97,98,99,100,101,102]⟩:ByteArray).extract u (u+1)=bT [Y8y u]:=by
 intro u h
 have:u=0\/u=1\/u=2\/u=3\/u=4\/u=5\/u=6\/u=7\/u=8\/u=9\/u=10\/u=11\/u=12\/u=13\/u=14\/u=15:=by omega
 rcases this with rfl|rfl|rfl|rfl|rfl|rfl|rfl|rfl|rfl|rfl|rfl|rfl|rfl|rfl|rfl|rfl <;> rfl
theorem Jdz {v:Nat} (h:v < 32\/v=127) (h10:v≠10) (h9:v≠9) (h13:v≠13):Xeb (pcR (v:Int))=[92,120,Y8y (v / 16),Y8y (v % 16)]:=by
 have hx:∀ n:Int,0<=n->n<=15->Lib.encodeRune (Xpu n)=[(Xpu n).toNat.toUInt8]:=fun n h1 h2=>by
  have:0<=Xpu n/\Xpu n<=127:=by unfold Xpu;split <;> omega
  unfold Lib.encodeRune;rw[Lib.encodeRuneZ_one this.1 this.2];rfl
 unfold pcR
 rw[if_neg (by omega),if_neg (by omega),if_neg (by omega),if_neg (by omega),if_neg (by omega)]
 simp only[Xeb,List.flatMap_cons,List.flatMap_nil,List.append_nil]
 rw[hx _ (by omega) (by omega),hx _ (by omega) (by omega)]
 rfl
theorem Jij {v:Nat} (h:okR (v:Int)):Does QP gp 133 [vi v] (vs (bT (Xeb (pcR (v:Int))))):=by
 refine Wqc ?_
 simp only[go_sem]
 have hv:v<=1114111:=by unfold okR at h;omega
 by_cases h34:v=34
 ·subst h34
  have e:bT (Xeb (pcR ((34:Nat):Int)))=(⟨#[92,34]⟩:ByteArray):=rfl
  rw[e]
  repeat' first|refine Kn rfl ?_|(refine Kw ?_;simp only[go_sem])|refine Kf ?_|(apply Kp<;>intro _<;>try (exfalso;omega))
  all_goals trace_state
 by_cases h92:v=92
 ·subst h92
  have e:bT (Xeb (pcR ((92:Nat):Int)))=(⟨#[92,92]⟩:ByteArray):=rfl
  rw[e]
  repeat' first|refine Kn rfl ?_|(refine Kw ?_;simp only[go_sem])|refine Kf ?_|(apply Kp<;>intro _<;>try (exfalso;omega))
  all_goals trace_state
 by_cases h10:v=10
 ·subst h10
  have e:bT (Xeb (pcR ((10:Nat):Int)))=(⟨#[92,110]⟩:ByteArray):=rfl
  rw[e]
  repeat' first|refine Kn rfl ?_|(refine Kw ?_;simp only[go_sem])|refine Kf ?_|(apply Kp<;>intro _<;>try (exfalso;omega))
  all_goals trace_state
 by_cases h9:v=9
 ·subst h9
  have e:bT (Xeb (pcR ((9:Nat):Int)))=(⟨#[92,116]⟩:ByteArray):=rfl
  rw[e]
  repeat' first|refine Kn rfl ?_|(refine Kw ?_;simp only[go_sem])|refine Kf ?_|(apply Kp<;>intro _<;>try (exfalso;omega))
  all_goals trace_state
 by_cases h13:v=13
 ·subst h13
  have e:bT (Xeb (pcR ((13:Nat):Int)))=(⟨#[92,114]⟩:ByteArray):=rfl
  rw[e]
  repeat' first|refine Kn rfl ?_|(refine Kw ?_;simp only[go_sem])|refine Kf ?_|(apply Kp<;>intro _<;>try (exfalso;omega))
  all_goals trace_state
 have e1:((v:Int)==34)=false:=by rw[beq_eq_false_iff_ne];omega
 have e2:((v:Int)==92)=false:=by rw[beq_eq_false_iff_ne];omega
 have e3:((v:Int)==10)=false:=by rw[beq_eq_false_iff_ne];omega
 have e4:((v:Int)==9)=false:=by rw[beq_eq_false_iff_ne];omega
 have e5:((v:Int)==13)=false:=by rw[beq_eq_false_iff_ne];omega
 have c1:=Jdy (gp:=gp) v
 by_cases hp:32<=v/\v≠127
 ·rw[decide_eq_true hp] at c1
  have c2:=Xri (gp:=gp) v hv
  have e:(⟨(Xb8 v).toArray⟩:ByteArray)=bT (Xeb (pcR (v:Int))):=by
   have:Xeb (pcR (v:Int))=Lib.encodeRune (v:Int):=by
    unfold pcR
    rw[if_neg (by omega),if_neg (by omega),if_neg (by omega),if_neg (by omega),if_pos (by omega)]
    simp[Xeb]
   rw[this,<- Yne h];rfl
  rw[e] at c2
  repeat' first|refine Kn rfl ?_|(refine Kw ?_;simp only[e1,e2,e3,e4,e5,go_sem])|refine Kf ?_|refine⟨_,c1,Kg ?_⟩|refine⟨_,⟨c1,rfl⟩,Kg ?_⟩|refine⟨_,c2,Kg ?_⟩|refine⟨_,⟨c2,rfl⟩,Kg ?_⟩|(apply Kp<;>intro _<;>try (exfalso;omega))
  all_goals trace_state
 ·rw[decide_eq_false hp] at c1
  have hv7:v<=127:=by omega
  have q1:Int.tdiv (v:Int) 16=((v / 16:Nat):Int):=Xgw v 16
  have q2:Int.tmod (v:Int) 16=((v % 16:Nat):Int):=rfl
  have d1:=Ynf (v / 16) (by omega)
  have d2:=Ynf (v % 16) (by omega)
  have i1:inK .i64 (((v / 16:Nat):Int)+1):=Xaw (by omega)
  have i2:inK .i64 (((v % 16:Nat):Int)+1):=Xaw (by omega)
  have i3:inK .i64 ((v / 16:Nat):Int):=Xaw (by omega)
  have i4:inK .i64 ((v % 16:Nat):Int):=Xaw (by omega)
  have u1:v / 16<=v / 16+1:=by omega
  have u2:v / 16+1<=16:=by omega
  have u3:v % 16<=v % 16+1:=by omega
  have u4:v % 16+1<=16:=by omega
  have z1:((#[(92:UInt8),120].size+(bT [Y8y (v / 16)]).size:Nat):Int)<=9223372036854775807:=by rw[Xa2];simp
  have z2:((#[(92:UInt8),120].size+(bT [Y8y (v / 16)]).size+(bT [Y8y (v % 16)]).size:Nat):Int)<=9223372036854775807:=by rw[Xa2,Xa2];simp
  have ap:(⟨#[92,120]⟩:ByteArray)++bT [Y8y (v / 16)]++bT [Y8y (v % 16)]=bT (Xeb (pcR (v:Int))):=by
   rw[Jdz (by omega) h10 h9 h13];rfl
  repeat' first|refine Kn rfl ?_|(refine Kw ?_;simp only[e1,e2,e3,e4,e5,q1,q2,d1,d2,z1,z2,ap,go_sem])|refine Kf ?_|refine⟨_,c1,Kg ?_⟩|refine⟨_,⟨c1,rfl⟩,Kg ?_⟩|refine⟨v / 16,v / 16+1,⟨rfl,rfl,u1,u2⟩,Kg ?_⟩|refine⟨v % 16,v % 16+1,⟨rfl,rfl,u3,u4⟩,Kg ?_⟩|refine⟨i1,?_⟩|refine⟨i2,?_⟩|refine⟨i3,?_⟩|refine⟨i4,?_⟩|(apply Kp<;>intro _<;>try (exfalso;omega))
  all_goals trace_state
def X1q (l:List Int) (i:Nat):ByteArray:=bT (34::Xeb ((l.take i).flatMap pcR))
theorem Yng {l:List Int} {i:Nat} {r:Int} (h:l[i]?=some r):X1q l i++bT (Xeb (pcR r))=X1q l (i+1):=by
 unfold X1q
 rw[Xcv,List.take_succ,h,List.flatMap_append]
 simp[Xeb]
theorem Xsd (l:List Int) (i:Nat):(X1q l i).size<=1+16*l.length:=by
 unfold X1q
 rw[Xa2]
 have h1:=Xg0 ((l.take i).flatMap pcR)
 have h2:=Xty (l.take i)
 have h3:(l.take i).length<=l.length:=by rw[List.length_take];omega
 simp only[List.length_cons];omega
theorem Jd0 (s:ByteArray) (hr:Xas s=true) (hs:s.size<=100000):Does QP gp 91 [vs s] (.tup [vs (bT (X2p s)),vi 0]):=by
 have c1:=Y54 (gp:=gp) s hs
 rw[X1p s s.size 0 hr] at c1
 have hok:∀ r∈sgS s,okR r:=Y7c hr
 have hl:(sgS s).length<=100000:=by have:=Xtz s s.size 0;unfold sgS;omega
 have c1:Does QP gp 132 [vs s] (.tup [.one (.d (.sl (Xad (sgS s)))),vi 0]):=c1
 have hq:X1q (sgS s) (sgS s).length++(⟨#[34]⟩:ByteArray)=bT (X2p s):=by
  unfold X1q X2p
  rw[List.take_length];exact Xcv _ [34]
 generalize X2p s=Q at *
 generalize sgS s=l at *
 refine W8z ?_
 simp only[go_sem]
 repeat' first|refine Kn rfl ?_|(refine Kw ?_;simp only[go_sem])|refine Kf ?_|refine⟨_,c1,Kg ?_⟩|refine⟨_,⟨c1,rfl⟩,Kg ?_⟩|(apply Kp<;>intro _<;>try (exfalso;omega))
 refine Kt (fr 31 [(4,.one (.d (.sl (Xad l)))),(6,vs (X1q l (0:Nat))),(7,vi (0:Nat))]) ?_
 refine Km (fun mz sz=>∃ i:Nat,i<=l.length/\mz=l.length - i/\(0<=i)/\sz=⟨fr 31 [(4,.one (.d (.sl (Xad l)))),(6,vs (X1q l i)),(7,vi i)],[]⟩) (l.length) ⟨0,Nat.zero_le _,(Nat.sub_zero _).symm,?_,rfl⟩ ?_
 ·exact Nat.zero_le _
 rintro _ _ ⟨i,hi,rfl,-,rfl⟩
 simp only[go_sem]
 have hz0:=Xsd l i
 by_cases hil:i < l.length
 ·obtain⟨r,hri⟩:=Xaf hil
  have ho:=hok r (List.mem_of_getElem? hri)
  obtain⟨v,rfl⟩:∃ v:Nat,r=(v:Int):=⟨r.toNat,by unfold okR at ho;omega⟩
  have c2:=Jij (gp:=gp) ho
  have hz1:=Xsd l (i+1)
  have hn:=Yng hri
  have hnz:(X1q l i).size+(bT (Xeb (pcR (v:Int)))).size=(X1q l (i+1)).size:=by rw[<- hn,ByteArray.size_append]
  have hsz:(((X1q l i).size+(bT (Xeb (pcR (v:Int)))).size:Nat):Int)<=9223372036854775807:=by omega
  have hik:inK .i64 ((i:Int)+1):=Xaw (by omega)
  repeat' first|refine Kn rfl ?_|(refine Kw ?_;simp only[hn,hsz,go_sem])|refine Kf ?_|refine⟨_,c2,Kg ?_⟩|refine⟨_,⟨c2,rfl⟩,Kg ?_⟩|refine⟨_,⟨Kq _,(Xab hri),rfl⟩,Kg ?_⟩|refine⟨hik,?_⟩|(apply Kp<;>intro _<;>try (exfalso;omega))
  refine Kt (fr 31 [(4,.one (.d (.sl (Xad l)))),(6,vs (X1q l (i+1))),(7,vi (i+1))]) ?_
  refine Kl ⟨l.length - (i+1),by omega,i+1,by omega,rfl,?_,rfl⟩
  exact Nat.zero_le _
 ·obtain rfl:l.length=i:=by omega
  have hsz:(((X1q l l.length).size+#[(34:UInt8)].size:Nat):Int)<=9223372036854775807:=by simp only[List.size_toArray,List.length_cons,List.length_nil];omega
  repeat' first|refine Kn rfl ?_|(refine Kw ?_;simp only[hq,hsz,go_sem])|refine Kf ?_|(apply Kp<;>intro _<;>try (exfalso;omega))
  all_goals trace_state
theorem Wwm (n:Int) (h:-Xfw<=n/\n<=Xfw):Does QP gp 90 [vi n] (vs (bT (Lib.itoa n))):=by
 unfold Xfw at h
 by_cases hn:n < 0
 ·obtain⟨u,hu⟩:∃ u:Nat,-n=(u:Int):=⟨(-n).toNat,by omega⟩
  have c1:=Xnz (gp:=gp) u u (Nat.le_refl _) (by omega)
  have e1:decide (n < 0)=true:=decide_eq_true hn
  have e2:(0:Int) - n=(u:Int):=by omega
  have hi:inK .i64 (u:Int):=Xaw (by omega)
  have hl:=Xpo u (by omega)
  have hsz:((#[(45:UInt8)].size+(bT (Lib.decDigits u)).size:Nat):Int)<=9223372036854775807:=by rw[Xa2];simp;omega
  have e3:(⟨#[45]⟩:ByteArray)++bT (Lib.decDigits u)=bT (Lib.itoa n):=by
   unfold Lib.itoa
   rw[if_pos hn,show n.natAbs=u by omega]
   exact Xcv [45] _
  refine Xvf ?_
  simp only[go_sem]
  repeat' first|refine Kn rfl ?_|(refine Kw ?_;simp only[e1,e2,hsz,e3,go_sem])|refine Kf ?_|refine⟨_,c1,Kg ?_⟩|refine⟨_,⟨c1,rfl⟩,Kg ?_⟩|refine⟨hi,?_⟩|(apply Kp<;>intro _<;>try (exfalso;omega))
  all_goals trace_state
 ·obtain⟨u,rfl⟩:∃ u:Nat,n=(u:Int):=⟨n.toNat,by omega⟩
  have c1:=Xnz (gp:=gp) u u (Nat.le_refl _) (by omega)
  have e:Lib.itoa (u:Int)=Lib.decDigits u:=by unfold Lib.itoa;rw[if_neg (by omega),Int.toNat_natCast]
  rw[e];exact c1
theorem Jd1 (x:Sc) (hr:prR Xas x=true) (hs:x.short):Does QP gp 61 [x.v] (.tup [vs (bT (scB x)),vi 0]):=by
 have c0:=Yio (gp:=gp) x hs
 rw[hr] at c0
 have hk:=Xpg hr
 obtain⟨k,n,s⟩:=x
 refine W28 ?_
 simp only[go_sem]
 rcases hk with ⟨hk,_⟩|⟨hk,_,hn|hn⟩|⟨hk,_,h1,h2⟩|⟨hk,_,h1⟩
 ·obtain rfl:k=0:=hk
  have e:scB ⟨0,n,s⟩=[110,117,108,108]:=rfl
  rw[e]
  repeat' first|refine Kn rfl ?_|(refine Kw ?_;simp only[go_sem])|refine Kf ?_|refine⟨_,c0,Kg ?_⟩|refine⟨_,⟨c0,rfl⟩,Kg ?_⟩|(apply Kp<;>intro _<;>try (exfalso;omega))
  all_goals first|rfl|trace_state
 ·obtain rfl:k=1:=hk
  obtain rfl:n=0:=hn
  have e:scB ⟨1,0,s⟩=[102,97,108,115,101]:=rfl
  rw[e]
  repeat' first|refine Kn rfl ?_|(refine Kw ?_;simp only[go_sem])|refine Kf ?_|refine⟨_,c0,Kg ?_⟩|refine⟨_,⟨c0,rfl⟩,Kg ?_⟩|(apply Kp<;>intro _<;>try (exfalso;omega))
  all_goals first|rfl|trace_state
 ·obtain rfl:k=1:=hk
  obtain rfl:n=1:=hn
  have e:scB ⟨1,1,s⟩=[116,114,117,101]:=rfl
  rw[e]
  repeat' first|refine Kn rfl ?_|(refine Kw ?_;simp only[go_sem])|refine Kf ?_|refine⟨_,c0,Kg ?_⟩|refine⟨_,⟨c0,rfl⟩,Kg ?_⟩|(apply Kp<;>intro _<;>try (exfalso;omega))
  all_goals first|rfl|trace_state
 ·obtain rfl:k=2:=hk
  have e:scB ⟨2,n,s⟩=Lib.itoa n:=rfl
  rw[e]
  have c1:=Wwm (gp:=gp) n ⟨h1,h2⟩
  repeat' first|refine Kn rfl ?_|(refine Kw ?_;simp only[go_sem])|refine Kf ?_|refine⟨_,c0,Kg ?_⟩|refine⟨_,⟨c0,rfl⟩,Kg ?_⟩|refine⟨_,c1,Kg ?_⟩|refine⟨_,⟨c1,rfl⟩,Kg ?_⟩|(apply Kp<;>intro _<;>try (exfalso;omega))
  all_goals first|rfl|trace_state
 ·obtain rfl:k=3:=hk
  have e:scB ⟨3,n,s⟩=X2p s:=rfl
  rw[e]
  have c1:=Jd0 (gp:=gp) s h1 hs
  repeat' first|refine Kn rfl ?_|(refine Kw ?_;simp only[go_sem])|refine Kf ?_|refine⟨_,c0,Kg ?_⟩|refine⟨_,⟨c0,rfl⟩,Kg ?_⟩|refine⟨_,c1,Kg ?_⟩|refine⟨_,⟨c1,rfl⟩,Kg ?_⟩|(apply Kp<;>intro _<;>try (exfalso;omega))
  all_goals first|rfl|trace_state
theorem Ynh:∀ (N u:Nat),u<=N->u < 1000000000000000000->Does QP gp 20 [vi u] (vs (bT (Lib.itoa u))):=by
 have e0:∀ u:Nat,Lib.itoa (u:Int)=Lib.decDigits u:=fun u=>by unfold Lib.itoa;rw[if_neg (by omega),Int.toNat_natCast]
 intro N
 induction N with
 | zero =>
  intro u h0 hu
  obtain rfl:u=0:=by omega
  have hi0:inK .i64 1:=by simp[inK,IntKind.min,IntKind.max,IntKind.signed,IntKind.bits]
  refine X53 ?_
  simp only[go_sem]
  repeat' first|refine Kn rfl ?_|(refine Kw ?_;simp only[go_sem])|refine Kf ?_|refine⟨0,1,⟨rfl,rfl,by decide,by decide⟩,Kg ?_⟩|refine⟨hi0,?_⟩|(apply Kp<;>intro _<;>try (exfalso;omega))
  all_goals (first|rfl|(rw[show Lib.itoa (0:Int)=Lib.decDigits 0 from e0 0,Lib.decDigits];rfl)|trace_state)
 | succ N ih =>
  intro u h0 hu
  by_cases h10:u < 10
  ·have e1:decide ((u:Int) < 0)=false:=by simp
   have e2:decide ((u:Int) < 10)=true:=by simp;omega
   have hd:=Xpn u h10
   have hi1:inK .i64 ((u:Int)+1):=Xaw (by omega)
   have hu1:u<=u+1:=by omega
   have hu2:u+1<=10:=by omega
   have hm:(if (u:Int) < 0 then 0 else (u:Int))=u:=by rw[if_neg (by omega)]
   rw[e0,Lib.decDigits,dif_pos h10]
   refine X53 ?_
   simp only[go_sem]
   repeat' first|refine Kn rfl ?_|(refine Kw ?_;simp only[e1,e2,hd,hm,go_sem])|refine Kf ?_|refine⟨u,u+1,⟨rfl,rfl,hu1,hu2⟩,Kg ?_⟩|refine⟨hi1,?_⟩|(apply Kp<;>intro _<;>try (exfalso;omega))
   all_goals trace_state
  ·have e2:decide ((u:Int) < 10)=false:=by simp;omega
   have q1:Int.tdiv (u:Int) 10=((u / 10:Nat):Int):=Xgw u 10
   have q2:Int.tmod (u:Int) 10=((u % 10:Nat):Int):=rfl
   have c1:=ih (u / 10) (by omega) (by omega)
   rw[e0] at c1
   have hd:=Xpn (u % 10) (by omega)
   have hi1:inK .i64 (((u % 10:Nat):Int)+1):=Xaw (by omega)
   have hi2:inK .i64 ((u / 10:Nat):Int):=Xaw (by omega)
   have hi3:inK .i64 ((u % 10:Nat):Int):=Xaw (by omega)
   have hu1:u % 10<=u % 10+1:=by omega
   have hu2:u % 10+1<=10:=by omega
   have hl:=Xpo (u / 10) (by omega)
   have hsz:(((bT (Lib.decDigits (u / 10))).size+(bT [UInt8.ofNat (48+u % 10)]).size:Nat):Int)<=9223372036854775807:=by rw[Xa2,Xa2];simp;omega
   have hap:=Xcv (Lib.decDigits (u / 10)) [UInt8.ofNat (48+u % 10)]
   rw[e0,Lib.decDigits,dif_neg h10]
   refine X53 ?_
   simp only[go_sem]
   repeat' first|refine Kn rfl ?_|(refine Kw ?_;simp only[e2,q1,q2,hd,hap,go_sem])|refine Kf ?_|refine⟨_,c1,Kg ?_⟩|refine⟨_,⟨c1,rfl⟩,Kg ?_⟩|refine⟨u % 10,u % 10+1,⟨rfl,rfl,hu1,hu2⟩,Kg ?_⟩|refine⟨hsz,?_⟩|refine⟨hi1,?_⟩|refine⟨hi2,?_⟩|refine⟨hi3,?_⟩|(apply Kp<;>intro _<;>try (exfalso;omega))
   all_goals trace_state
theorem EmW.inv {g:Gr} {d:Nat} {c:Int} {t met met':List Int} {q:List Tr} (h:EmW g d (c::t) met q met'):∃ (i:Nat) (y:Nd) (p:Tr) (q2:List Tr) (met1:List Int),c=(i:Int)/\g.l[i]?=some y/\q=p::q2/\EmW g d t met1 q2 met' /\
  ((y.kids=[]/\met1=met/\p=.mk y.k ⟨#[]⟩ y.x y.keys [])\/(y.kids≠[]/\c∈met/\met1=met/\p=.mk 3 (Xaj (anc g i)) z13 [] []) \/
    (y.kids≠[]/\c ∉ met/\∃ q1,EmW g (d+1) y.kids (met++[c]) q1 met1/\p=.mk y.k (Xaj (anc g i)) y.x y.keys q1)):=by
 cases h with
 | leaf hy hk h=>exact⟨_,_,_,_,_,rfl,hy,rfl,h,.inl ⟨hk,rfl,rfl⟩⟩
 | ref hy hk hm ha h=>exact⟨_,_,_,_,_,rfl,hy,rfl,h,.inr (.inl ⟨hk,hm,rfl,rfl⟩)⟩
 | node hy hk hm hd h1 h2=>exact⟨_,_,_,_,_,rfl,hy,rfl,h2,.inr (.inr ⟨hk,hm,_,h1,rfl⟩)⟩
theorem EmW.det {g:Gr} {d:Nat} {t met m1:List Int} {q:List Tr} (h:EmW g d t met q m1):∀ {q':List Tr} {m2:List Int},EmW g d t met q' m2->q'=q/\m2=m1:=by
 induction h with
 | nil=>intro q' m2 h';cases h';exact⟨rfl,rfl⟩
 | leaf hy hk h ih =>
  intro q' m2 h'
  obtain⟨i,y,p,q2,met1,e,hy',rfl,h2,hc⟩:=h'.inv
  obtain rfl:=Int.ofNat.inj e
  rw[hy] at hy';cases hy'
  rcases hc with ⟨_,rfl,rfl⟩|⟨hn,_⟩|⟨hn,_⟩
  ·obtain⟨rfl,rfl⟩:=ih h2;exact⟨rfl,rfl⟩
  ·exact absurd hk hn
  ·exact absurd hk hn
 | ref hy hk hm ha h ih =>
  intro q' m2 h'
  obtain⟨i,y,p,q2,met1,e,hy',rfl,h2,hc⟩:=h'.inv
  obtain rfl:=Int.ofNat.inj e
  rw[hy] at hy';cases hy'
  rcases hc with ⟨hn,_⟩|⟨_,_,rfl,rfl⟩|⟨_,hn,_⟩
  ·exact absurd hn hk
  ·obtain⟨rfl,rfl⟩:=ih h2;exact⟨rfl,rfl⟩
  ·exact absurd hm hn
 | node hy hk hm hd h1 h2 ih1 ih2 =>
  intro q' m2 h'
  obtain⟨i,y,p,q2,met1,e,hy',rfl,h3,hc⟩:=h'.inv
  obtain rfl:=Int.ofNat.inj e
  rw[hy] at hy';cases hy'
  rcases hc with ⟨hn,_⟩|⟨_,hn,_⟩|⟨_,_,q1,h4,rfl⟩
  ·exact absurd hn hk
  ·exact absurd hn hm
  ·obtain⟨rfl,rfl⟩:=ih1 h4
   obtain⟨rfl,rfl⟩:=ih2 h3
   exact⟨rfl,rfl⟩
theorem Jd2 {g:Gr} (hg:Tdy g) (hd:Xgj g) {t:Tr} {met:List Int} (h:EmW g 1 [0] [] [t] met):emT g=t:=by
 obtain⟨m,h1,_⟩:=X1n hg hd
 have:=(h.det h1).1
 simpa using this
abbrev k13:Sc:=⟨3,0,⟨#[107]⟩⟩
def Ww5:Nd:=⟨1,z13,[],[1,0]⟩
def Jem:Nd:=⟨2,z13,[k13],[2]⟩
def Jik:Nd:=⟨0,⟨2,5,⟨#[]⟩⟩,[],[]⟩
def g13:Gr:=⟨0,[Ww5,Jem,Jik]⟩
theorem Xn0 {g:Gr} (h:(g.l.all fun x=>decide (x.keys.length<=12/\x.kids.length<=12))=true):Xc9 g:=by
 intro x hx
 have:=List.all_eq_true.1 h x hx
 simpa using this
theorem Xkh:Good g13:=⟨by kernel_rfl,Xn0 (by kernel_rfl)⟩
theorem Jd3:kd g13 0=[1,0]:=by kernel_rfl
theorem Jd4:kd g13 1=[2]:=by kernel_rfl
theorem Jd5:kd g13 2=[]:=by kernel_rfl
theorem Yx6:Xbe g13=[0,1,2]:=by
 have:Walks (kd g13) [0] [] [0,1,2]:=by
  refine .step (by simp) ?_
  rw[Jd3]
  refine .step (by simp) ?_
  rw[Jd4]
  refine .step (by simp) ?_
  rw[Jd5]
  exact .skip (by simp) (.nil _)
 exact this.eq
theorem Yni:(⟨0,[0,1,2].map fun i=>Xbc [0,1,2] (Xbr g13.l i)⟩:Gr)=g13:=by kernel_rfl
theorem Yx7:Xa0 g13=g13:=by
 have:Xa0 g13=⟨0,[0,1,2].map fun i=>Xbc [0,1,2] (Xbr g13.l i)⟩:=by rw[<- Yx6];rfl
 rw[this,Yni]
theorem Xt4:Tdy g13:=by have:=Xkh.tdy;rwa [Yx7] at this
theorem Xpp:Xel g13=[1,0,0]:=by kernel_rfl
theorem Wwn:Xfq g13=[1,2,3]:=by
 have h2:DepW (kd g13) 3 [((2:Nat):Int)] [1,2,0] [1,2,3]:=by
  refine .step (x:=0) rfl (by omega) (b:=[1,2,3]) ?_ (.nil _ _)
  rw[show kd g13 ((2:Nat):Int)=[] from Jd5]
  exact .nil _ _
 have h1:DepW (kd g13) 2 [((1:Nat):Int),((0:Nat):Int)] [1,0,0] [1,2,3]:=by
  refine .step (x:=0) rfl (by omega) (b:=[1,2,3]) ?_ (.skip (x:=1) rfl (by omega) (.nil _ _))
  rw[show kd g13 ((1:Nat):Int)=[2] from Jd4]
  exact h2
 have h0:DepW (kd g13) 1 [((0:Nat):Int)] [0,0,0] [1,2,3]:=by
  refine .step (x:=0) rfl (by omega) (b:=[1,2,3]) ?_ (.nil _ _)
  rw[show kd g13 ((0:Nat):Int)=[1,0] from Jd3]
  exact h1
 exact h0.eq
theorem X1r:Xgj g13:=by
 intro i x d hx hd
 rw[Wwn] at hd
 match i,hd with
 | 0,hd=>cases hd;omega
 | 1,hd=>cases hd;omega
 | 2,hd=>cases hd;omega
theorem X1s:anc g13 0=1:=by unfold anc;rw[Xpp];rfl
theorem Ynj:Xea g13=3:=by
 unfold Xea
 have h0:anc g13 0=1:=X1s
 have h1:anc g13 1=0:=by unfold anc;rw[Xpp];rfl
 have h2:anc g13 2=0:=by unfold anc;rw[Xpp];rfl
 show ((0+(if 0 < anc g13 0 then _ else _))+(if 0 < anc g13 1 then _ else _))+(if 0 < anc g13 2 then _ else _)=(3:Int)
 rw[h0,h1,h2]
 decide
abbrev t13:Tr:=.mk 1 (Xaj 1) z13 [] [.mk 2 ⟨#[]⟩ z13 [k13] [.mk 0 ⟨#[]⟩ ⟨2,5,⟨#[]⟩⟩ [] []],.mk 3 (Xaj 1) z13 [] []]
theorem Jd6:EmW g13 1 [0] [] [t13] [0,1]:=by
 have h2:EmW g13 3 [((2:Nat):Int)] [0,1] [.mk 0 ⟨#[]⟩ ⟨2,5,⟨#[]⟩⟩ [] []] [0,1]:=.leaf (y:=Jik) rfl rfl (.nil _ _)
 have h1:EmW g13 2 [((1:Nat):Int),((0:Nat):Int)] [0] [.mk 2 ⟨#[]⟩ z13 [k13] [.mk 0 ⟨#[]⟩ ⟨2,5,⟨#[]⟩⟩ [] []],.mk 3 (Xaj 1) z13 [] []] [0,1]:=by
  have hr:EmW g13 2 [((0:Nat):Int)] [0,1] [.mk 3 (Xaj 1) z13 [] []] [0,1]:=by
   have:=EmW.ref (g:=g13) (d:=2) (i:=0) (y:=Ww5) (t:=[]) (met:=[0,1]) (met':=[0,1]) (q:=[]) rfl (by simp[Ww5]) (by simp) (by rw[X1s];decide) (.nil _ _)
   rwa [X1s] at this
  have h1a:anc g13 1=0:=by unfold anc;rw[Xpp];rfl
  have:=EmW.node (g:=g13) (d:=2) (i:=1) (y:=Jem) (t:=[((0:Nat):Int)]) (met:=[0]) (met1:=[0,1]) (met':=[0,1]) rfl (by simp[Jem]) (by simp) (by omega) h2 hr
  rw[h1a,Xe8 (by omega)] at this
  exact this
 have:=EmW.node (g:=g13) (d:=1) (i:=0) (y:=Ww5) (t:=[]) (met:=[]) (met1:=[0,1]) (met':=[0,1]) rfl (by simp[Ww5]) (by simp) (by omega) h1 (.nil _ _)
 rw[X1s] at this
 exact this
theorem Xse:Xcy t13=[[38,97,49],[45],[32,32,34,107,34,58,32,53],[45,32,42,97,49]]:=by kernel_rfl
theorem Wwo:Xfc g13=(Xcy t13,0):=by
 have he:=Jd2 Xt4 X1r Jd6
 rw[Xt2 ⟨Xt4.good.c,Xt4.self⟩ X1r (by rw[Ynj];omega) (by rw[he,Xse];decide),he]
theorem Xij:∀ x∈g13.l,x.short:=by
 intro x hx
 simp only[g13,List.mem_cons,List.not_mem_nil,or_false] at hx
 rcases hx with rfl|rfl|rfl <;> simp[Nd.short,Sc.short,Ww5,Jem,Jik] <;> decide
theorem X24 (h:Env13 gp):Does QP gp 9 [] (vb true):=by
 have c1:=X1o h Xkh.s Xij
 have c2:=Ynd h Xkh.s Xij
 have c3:=Y8x h Xkh.s Xij
 have hs1:Xc9 (⟨1,g13.l⟩:Gr):=Xn0 (by kernel_rfl)
 have c4:=X1o h hs1 Xij
 rw[Xpm (g:=⟨1,g13.l⟩) (fun e=>by have:=congrArg Gr.root e.2;cases this)] at c4
 rw[Wwo,Xse] at c1 c2 c3
 have e1:bT (Xe9 [[38,97,49],[45],[32,32,34,107,34,58,32,53],[45,32,42,97,49]])=⟨#[38,97,49,10,45,10,32,32,34,107,34,58,32,53,10,45,32,42,97,49,10]⟩:=rfl
 have e2:Xag [[38,97,49],[45],[32,32,34,107,34,58,32,53],[45,32,42,97,49]]=21:=rfl
 simp only[e1,e2] at c1 c2 c3
 refine Jfk ?_
 simp only[go_sem]
 repeat' first|refine Kn rfl ?_|(refine Kw ?_;simp only[go_sem])|refine Kf ?_|refine⟨_,c1,Kg ?_⟩|refine⟨_,⟨c1,rfl⟩,Kg ?_⟩|refine⟨_,c2,Kg ?_⟩|refine⟨_,⟨c2,rfl⟩,Kg ?_⟩|refine⟨_,c3,Kg ?_⟩|refine⟨_,⟨c3,rfl⟩,Kg ?_⟩|refine⟨_,c4,Kg ?_⟩|refine⟨_,⟨c4,rfl⟩,Kg ?_⟩|apply Kp<;>intro _
 all_goals (rename_i hh;exact absurd rfl hh)
abbrev Xmo (g:Gr) (met:List Int) (l:List (List UInt8)) (v:Nat):List Ch :=
 [.cells [.d (.int .i64 g.root),.d (.sl (nds g.l)),.d (.sl (Xad (Xel g))),.own 1 met.length,.own 2 v],.row 1 met.length (Xad met),.row 1 v (Xey l)]
abbrev Ji5 (g:Gr) (D1 D2:D):V:=.one (.d (.bx [.int .i64 g.root,.sl (nds g.l),.sl (Xad (Xel g)),D1,D2]))
theorem Xjs {g:Gr} (hg:Tdy g) (hst:∀ x∈g.l,x.short) (D1 D2:D) {i:Nat} {y:Nd} (hy:g.l[i]?=some y) (hk:y.kids=[]) :
  Does QP gp 32 [Ji5 g D1 D2,vi i] (.tup [vs (bT (Xfs y)),vb true]):=by
 have hsy:=hst y (List.mem_of_getElem? hy)
 have hkl:¬ (((y.kids.length:Nat):Int) > 0):=by rw[hk];simp
 refine Y0m ?_
 simp only[go_sem]
 rcases Xgk hg hy with ⟨h0,h1,_,h2⟩|⟨h0,_⟩|⟨h0,_⟩
 ·have e:Xfs y=scB y.x:=by show (if y.k=0 then scB y.x else _)=_;rw[if_pos h0]
  rw[e]
  have c1:=Jd1 (gp:=gp) y.x h2 hsy.2.2.1
  have e1:(y.k==0)=true:=by rw[h0];rfl
  repeat' first|refine Kn rfl ?_|(refine Kw ?_;simp only[e1,go_sem])|refine Kf ?_|refine⟨_,c1,Kg ?_⟩|refine⟨_,⟨c1,rfl⟩,Kg ?_⟩|refine⟨_,⟨Kq _,(Xab hy),rfl⟩,Kg ?_⟩|(apply Kp<;>intro _<;>try (exfalso;omega))
 ·have e:Xfs y=[91,93]:=by show (if y.k=0 then scB y.x else if y.k=1 then _ else _)=_;rw[if_neg (by omega),if_pos h0]
  rw[e]
  have e1:(y.k==0)=false:=by rw[h0];rfl
  have e2:(y.k==1)=true:=by rw[h0];rfl
  repeat' first|refine Kn rfl ?_|(refine Kw ?_;simp only[e1,e2,hkl,go_sem])|refine Kf ?_|refine⟨_,⟨Kq _,(Xab hy),rfl⟩,Kg ?_⟩|(apply Kp<;>intro _<;>try (exfalso;omega))
  all_goals first|rfl|trace_state
 ·have e:Xfs y=[123,125]:=by show (if y.k=0 then scB y.x else if y.k=1 then _ else _)=_;rw[if_neg (by omega),if_neg (by omega)]
  rw[e]
  have e1:(y.k==0)=false:=by rw[h0];rfl
  have e2:(y.k==1)=false:=by rw[h0];rfl
  repeat' first|refine Kn rfl ?_|(refine Kw ?_;simp only[e1,e2,hkl,go_sem])|refine Kf ?_|refine⟨_,⟨Kq _,(Xab hy),rfl⟩,Kg ?_⟩|(apply Kp<;>intro _<;>try (exfalso;omega))
  all_goals first|rfl|trace_state
theorem Xgn {g:Gr} (hg:Tdy g) (D1 D2:D) {i:Nat} {y:Nd} (hy:g.l[i]?=some y) (hk:y.kids≠[]):Does QP gp 32 [Ji5 g D1 D2,vi i] (.tup [vs ⟨#[]⟩,vb false]):=by
 have hkl:(((y.kids.length:Nat):Int) > 0):=by cases hc:y.kids with|nil=>exact absurd hc hk|cons=>simp
 have e1:(y.k==0)=false:=by
  rcases Xgk hg hy with ⟨_,h1,_⟩|⟨h0,_⟩|⟨h0,_⟩
  ·exact absurd h1 hk
  ·rw[h0];rfl
  ·rw[h0];rfl
 refine Y0m ?_
 simp only[go_sem]
 repeat' first|refine Kn rfl ?_|(refine Kw ?_;simp only[e1,hkl,go_sem])|refine Kf ?_|refine⟨_,⟨Kq _,(Xab hy),rfl⟩,Kg ?_⟩|(apply Kp<;>intro _<;>try (exfalso;omega))
 all_goals trace_state
theorem Xik (l:List (List UInt8)) (s:List UInt8):Xey l++[[.str (bT s)]]=Xey (l++[s]):=by simp[Xey]
theorem X25 {g:Gr} (hg:Tdy g) (hst:∀ x∈g.l,x.short) (met:List Int) (l:List (List UInt8)) (v:Nat) {i:Nat} {y:Nd} (hy:g.l[i]?=some y) (hk:y.kids=[]) (hd bl:List UInt8) (hhd:hd.length<=2000000) (hl:l.length<=100000) :
  Tri QP gp 62 [.one (.ptr 0 0),vi i,vs (bT hd),vs (bT bl)] (Xmo g met l v) fun r post=>r=.tup []/\post=Xmo g met (l++[hd++32::Xfs y]) (v+1):=by
 have c1:=Xjs (gp:=gp) hg hst (.sl (Xad met)) (.sl (Xey l)) hy hk
 have ha:=Xfr (Kr.1 hy).1
 have hn:¬ (anc g i > 0):=fun e=>((Xtx hy).1 e).1 hk
 have hb:=Xfb hg hst hy
 generalize Xfs y=w at *
 have hap:∀ p∈([[.str (bT (hd++32::w))]]:List (List D)),p.length=1:=by simp
 have e1:bT hd++(⟨#[32]⟩:ByteArray)++bT w=bT (hd++32::w):=by rw[show (⟨#[32]⟩:ByteArray)=bT [32] from rfl,Xcv,Xcv];simp
 have z1:(((bT hd).size+#[(32:UInt8)].size:Nat):Int)<=9223372036854775807:=by rw[Xa2];simp;omega
 have z2:(((bT hd).size+#[(32:UInt8)].size+(bT w).size:Nat):Int)<=9223372036854775807:=by rw[Xa2,Xa2];simp;omega
 have l1:(l.length+1)*16<=140737488355328:=by omega
 have l2:l.length+1 < lenMax:=by unfold lenMax;omega
 have e2:=Xik l (hd++32::w)
 refine Xou ?_
 simp only[go_sem]
 repeat' first|refine Kn rfl ?_|(refine Ka ?_;simp only[hn,e1,z1,z2,e2,go_sem])|refine Kf ?_|refine⟨_,⟨Kq _,(Xab ha),rfl⟩,Kg ?_⟩|refine⟨hap,l1,l2,?_⟩|refine Or.inl ⟨_,⟨c1,rfl⟩,Kg ?_⟩|(apply Kp<;>intro _<;>try (exfalso;omega))
 refine Kt (fr 101 []) ?_
 refine Ku 3 ?_
 simp only[go_sem]
 repeat' first|refine Kn rfl ?_|(refine Kw ?_;simp only[e2,go_sem])|refine Kf ?_|(apply Kp<;>intro _<;>try (exfalso;omega))
 all_goals trace_state
def Xms (l:List Int) (n:Int):Int:=X3d (fun y=>y==n) l
theorem Xsf {l:List Int} {n:Int}:0<=Xms l n↔n∈l:=by
 unfold Xms
 have:=Xj2 (fun y=>y==n) l
 rw[<- decide_eq_true_iff (p:=(0:Int)<=_)]
 rw[show decide ((0:Int)<=X3d (fun y=>y==n) l)=decide (X3d (fun y=>y==n) l >= 0) from rfl,this,List.any_eq_true]
 constructor
 ·rintro⟨x,hx,e⟩
  simp at e;subst e;exact hx
 ·exact fun h=>⟨n,h,by simp⟩
theorem Ji6 (l:List Int) (n:Int) (hl:l.length<=100000):Does QP gp 92 [.one (.d (.sl (Xad l))),vi n] (vi (Xms l n)):=by
 refine Y7b ?_
 simp only[go_sem]
 repeat' first|refine Kn rfl ?_|(refine Kw ?_;simp only[go_sem])|refine Kf ?_|apply Kp<;>intro _
 refine Kt (fr 19 [(0,.one (.d (.sl (Xad l)))),(1,vi n),(5,vi (0:Nat))]) ?_
 refine Km (fun mz sz=>∃ i:Nat,i<=l.length/\mz=l.length - i/\(∀ y∈l.take i,(y==n)=false)/\sz=⟨fr 19 [(0,.one (.d (.sl (Xad l)))),(1,vi n),(5,vi i)],[]⟩) (l.length) ⟨0,Nat.zero_le _,(Nat.sub_zero _).symm,?_,rfl⟩ ?_
 ·simp
 rintro _ _ ⟨i,hi,rfl,hz,rfl⟩
 simp only[go_sem]
 by_cases hil:i < l.length
 ·obtain⟨x,hx⟩:=Xaf hil
  repeat' first|refine Kn rfl ?_|(refine Kw ?_;simp only[go_sem])|refine Kf ?_|refine⟨_,⟨Kq _,(Xab hx),rfl⟩,Kg ?_⟩|apply Kp<;>intro _
  ·rename_i h;unfold Xms;rw[Xox hz hx h]
  ·refine⟨Xai hil (by unfold lenMax;omega),?_⟩
   rename_i h
   refine Kt (fr 19 [(0,.one (.d (.sl (Xad l)))),(1,vi n),(5,vi (i+1))]) ?_
   refine Kl ⟨l.length - (i+1),by omega,i+1,by omega,rfl,?_,rfl⟩
   exact Xfn hz hx (by simpa using h)
  ·omega
 ·repeat' (first|refine Kn rfl ?_|(refine Kw ?_;simp only[go_sem])|refine Kf ?_|apply Kp<;>intro _)
  ·omega
  ·rw[List.take_of_length_le (by omega)] at hz
   unfold Xms
   rw[Xh6 hz]
theorem Ynk {g:Gr} (hg:Tdy g) (met:List Int) (l:List (List UInt8)) (v:Nat) {i:Nat} {y:Nd} (hy:g.l[i]?=some y) (hk:y.kids≠[]) (hm:(i:Int)∈met) (hap0:0 < anc g i) (hml:met.length<=100000) (hd bl:List UInt8) (hhd:hd.length<=2000000) (hl:l.length<=100000) :
  Tri QP gp 62 [.one (.ptr 0 0),vi i,vs (bT hd),vs (bT bl)] (Xmo g met l v) fun r post=>r=.tup []/\post=Xmo g met (l++[hd++32::42::(Xaj (anc g i)).data.toList]) (v+1):=by
 have c1:=Xgn (gp:=gp) hg (.sl (Xad met)) (.sl (Xey l)) hy hk
 have hil:=(Kr.1 hy).1
 have ha:=Xfr hil
 have hale:anc g i<=1000:=by have:=Xmb hil;have:=hg.good.len;omega
 have c2:=Ji6 (gp:=gp) met i hml
 have hin:(0:Int)<=Xms met i:=Xsf.2 hm
 have hin:(Xms met i >= 0):=hin
 generalize Xms met i=z at *
 have hns:(Xaj (anc g i)).data.toList.length<=22:=Xb4 _ hale
 have hnm:(⟨#[97]⟩:ByteArray)++bT (Lib.itoa (anc g i))=Xaj (anc g i):=by unfold Xaj;rw[if_pos hap0];rfl
 obtain⟨a,hae⟩:∃ a:Nat,anc g i=(a:Int):=⟨(anc g i).toNat,by omega⟩
 have c3:Does QP gp 20 [vi (anc g i)] (vs (bT (Lib.itoa (anc g i)))):=by rw[hae];exact Ynh a a (Nat.le_refl _) (by omega)
 have hit:=Lib.itoa_length_le (anc g i) (by omega) (by omega)
 have hn:(anc g i > 0):=hap0
 generalize anc g i=an at *
 have hsz:(Xaj an).size=(Xaj an).data.toList.length:=by simp
 have hap:∀ p∈([[.str (bT (hd++32::42::(Xaj an).data.toList))]]:List (List D)),p.length=1:=by simp
 have e1:bT hd++(⟨#[32,42]⟩:ByteArray)++Xaj an=bT (hd++32::42::(Xaj an).data.toList):=by rw[show (⟨#[32,42]⟩:ByteArray)=bT [32,42] from rfl,Xcv,Xnu];simp
 have z0:((#[(97:UInt8)].size+(bT (Lib.itoa an)).size:Nat):Int)<=9223372036854775807:=by rw[Xa2];simp;omega
 have z1:(((bT hd).size+#[(32:UInt8),42].size:Nat):Int)<=9223372036854775807:=by rw[Xa2];simp;omega
 have z2:(((bT hd).size+#[(32:UInt8),42].size+(Xaj an).size:Nat):Int)<=9223372036854775807:=by rw[Xa2,hsz];simp only[List.size_toArray,List.length_cons,List.length_nil];omega
 have l1:(l.length+1)*16<=140737488355328:=by omega
 have l2:l.length+1 < lenMax:=by unfold lenMax;omega
 have e2:=Xik l (hd++32::42::(Xaj an).data.toList)
 refine Xou ?_
 simp only[go_sem]
 repeat' first|refine Kn rfl ?_|(refine Ka ?_;simp only[hn,hin,hnm,e1,z0,z1,z2,e2,go_sem])|refine Kf ?_|refine⟨_,c3,Kg ?_⟩|refine⟨_,⟨c3,rfl⟩,Kg ?_⟩|refine⟨_,⟨Kq _,(Xab ha),rfl⟩,Kg ?_⟩|refine⟨hap,l1,l2,?_⟩|refine Or.inl ⟨_,⟨c2,rfl⟩,Kg ?_⟩|refine Or.inl ⟨_,⟨c1,rfl⟩,Kg ?_⟩|(apply Kp<;>intro _<;>try (exfalso;omega))
 refine Kt (fr 101 []) ?_
 refine Ku 3 ?_
 simp only[go_sem]
 repeat' first|refine Kn rfl ?_|(refine Kw ?_;simp only[e2,go_sem])|refine Kf ?_|(apply Kp<;>intro _<;>try (exfalso;omega))
 all_goals trace_state
abbrev opB (nm:ByteArray):List UInt8:=if nm=⟨#[]⟩ then [] else 32::38::nm.data.toList
theorem X26 {g:Gr} (hg:Tdy g) (met:List Int) (l:List (List UInt8)) (v:Nat) {i:Nat} {y:Nd} (hy:g.l[i]?=some y) (hk:y.kids≠[]) (hm:(i:Int) ∉ met) (hml:met.length<=100000) (hd bl:List UInt8) (hhd:hd.length<=2000000) (hbl:bl.length<=2000000) (hl:l.length<=100000)
  {met':List Int} {l':List (List UInt8)} {v':Nat} (hit:Tri QP gp 33 [.one (.ptr 0 0),vi i,vs (bT (bl++[32,32]))] (Xmo g met (l++[hd++opB (Xaj (anc g i))]) (v+1)) fun r post=>r=.tup []/\post=Xmo g met' l' v') :
  Tri QP gp 62 [.one (.ptr 0 0),vi i,vs (bT hd),vs (bT bl)] (Xmo g met l v) fun r post=>r=.tup []/\post=Xmo g met' l' v':=by
 have c1:=Xgn (gp:=gp) hg (.sl (Xad met)) (.sl (Xey l)) hy hk
 have hil:=(Kr.1 hy).1
 have ha:=Xfr hil
 have hale:anc g i<=1000:=by have:=Xmb hil;have:=hg.good.len;omega
 have c2:=Ji6 (gp:=gp) met i hml
 have hin:¬ (Xms met i >= 0):=fun e=>hm (Xsf.1 e)
 generalize Xms met i=z at *
 have hns:(Xaj (anc g i)).data.toList.length<=22:=Xb4 _ hale
 have l1:(l.length+1)*16<=140737488355328:=by omega
 have l2:l.length+1 < lenMax:=by unfold lenMax;omega
 have e9:bT bl++(⟨#[32,32]⟩:ByteArray)=bT (bl++[32,32]):=Xcv bl [32,32]
 have z9:(((bT bl).size+#[(32:UInt8),32].size:Nat):Int)<=9223372036854775807:=by rw[Xa2];simp;omega
 by_cases hn:(anc g i > 0)
 ·have hnm:(⟨#[97]⟩:ByteArray)++bT (Lib.itoa (anc g i))=Xaj (anc g i):=by unfold Xaj;rw[if_pos hn];rfl
  obtain⟨a,hae⟩:∃ a:Nat,anc g i=(a:Int):=⟨(anc g i).toNat,by omega⟩
  have c3:Does QP gp 20 [vi (anc g i)] (vs (bT (Lib.itoa (anc g i)))):=by rw[hae];exact Ynh a a (Nat.le_refl _) (by omega)
  have hitl:=Lib.itoa_length_le (anc g i) (by omega) (by omega)
  have hne:¬ (Xaj (anc g i)=⟨#[]⟩):=X1g hn
  rw[show opB (Xaj (anc g i))=32::38::(Xaj (anc g i)).data.toList from if_neg hne] at hit
  generalize anc g i=an at *
  have hsz:(Xaj an).size=(Xaj an).data.toList.length:=by simp
  have hap:∀ p∈([[.str (bT (hd++32::38::(Xaj an).data.toList))]]:List (List D)),p.length=1:=by simp
  have e1:bT hd++(⟨#[32,38]⟩:ByteArray)++Xaj an=bT (hd++32::38::(Xaj an).data.toList):=by rw[show (⟨#[32,38]⟩:ByteArray)=bT [32,38] from rfl,Xcv,Xnu];simp
  have z0:((#[(97:UInt8)].size+(bT (Lib.itoa an)).size:Nat):Int)<=9223372036854775807:=by rw[Xa2];simp;omega
  have z1:(((bT hd).size+#[(32:UInt8),38].size:Nat):Int)<=9223372036854775807:=by rw[Xa2];simp;omega
  have z2:(((bT hd).size+#[(32:UInt8),38].size+(Xaj an).size:Nat):Int)<=9223372036854775807:=by rw[Xa2,hsz];simp only[List.size_toArray,List.length_cons,List.length_nil];omega
  have e2:=Xik l (hd++32::38::(Xaj an).data.toList)
  have hnd:decide (Xaj an=(⟨#[]⟩:ByteArray))=false:=decide_eq_false hne
  refine Xou ?_
  simp only[go_sem]
  repeat' first|refine Kn rfl ?_|(refine Ka ?_;simp only[hn,hin,hnm,hnd,e1,z0,z1,z2,e2,e9,z9,go_sem])|refine Kf ?_|refine⟨_,c3,Kg ?_⟩|refine⟨_,⟨c3,rfl⟩,Kg ?_⟩|refine⟨_,⟨Kq _,(Xab ha),rfl⟩,Kg ?_⟩|refine⟨hap,l1,l2,?_⟩|refine Or.inl ⟨_,⟨c2,rfl⟩,Kg ?_⟩|refine Or.inl ⟨_,⟨c1,rfl⟩,Kg ?_⟩|(apply Kp<;>intro _<;>try (exfalso;omega))
  refine Or.inr (Or.inr ⟨[0,1,2],.tup [],Xmo g met' l' v',(by simp only[Xay,Xcl,rnV,rnA,Xcx,rn0,Xcw,Xbo,Xcm,rnC,Xak,List.isEmpty_nil,reduceCtorEq,↓reduceIte,Qa,Qb,Qc,Qd,Qe,Qf,Qg,Qh,Qi,Qj,Qk,Ql,Qm,Qn,Qo,Qp,Qq,Qr];simp only[go_sem];exact⟨Xvd,hit⟩),Kg ?_⟩)
  simp only[bkO,bkC]
  simp only[go_sem]
  refine Kt (fr 101 []) ?_
  refine Ku 3 ?_
  simp only[go_sem]
  repeat' first|refine Kn rfl ?_|(refine Kw ?_;simp only[go_sem])|refine Kf ?_|(apply Kp<;>intro _<;>try (exfalso;omega))
  all_goals trace_state
 ·rw[Xe8 hn] at hit
  rw[show opB (⟨#[]⟩:ByteArray)=[] from if_pos rfl,List.append_nil] at hit
  have hap:∀ p∈([[.str (bT hd)]]:List (List D)),p.length=1:=by simp
  have e2:=Xik l hd
  refine Xou ?_
  simp only[go_sem]
  repeat' first|refine Kn rfl ?_|(refine Ka ?_;simp only[hn,hin,e2,e9,z9,go_sem])|refine Kf ?_|refine⟨_,⟨Kq _,(Xab ha),rfl⟩,Kg ?_⟩|refine⟨hap,l1,l2,?_⟩|refine Or.inl ⟨_,⟨c2,rfl⟩,Kg ?_⟩|refine Or.inl ⟨_,⟨c1,rfl⟩,Kg ?_⟩|(apply Kp<;>intro _<;>try (exfalso;omega))
  refine Or.inr (Or.inr ⟨[0,1,2],.tup [],Xmo g met' l' v',(by simp only[Xay,Xcl,rnV,rnA,Xcx,rn0,Xcw,Xbo,Xcm,rnC,Xak,List.isEmpty_nil,reduceCtorEq,↓reduceIte,Qa,Qb,Qc,Qd,Qe,Qf,Qg,Qh,Qi,Qj,Qk,Ql,Qm,Qn,Qo,Qp,Qq,Qr];simp only[go_sem];exact⟨Xvd,hit⟩),Kg ?_⟩)
  simp only[bkO,bkC]
  simp only[go_sem]
  refine Kt (fr 101 []) ?_
  refine Ku 3 ?_
  simp only[go_sem]
  repeat' first|refine Kn rfl ?_|(refine Kw ?_;simp only[go_sem])|refine Kf ?_|(apply Kp<;>intro _<;>try (exfalso;omega))
  all_goals trace_state
theorem Jj8 (d:Nat) (h:2<=d):Xbf (2*(d - 2))++[32,32]=Xbf (2*(d+1 - 2)):=by
 unfold Xbf
 rw[show ([32,32]:List UInt8)=List.replicate 2 32 from rfl,List.replicate_append_replicate,show 2*(d - 2)+2=2*(d+1 - 2) by omega]
theorem Xsg {α:Type} {l:List α} {i:Nat} {x:α} (h:l[i]?=some x):l.drop i=x::l.drop (i+1):=by
 obtain⟨h2,rfl⟩:=Kr.1 h
 exact List.drop_eq_getElem_cons h2
theorem X27 (t:Tr):1<=(Xch t).length:=by rw[Xbp];simp
theorem Yx8 {g:Gr} {d:Nat} {t met met':List Int} {q:List Tr} (h:EmW g d t met q met'):met'.length<=met.length+(q.flatMap Xch).length:=by
 induction h with
 | nil=>simp
 | leaf hy hk h ih=>rw[List.flatMap_cons,List.length_append];omega
 | ref hy hk hm ha h ih=>rw[List.flatMap_cons,List.length_append];omega
 | node hy hk hm hd h1 h2 ih1 ih2 =>
  rw[List.flatMap_cons,List.length_append,Xbp]
  simp only[Tr.kids,List.length_cons,List.length_append,List.length_nil] at ih1 ih2 ⊢
  omega
theorem Xmh {g:Gr} {d:Nat} {t met met':List Int} {q:List Tr} (hg:Tdy g) (h:EmW g d t met q met') (n:Nat):∀ hs:List (List UInt8),hs.length=q.length->(lnK n hs q).length=(q.flatMap Xch).length:=by
 induction h generalizing n with
 | nil=>intro hs _;rw[Xbu];rfl
 | leaf hy hk h ih =>
  intro hs hl
  cases hs with
  | nil=>simp at hl
  | cons h0 hs =>
   rw[Xct,List.length_append,List.flatMap_cons,List.length_append,ih n hs (by simpa using hl),Xd9,Xbp]
   simp[Xbu,Tr.kids]
 | ref hy hk hm ha h ih =>
  intro hs hl
  cases hs with
  | nil=>simp at hl
  | cons h0 hs =>
   rw[Xct,List.length_append,List.flatMap_cons,List.length_append,ih n hs (by simpa using hl),Xd9,Xbp]
   simp[Xbu,Tr.kids]
 | @node d i y t met met1 met' q1 q2 hy hk hm hd h1 h2 ih1 ih2 =>
  intro hs hl
  cases hs with
  | nil=>simp at hl
  | cons h0 hs =>
   rw[Xct,List.length_append,List.flatMap_cons,List.length_append,ih2 n hs (by simpa using hl),Xd9,Xbp]
   have e:(Xar y.k y.keys q1.length).length=q1.length:=by rw[h1.len];exact Xgm hg hy hk
   have:=ih1 (n+2) _ e
   simp only[Tr.kids,Tr.k,Tr.keys,List.length_cons,this]
abbrev Jd7 (g:Gr) (met:List Int) (l:List (List UInt8)) (v:Nat) (x:Nd):List Ch :=
 [.cells [.d (.int .i64 g.root),.d (.sl (nds g.l)),.d (.sl (Xad (Xel g))),.own 1 met.length,.own 2 v],.row 1 met.length (Xad met),.row 1 v (Xey l),.cells [.d (.int .i64 x.k),.d (.int .i64 x.x.k),.d (.int .i64 x.x.n),.d (.str x.x.s),.d (.sl (scs x.keys)),.d (.sl (Xad x.kids))]]
set_option maxHeartbeats 4000000 in
theorem Wwp {g:Gr} (hg:Tdy g) (hst:∀ x∈g.l,x.short):∀ (N:Nat) {d i:Nat} {x:Nd} {met met':List Int} {q:List Tr} {l:List (List UInt8)} {v:Nat},
  (q.flatMap Xch).length<=N->g.l[i]?=some x->x.kids≠[]->EmW g d x.kids (met++[(i:Int)]) q met'->2<=d->d<=24->l.length+(q.flatMap Xch).length<=50000->met.length+(q.flatMap Xch).length<=50000 ->
  Tri QP gp 33 [.one (.ptr 0 0),vi i,vs (bT (Xbf (2*(d - 2))))] (Xmo g met l v) fun r post=>r=.tup []/\post=Xmo g met' (l++lnK (2*(d - 2)) (Xar x.k x.keys x.kids.length) q) (v+(lnK (2*(d - 2)) (Xar x.k x.keys x.kids.length) q).length):=by
 intro N
 induction N with
 | zero =>
  intro d i x met met' q l v hN hx hk hem
  exfalso
  have h1:=Xhk q
  have h2:=hem.len
  have:0 < x.kids.length:=by cases hc:x.kids with|nil=>exact absurd hc hk|cons=>simp
  omega
 | succ N ih =>
 intro d i x met met' q l v hN hx hk hem hd2 hd24 hlb hmb
 have hhl:=Xgm hg hx hk
 have hhs:=Xft hg hst hx
 have hsx:=hg.good.s x (List.mem_of_getElem? hx)
 have hshx:=hst x (List.mem_of_getElem? hx)
 have hql:=hem.len
 have hq0:=Xhk q
 have l1:(met.length+1)*8<=140737488355328:=by omega
 have l2:met.length+1 < lenMax:=by unfold lenMax;omega
 have hap:∀ p∈([[.int .i64 (i:Int)]]:List (List D)),p.length=1:=by simp
 have e2:Xad met++[[.int .i64 (i:Int)]]=Xad (met++[(i:Int)]):=by simp[Xad]
 have e3:met.length+1=(met++[(i:Int)]).length:=by simp
 refine Wcm ?_
 simp only[go_sem]
 repeat' first|refine Kn rfl ?_|(refine Ka ?_;simp only[e2,go_sem])|refine Kf ?_|refine⟨_,⟨Kq _,(Xab hx),rfl⟩,Kg ?_⟩|refine⟨hap,l1,l2,?_⟩|(apply Kp<;>intro _<;>try (exfalso;omega))
 rw[e3]
 have hcl0:=fun (T:List Tr) (hs:List (List UInt8))=>hs
 refine Kt (fr 63 [(0,.one (.ptr 0 0)),(1,vi i),(2,vs (bT (Xbf (2*(d - 2))))),(6,.one (.ptr 3 0)),(7,vi ((0:Nat):Int))]) ?_
 refine Km (fun mz sz=>∃ (j:Nat) (mj:List Int) (P:List (List UInt8)),j<=x.kids.length/\mz=x.kids.length - j/\EmW g d (x.kids.drop j) mj (q.drop j) met'/\P=lnK (2*(d - 2)) ((Xar x.k x.keys x.kids.length).take j) (q.take j)/\P.length+((q.drop j).flatMap Xch).length=(q.flatMap Xch).length/\mj.length+((q.drop j).flatMap Xch).length<=50001 /\
  sz=⟨fr 63 [(0,.one (.ptr 0 0)),(1,vi i),(2,vs (bT (Xbf (2*(d - 2))))),(6,.one (.ptr 3 0)),(7,vi (j:Int))],Jd7 g mj (l++P) (v+P.length) x⟩) _ ⟨0,met++[(i:Int)],[],Nat.zero_le _,rfl,hem,by rw[List.take_zero,List.take_zero,Xbu],by simp,by rw[<- e3,List.drop_zero];omega,by rw[List.append_nil];rfl⟩ ?_
 rintro _ _ ⟨j,mj,P,hj,rfl,hemj,hP,hPl,hml,rfl⟩
 unfold Jd7
 simp only[go_sem]
 by_cases hjl:j < x.kids.length
 case neg =>
  obtain rfl:x.kids.length=j:=by omega
  rw[List.take_of_length_le (by omega),List.take_of_length_le (by omega)] at hP
  rw[<- hP]
  rw[List.drop_of_length_le (Nat.le_refl _)] at hemj
  rw[show q.drop x.kids.length=[] from List.drop_of_length_le (by omega)] at hemj
  cases hemj
  repeat' first|refine Kn rfl ?_|(refine Ka ?_;simp only[go_sem])|refine Kf ?_|(apply Kp<;>intro _<;>try (exfalso;omega))
  refine Kt (fr 63 []) ?_
  refine Ku 3 ?_
  simp only[go_sem]
  repeat' first|refine Kn rfl ?_|(refine Kw ?_;simp only[go_sem])|refine Kf ?_|(apply Kp<;>intro _<;>try (exfalso;omega))
 case pos =>
  obtain⟨cj,hcj⟩:=Xaf hjl
  obtain⟨hdj,hhj⟩:=Xaf (l:=Xar x.k x.keys x.kids.length) (i:=j) (by omega)
  obtain⟨tj,htj⟩:=Xaf (l:=q) (i:=j) (by omega)
  have hsn:=Xpl (2*(d - 2)) (Xar x.k x.keys x.kids.length) q j hdj tj hhj htj
  rw[<- hP] at hsn
  have e4:x.kids.drop j=cj::x.kids.drop (j+1):=Xsg hcj
  have e5:q.drop j=tj::q.drop (j+1):=Xsg htj
  rw[e4,e5] at hemj
  rw[e5,List.flatMap_cons,List.length_append] at hPl hml
  have hft:=X27 tj
  have hhdj:hdj.length<=1700001:=hhs hdj (List.mem_of_getElem? hhj)
  have hbk:(Xbf (2*(d - 2))).length<=48:=by simp[Xbf];omega
  have key:∃ (mj':List Int),EmW g d (x.kids.drop (j+1)) mj' (q.drop (j+1)) met'/\mj'.length+((q.drop (j+1)).flatMap Xch).length<=50001/\(lnT (2*(d - 2)) hdj tj).length=(Xch tj).length /\
    Tri QP gp 62 [.one (.ptr 0 0),vi cj,vs (bT (Xbf (2*(d - 2))++hdj)),vs (bT (Xbf (2*(d - 2))))] (Xmo g mj (l++P) (v+P.length)) (fun r post=>r=.tup []/\post=Xmo g mj' (l++(P++lnT (2*(d - 2)) hdj tj)) (v+(P++lnT (2*(d - 2)) hdj tj).length)):=by
   have hPb:(l++P).length<=100000:=by rw[List.length_append];omega
   have hmb2:mj.length<=100000:=by omega
   have hhd2:(Xbf (2*(d - 2))++hdj).length<=2000000:=by rw[List.length_append];omega
   generalize x.kids.drop (j+1)=tl at *
   generalize q.drop (j+1)=ql at *
   rw[<- List.append_assoc,List.length_append,<- Nat.add_assoc]
   cases hemj with
   | @leaf _ i' y _ _ _ _ hy hyk hrest =>
    refine⟨mj,hrest,by omega,by rw[Xd9,Xbp];simp[Tr.kids,Xbu],?_⟩
    have:=X25 (gp:=gp) hg hst mj (l++P) (v+P.length) hy hyk (Xbf (2*(d - 2))++hdj) (Xbf (2*(d - 2))) hhd2 hPb
    have e:lnT (2*(d - 2)) hdj (.mk y.k ⟨#[]⟩ y.x y.keys [])=[Xbf (2*(d - 2))++hdj++32::Xfs y]:=by
     rw[Xd9]
     show (Xbf _++(hdj++(if y.k=3 then _ else if ([]:List Tr)=[] then _ else _)))::lnK _ _ []=_
     rw[if_neg (Xca hg hy),if_pos rfl,Xbu,List.append_assoc]
    rw[e];exact this
   | @ref _ i' y _ _ _ _ hy hyk hm ha hrest =>
    refine⟨mj,hrest,by omega,by rw[Xd9,Xbp];simp[Tr.kids,Xbu],?_⟩
    have:=Ynk (gp:=gp) hg mj (l++P) (v+P.length) hy hyk hm ha hmb2 (Xbf (2*(d - 2))++hdj) (Xbf (2*(d - 2))) hhd2 hPb
    have e:lnT (2*(d - 2)) hdj (.mk 3 (Xaj (anc g i')) z13 [] [])=[Xbf (2*(d - 2))++hdj++32::42::(Xaj (anc g i')).data.toList]:=by
     rw[Xd9]
     show (Xbf _++(hdj++(if (3:Int)=3 then _ else _)))::lnK _ _ []=_
     rw[if_pos rfl,Xbu,List.append_assoc];rfl
    rw[e];exact this
   | @node _ i' y _ _ met1 _ q1 _ hy hyk hm hd24' h1 h2 =>
    have hq1:q1≠[]:=fun e=>hyk (List.eq_nil_of_length_eq_zero (by rw[<- h1.len,e];rfl))
    have hfl:(Xch (.mk y.k (Xaj (anc g i')) y.x y.keys q1)).length=1+(q1.flatMap Xch).length:=by rw[Xbp];simp[Tr.kids];omega
    have hhq:(Xar y.k y.keys q1.length).length=q1.length:=by rw[h1.len];exact Xgm hg hy hyk
    have hlk:=Xmh hg h1 (2*(d+1 - 2)) _ hhq
    have hmm:=Yx8 h1
    rw[List.length_append,List.length_singleton] at hmm
    have e:lnT (2*(d - 2)) hdj (.mk y.k (Xaj (anc g i')) y.x y.keys q1)=(Xbf (2*(d - 2))++hdj++opB (Xaj (anc g i')))::lnK (2*(d+1 - 2)) (Xar y.k y.keys q1.length) q1:=by
     rw[Xd9]
     show (Xbf _++(hdj++(if y.k=3 then _ else if q1=[] then _ else _)))::lnK (2*(d - 2)+2) (Xar y.k y.keys q1.length) q1=_
     rw[if_neg (Xca hg hy),if_neg hq1,List.append_assoc,show 2*(d - 2)+2=2*(d+1 - 2) by omega]
     rfl
    refine⟨met1,h2,by omega,by rw[e,List.length_cons,hlk,hfl];omega,?_⟩
    rw[e]
    refine X26 (gp:=gp) hg mj (l++P) (v+P.length) hy hyk hm hmb2 (Xbf (2*(d - 2))++hdj) (Xbf (2*(d - 2))) hhd2 (by omega) hPb ?_
    rw[Jj8 d hd2]
    have:=ih (d:=d+1) (met:=mj) (l:=l++P++[Xbf (2*(d - 2))++hdj++opB (Xaj (anc g i'))]) (v:=v+P.length+1) (by omega) hy hyk h1 (by omega) (by omega) (by rw[List.length_append,List.length_append,List.length_singleton];omega) (by omega)
    rw[<- h1.len] at this
    have e6:l++P++(Xbf (2*(d - 2))++hdj++opB (Xaj (anc g i')))::lnK (2*(d+1 - 2)) (Xar y.k y.keys q1.length) q1=l++P++[Xbf (2*(d - 2))++hdj++opB (Xaj (anc g i'))]++lnK (2*(d+1 - 2)) (Xar y.k y.keys q1.length) q1:=by simp
    rw[e6,List.length_cons,show v+P.length+((lnK (2*(d+1 - 2)) (Xar y.k y.keys q1.length) q1).length+1)=v+P.length+1+(lnK (2*(d+1 - 2)) (Xar y.k y.keys q1.length) q1).length by omega]
    exact this
  obtain⟨mj',hrest,hml',hlt,ck⟩:=key
  have hik:inK .i64 ((j:Int)+1):=Xaw (by omega)
  have z1:(((bT (Xbf (2*(d - 2)))).size+#[(45:UInt8)].size:Nat):Int)<=9223372036854775807:=by rw[Xa2];simp only[List.size_toArray,List.length_cons,List.length_nil];omega
  rcases Xgk hg hx with ⟨_,hk0,_⟩|⟨h0,_⟩|⟨h0,hkk,hka,_⟩
  ·exact absurd hk0 hk
  ·have hde:hdj=[45]:=by
    unfold Xar at hhj
    rw[if_pos h0] at hhj
    exact List.eq_of_mem_replicate (List.mem_of_getElem? hhj)
   have e7:(x.k==2)=false:=by rw[h0];rfl
   have ed:bT (Xbf (2*(d - 2)))++(⟨#[45]⟩:ByteArray)=bT (Xbf (2*(d - 2))++hdj):=by rw[hde];exact Xcv _ [45]
   repeat' first|refine Kn rfl ?_|(refine Ka ?_;simp only[e7,ed,z1,go_sem])|refine Kf ?_|refine⟨_,⟨Kq _,(Xab hcj),rfl⟩,Kg ?_⟩|(apply Kp<;>intro _<;>try (exfalso;omega))
   all_goals
    refine Or.inr (Or.inr ⟨[0,1,2],.tup [],Xmo g mj' (l++(P++lnT (2*(d - 2)) hdj tj)) (v+(P++lnT (2*(d - 2)) hdj tj).length),(by simp only[Xay,Xcl,rnV,rnA,Xcx,rn0,Xcw,Xbo,Xcm,rnC,Xak,List.isEmpty_nil,reduceCtorEq,↓reduceIte,Qa,Qb,Qc,Qd,Qe,Qf,Qg,Qh,Qi,Qj,Qk,Ql,Qm,Qn,Qo,Qp,Qq,Qr];simp only[go_sem];exact⟨Y2f,ck⟩),Kg ?_⟩)
    simp only[bkO,bkC]
    simp only[go_sem]
    repeat' first|refine Kn rfl ?_|(refine Ka ?_;simp only[go_sem])|refine Kf ?_|refine⟨hik,?_⟩|(apply Kp<;>intro _<;>try (exfalso;omega))
    refine Kt (fr 63 [(0,.one (.ptr 0 0)),(1,vi i),(2,vs (bT (Xbf (2*(d - 2))))),(6,.one (.ptr 3 0)),(7,vi ((j+1:Nat):Int))]) ?_
    refine Ku 4 ?_
    simp only[go_sem]
    exact Kl ⟨x.kids.length - (j+1),by omega,j+1,mj',P++lnT (2*(d - 2)) hdj tj,by omega,rfl,hrest,hsn.symm,by rw[List.length_append];omega,hml',rfl⟩
  ·obtain⟨yj,hyj⟩:=Xaf (l:=x.keys) (i:=j) (by omega)
   have hde:hdj=scB yj++[58]:=by
    unfold Xar at hhj
    rw[if_neg (by omega),List.getElem?_map,hyj] at hhj
    exact (Option.some.inj hhj).symm
   have e7:(x.k==2)=true:=by rw[h0];rfl
   have hym:=List.mem_of_getElem? hyj
   have c6:=Jd1 (gp:=gp) yj (List.all_eq_true.1 hka yj hym) (hshx.2.2.2 yj hym)
   have ed:bT (Xbf (2*(d - 2)))++bT (scB yj)++(⟨#[58]⟩:ByteArray)=bT (Xbf (2*(d - 2))++hdj):=by rw[hde,show (⟨#[58]⟩:ByteArray)=bT [58] from rfl,Xcv,Xcv,List.append_assoc]
   have hsl:(scB yj).length<=1700001:=by rw[hde,List.length_append] at hhdj;omega
   have z2:(((bT (Xbf (2*(d - 2)))).size+(bT (scB yj)).size:Nat):Int)<=9223372036854775807:=by rw[Xa2,Xa2];omega
   have z3:(((bT (Xbf (2*(d - 2)))).size+(bT (scB yj)).size+#[(58:UInt8)].size:Nat):Int)<=9223372036854775807:=by rw[Xa2,Xa2];simp only[List.size_toArray,List.length_cons,List.length_nil];omega
   repeat' first|refine Kn rfl ?_|(refine Ka ?_;simp only[e7,ed,z1,z2,z3,go_sem])|refine Kf ?_|refine⟨_,c6,Kg ?_⟩|refine⟨_,⟨c6,rfl⟩,Kg ?_⟩|refine⟨_,⟨Kq _,(Xab hcj),rfl⟩,Kg ?_⟩|refine⟨_,⟨Kq _,(Xab hyj),rfl⟩,Kg ?_⟩|(apply Kp<;>intro _<;>try (exfalso;omega))
   all_goals
    refine Or.inr (Or.inr ⟨[0,1,2],.tup [],Xmo g mj' (l++(P++lnT (2*(d - 2)) hdj tj)) (v+(P++lnT (2*(d - 2)) hdj tj).length),(by simp only[Xay,Xcl,rnV,rnA,Xcx,rn0,Xcw,Xbo,Xcm,rnC,Xak,List.isEmpty_nil,reduceCtorEq,↓reduceIte,Qa,Qb,Qc,Qd,Qe,Qf,Qg,Qh,Qi,Qj,Qk,Ql,Qm,Qn,Qo,Qp,Qq,Qr];simp only[go_sem];exact⟨Y2f,ck⟩),Kg ?_⟩)
    simp only[bkO,bkC]
    simp only[go_sem]
    repeat' first|refine Kn rfl ?_|(refine Ka ?_;simp only[go_sem])|refine Kf ?_|refine⟨hik,?_⟩|(apply Kp<;>intro _<;>try (exfalso;omega))
    refine Kt (fr 63 [(0,.one (.ptr 0 0)),(1,vi i),(2,vs (bT (Xbf (2*(d - 2))))),(6,.one (.ptr 3 0)),(7,vi ((j+1:Nat):Int))]) ?_
    refine Ku 4 ?_
    simp only[go_sem]
    exact Kl ⟨x.kids.length - (j+1),by omega,j+1,mj',P++lnT (2*(d - 2)) hdj tj,by omega,rfl,hrest,hsn.symm,by rw[List.length_append];omega,hml',rfl⟩
end Go.Fw.L07
