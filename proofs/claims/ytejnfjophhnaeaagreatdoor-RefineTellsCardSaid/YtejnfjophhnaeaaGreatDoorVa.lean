/- Chapter 4,plain: a sign by definition,and as Go's library reads it. -/
import Derived.Lib.DecodeN
import Derived.Test.YtejnfjophhnaeaaGreatDoorLc
import Derived.Test.YtejnfjophhnaeaaGreatDoorL07L04Mini
set_option linter.all false
namespace Go.Fw.L07
open Go
def Xkz (b0:Nat):Nat:=if b0 >= 240 then 4 else if b0 >= 224 then 3 else if b0 >= 192 then 2 else 1
def Xs5 (b0 b1 b2 b3:Nat):Nat :=
 if b0 >= 240 then (((b0 - 240)*64+b1 % 64)*64+b2 % 64)*64+b3 % 64
 else if b0 >= 224 then ((b0 - 224)*64+b1 % 64)*64+b2 % 64
 else if b0 >= 192 then (b0 - 192)*64+b1 % 64 else b0
def Xhn (v:Nat):Bool:=decide (v<=1114111/\(v < 55296\/v > 57343))
def Xfn (v k b0 b1 b2 b3:Nat):Bool :=
 if v < 128 then decide (k=1/\b0=v)
 else if v < 2048 then decide (k=2/\b0=192+v / 64/\b1=128+v % 64)
 else if v < 65536 then decide (k=3/\b0=224+v / 4096/\b1=128+v / 64 % 64/\b2=128+v % 64)
 else decide (k=4/\b0=240+v / 262144/\b1=128+v / 4096 % 64/\b2=128+v / 64 % 64/\b3=128+v % 64)
def Yg8 (n b0 b1 b2 b3:Nat):Nat × Nat :=
 if Xkz b0 > n then (0,0)
 else if Xhn (Xs5 b0 b1 b2 b3) && Xfn (Xs5 b0 b1 b2 b3) (Xkz b0) b0 b1 b2 b3 then (Xs5 b0 b1 b2 b3,Xkz b0) else (0,0)
set_option maxHeartbeats 4000000 in
theorem Ybz {n b0 b1 b2 b3:Nat} (hn:1<=n) (h0:b0 < 256) (h1:b1 < 256) (h2:b2 < 256) (h3:b3 < 256) :
  Yg8 n b0 b1 b2 b3=if (Lib.decodeN n b0 b1 b2 b3).1=65533/\(Lib.decodeN n b0 b1 b2 b3).2=1 then (0,0) else Lib.decodeN n b0 b1 b2 b3:=by
 by_cases c1:b0 < 128
 ·have e:Lib.decodeN n b0 b1 b2 b3=(b0,1):=by unfold Lib.decodeN;rw[if_pos c1]
  have k:Xkz b0=1:=by unfold Xkz;rw[if_neg (by omega),if_neg (by omega),if_neg (by omega)]
  have v:Xs5 b0 b1 b2 b3=b0:=by unfold Xs5;rw[if_neg (by omega),if_neg (by omega),if_neg (by omega)]
  have s:Xhn b0=true:=decide_eq_true (by omega)
  have b:Xfn b0 1 b0 b1 b2 b3=true:=by unfold Xfn;rw[if_pos c1];simp
  unfold Yg8
  rw[e,k,v,s,b,if_neg (show ¬ 1 > n by omega)]
  have:¬ b0=65533:=by omega
  simp[this]
 ·by_cases c2:b0 < 192
  ·have e:Lib.decodeN n b0 b1 b2 b3=(65533,1):=by
    unfold Lib.decodeN
    rw[if_neg c1,if_neg (by omega),if_neg (by omega),if_neg (by omega)]
   have k:Xkz b0=1:=by unfold Xkz;rw[if_neg (by omega),if_neg (by omega),if_neg (by omega)]
   have v:Xs5 b0 b1 b2 b3=b0:=by unfold Xs5;rw[if_neg (by omega),if_neg (by omega),if_neg (by omega)]
   have b:Xfn b0 1 b0 b1 b2 b3=false:=by unfold Xfn;rw[if_neg c1,if_pos (by omega)];simp
   unfold Yg8
   rw[e,k,v,b,if_neg (by omega)]
   simp
  ·by_cases c3:b0 < 224
   ·have k:Xkz b0=2:=by unfold Xkz;rw[if_neg (by omega),if_neg (by omega),if_pos (by omega)]
    have v:Xs5 b0 b1 b2 b3=(b0 - 192)*64+b1 % 64:=by unfold Xs5;rw[if_neg (by omega),if_neg (by omega),if_pos (by omega)]
    unfold Yg8
    rw[k,v]
    unfold Lib.decodeN Xhn Xfn
    grind
   ·by_cases c4:b0 < 240
    ·have k:Xkz b0=3:=by unfold Xkz;rw[if_neg (by omega),if_pos (by omega)]
     have v:Xs5 b0 b1 b2 b3=((b0 - 224)*64+b1 % 64)*64+b2 % 64:=by unfold Xs5;rw[if_neg (by omega),if_pos (by omega)]
     unfold Yg8
     rw[k,v]
     unfold Lib.decodeN Xhn Xfn
     grind
    ·have k:Xkz b0=4:=by unfold Xkz;rw[if_pos (by omega)]
     have v:Xs5 b0 b1 b2 b3=(((b0 - 240)*64+b1 % 64)*64+b2 % 64)*64+b3 % 64:=by unfold Xs5;rw[if_pos (by omega)]
     unfold Yg8
     rw[k,v]
     generalize hV:(((b0 - 240)*64+b1 % 64)*64+b2 % 64)*64+b3 % 64=V
     by_cases hC:n >= 4/\b0 < 248/\b1 / 64=2/\b2 / 64=2/\b3 / 64=2/\65536<=V/\V<=1114111
     ·have e:Lib.decodeN n b0 b1 b2 b3=(V,4):=by
       unfold Lib.decodeN
       rw[if_neg c1,if_neg (by omega),if_neg (by omega),if_pos (by omega),if_pos (by omega)]
       exact Prod.ext (by dsimp only;omega) rfl
      have g1:Xhn V=true:=decide_eq_true (by omega)
      have g2:Xfn V 4 b0 b1 b2 b3=true:=by
       unfold Xfn
       rw[if_neg (by omega),if_neg (by omega),if_neg (by omega)]
       exact decide_eq_true (by omega)
      rw[e,g1,g2,if_neg (show ¬ 4 > n by omega)]
      have:¬ V=65533:=by omega
      simp
     ·have e:Lib.decodeN n b0 b1 b2 b3=(65533,1):=by
       unfold Lib.decodeN
       rw[if_neg c1,if_neg (by omega),if_neg (by omega)]
       split
       ·rw[if_neg (by omega)]
       ·rfl
      rw[e]
      have:(if (65533,1).1=65533/\(65533,1).2=1 then ((0,0):Nat × Nat) else (65533,1))=(0,0):=by decide
      rw[this]
      by_cases hn4:4 > n
      ·rw[if_pos hn4]
      ·rw[if_neg hn4,if_neg]
       intro hb
       rw[Bool.and_eq_true] at hb
       obtain⟨g1,g2⟩:=hb
       have g1:=of_decide_eq_true g1
       unfold Xfn at g2
       split at g2
       ·have:=of_decide_eq_true g2;omega
       ·split at g2
        ·have:=of_decide_eq_true g2;omega
        ·split at g2
         ·have:=of_decide_eq_true g2;omega
         ·have:=of_decide_eq_true g2;omega
end Go.Fw.L07
namespace Go.Fw.L07
open Go Go.Fw
open Go.Fw.Sh renaming intro->Kg
open Go.Fw renaming Xhi->Ka,Xef->Ka,Xed->Kb,Xhm->Kv,Xee->Ke,Xeg->Kf,Xhk->Kh,Xhj->Ki,Xdf->Kt,Xdd->Kl,Xe9->Km,Gx->Kn
open Int renaming natCast_nonneg->Kq
open And renaming intro->Kp
open Go.Proofs.Tryz renaming prog->QP
open Go.Fw.V.one renaming injEq->Qs
open Go.Fw.V.agg renaming injEq->Qt
open Go.Fw.V.tup renaming injEq->Qu
open Go.Fw.A.d renaming injEq->Qv
open Go.Fw.D.bool renaming injEq->Qw
open Go.Fw.D.int renaming injEq->Qx
open Go.Fw.D.str renaming injEq->Qy
open Go.Fw.D.sl renaming injEq->Qz
open List.cons renaming injEq->Za
set_option maxRecDepth 4000
variable {gp:Xag}
def Xas (s:ByteArray) (i:Nat):Nat:=(s.get! i).toNat
theorem Xi9 (s:ByteArray) (i:Nat):Xas s i < 256:=(s.get! i).toNat_lt
theorem Xpa {s:ByteArray} {p:Nat} (h:p < s.size):s[p]?=some (s.get! p):=by
 rw[getElem?_pos s p h]
 congr 1
 unfold ByteArray.get!
 exact (getElem!_pos s.data p h).symm
theorem Xpb (a b:Nat):Int.tmod (a:Int) (b:Int)=((a % b:Nat):Int):=rfl
theorem Xpc (a b:Nat):Int.tdiv (a:Int) (b:Int)=((a / b:Nat):Int):=rfl
theorem Xmh {n:Nat} (h:n < 256):(UInt8.ofNat n).toNat=n:=by simp;omega
theorem Xey (b:UInt8):inK .i64 (b.toNat:Int):=by
 have:=b.toNat_lt
 unfold inK;simp[IntKind.min,IntKind.max,IntKind.signed,IntKind.bits];omega
def Xdy (v:Nat):List UInt8 :=
 if v < 128 then [UInt8.ofNat v]
 else if v < 2048 then [UInt8.ofNat (192+v / 64),UInt8.ofNat (128+v % 64)]
 else if v < 65536 then [UInt8.ofNat (224+v / 4096),UInt8.ofNat (128+v / 64 % 64),UInt8.ofNat (128+v % 64)]
 else [UInt8.ofNat (240+v / 262144),UInt8.ofNat (128+v / 4096 % 64),UInt8.ofNat (128+v / 64 % 64),UInt8.ofNat (128+v % 64)]
theorem Xyd (v:Nat) (hv:v<=1114111):Xam QP gp 178 [vi v] (vs ⟨(Xdy v).toArray⟩):=by
 refine Y8s ?_
 simp only[go_sem]
 have q1:Int.tdiv (v:Int) 64=((v / 64:Nat):Int):=Xpc v 64
 have q2:Int.tdiv (v:Int) 4096=((v / 4096:Nat):Int):=Xpc v 4096
 have q3:Int.tdiv (v:Int) 262144=((v / 262144:Nat):Int):=Xpc v 262144
 have m1:Int.tmod (v:Int) 64=((v % 64:Nat):Int):=Xpb v 64
 have m2:Int.tmod ((v / 64:Nat):Int) 64=((v / 64 % 64:Nat):Int):=Xpb (v / 64) 64
 have m3:Int.tmod ((v / 4096:Nat):Int) 64=((v / 4096 % 64:Nat):Int):=Xpb (v / 4096) 64
 repeat' first|refine Kn rfl ?_|((first|refine Ka ?_|refine Kb ?_|refine Kv ?_|refine Ke ?_);simp only[q1,q2,q3,m1,m2,m3,go_sem])|refine Kf ?_|refine Kg ?_|(apply Kp<;>intro _<;>try (exfalso;omega))|((first|refine Kh ?_|refine Ki rfl ?_);simp only[q1,q2,q3,m1,m2,m3,or_self,Qs,Qt,Qu,Qv,Qw,Qx,Qy,Qz,Za,go_sem])
 all_goals repeat' (refine Kp (by unfold inK;simp[IntKind.min,IntKind.max,IntKind.signed,IntKind.bits];omega) ?_)
 ·refine⟨[UInt8.ofNat v],⟨by simp,by simp[Xmh (show v < 256 by omega)];simp only[IntKind.wrap_u8];omega⟩,Kg ?_⟩
  repeat' first|refine Kn rfl ?_|((first|refine Ka ?_|refine Kb ?_|refine Kv ?_|refine Ke ?_);simp only[go_sem])|refine Kf ?_|refine Kg ?_|(apply Kp<;>intro _<;>try (exfalso;omega))|((first|refine Kh ?_|refine Ki rfl ?_);simp only[or_self,Qs,Qt,Qu,Qv,Qw,Qx,Qy,Qz,Za,go_sem])
  simp[Xdy,show v < 128 by omega]
 ·refine⟨[UInt8.ofNat (192+v / 64),UInt8.ofNat (128+v % 64)],⟨by simp,by simp only[List.map,Xmh (show 192+v / 64 < 256 by omega),Xmh (show 128+v % 64 < 256 by omega)];simp;simp only[IntKind.wrap_u8];omega⟩,Kg ?_⟩
  repeat' first|refine Kn rfl ?_|((first|refine Ka ?_|refine Kb ?_|refine Kv ?_|refine Ke ?_);simp only[go_sem])|refine Kf ?_|refine Kg ?_|(apply Kp<;>intro _<;>try (exfalso;omega))|((first|refine Kh ?_|refine Ki rfl ?_);simp only[or_self,Qs,Qt,Qu,Qv,Qw,Qx,Qy,Qz,Za,go_sem])
  simp[Xdy,show ¬ v < 128 by omega,show v < 2048 by omega]
 ·refine⟨[UInt8.ofNat (224+v / 4096),UInt8.ofNat (128+v / 64 % 64),UInt8.ofNat (128+v % 64)],⟨by simp,by simp only[List.map,Xmh (show 224+v / 4096 < 256 by omega),Xmh (show 128+v / 64 % 64 < 256 by omega),Xmh (show 128+v % 64 < 256 by omega)];simp;simp only[IntKind.wrap_u8];omega⟩,Kg ?_⟩
  repeat' first|refine Kn rfl ?_|((first|refine Ka ?_|refine Kb ?_|refine Kv ?_|refine Ke ?_);simp only[go_sem])|refine Kf ?_|refine Kg ?_|(apply Kp<;>intro _<;>try (exfalso;omega))|((first|refine Kh ?_|refine Ki rfl ?_);simp only[or_self,Qs,Qt,Qu,Qv,Qw,Qx,Qy,Qz,Za,go_sem])
  simp[Xdy,show ¬ v < 128 by omega,show ¬ v < 2048 by omega,show v < 65536 by omega]
 ·refine⟨[UInt8.ofNat (240+v / 262144),UInt8.ofNat (128+v / 4096 % 64),UInt8.ofNat (128+v / 64 % 64),UInt8.ofNat (128+v % 64)],⟨by simp,by simp only[List.map,Xmh (show 240+v / 262144 < 256 by omega),Xmh (show 128+v / 4096 % 64 < 256 by omega),Xmh (show 128+v / 64 % 64 < 256 by omega),Xmh (show 128+v % 64 < 256 by omega)];simp;simp only[IntKind.wrap_u8];omega⟩,Kg ?_⟩
  repeat' first|refine Kn rfl ?_|((first|refine Ka ?_|refine Kb ?_|refine Kv ?_|refine Ke ?_);simp only[go_sem])|refine Kf ?_|refine Kg ?_|(apply Kp<;>intro _<;>try (exfalso;omega))|((first|refine Kh ?_|refine Ki rfl ?_);simp only[or_self,Qs,Qt,Qu,Qv,Qw,Qx,Qy,Qz,Za,go_sem])
  simp[Xdy,show ¬ v < 128 by omega,show ¬ v < 2048 by omega,show ¬ v < 65536 by omega]
theorem Ynm (v:Nat):Xam QP gp 177 [vi v] (vb (Xhn v)):=by
 refine Y8l ?_
 simp only[go_sem]
 repeat' first|refine Kn rfl ?_|((first|refine Ka ?_|refine Kb ?_|refine Kv ?_|refine Ke ?_);simp only[go_sem])|refine Kf ?_|refine Kg ?_|(apply Kp<;>intro _<;>try (exfalso;omega))|((first|refine Kh ?_|refine Ki rfl ?_);simp only[or_self,Qs,Qt,Qu,Qv,Qw,Qx,Qy,Qz,Za,go_sem])
 all_goals (unfold Xhn;first|(simp;omega)|grind|trace_state)
def Xdw (Xne:Nat) (s:ByteArray) (p:Nat):Nat->Nat
 | 0=>Xne
 | i+1=>64*Xdw Xne s p i+Xas s (p+(i+1)) % 64
theorem Xmi {Xne:Nat} {s:ByteArray} {p:Nat} (hl:Xne < 256):∀ i,Xdw Xne s p i < 256*64 ^ i
 | 0=>by simpa [Xdw] using hl
 | i+1=>by
  have:=Xmi (s:=s) (p:=p) hl i
  simp only[Xdw,Nat.pow_succ]
  omega
def Xbc (b0:Nat):Nat:=if b0 >= 240 then b0 - 240 else if b0 >= 224 then b0 - 224 else if b0 >= 192 then b0 - 192 else b0
abbrev Xm3 (s:ByteArray) (p:Nat):Nat × Nat:=Yg8 (s.size - p) (Xas s p) (Xas s (p+1)) (Xas s (p+2)) (Xas s (p+3))
theorem Ynn (s:ByteArray) (p:Nat):Xs5 (Xas s p) (Xas s (p+1)) (Xas s (p+2)) (Xas s (p+3))=Xdw (Xbc (Xas s p)) s p (Xkz (Xas s p) - 1):=by
 unfold Xs5 Xbc Xkz
 split
 ·simp[Xdw];omega
 ·split
  ·simp[Xdw];omega
  ·split
   ·simp[Xdw];omega
   ·simp[Xdw]
theorem Y84 (s:ByteArray) (p k:Nat) (h:p+k<=s.size):(s.extract p (p+k)).data.toList=(List.range k).map fun i=>s.get! (p+i):=by
 have h':p+k<=s.data.size:=h
 rw[ByteArray.data_extract,Array.toList_extract,List.extract_eq_take_drop,Nat.add_sub_cancel_left]
 apply List.ext_getElem?
 intro i
 rw[List.getElem?_take,List.getElem?_map]
 by_cases hi:i < k
 ·rw[if_pos hi,List.getElem?_drop,List.getElem?_range hi]
  have hlt:p+i < s.data.toList.length:=by simp;omega
  rw[List.getElem?_eq_getElem hlt]
  simp[ByteArray.get!,getElem!_pos s.data (p+i) (by omega)]
 ·rw[if_neg hi,List.getElem?_eq_none (by simp;omega)];rfl
theorem Xm7 {n:Nat} {b:UInt8} (h:n < 256):UInt8.ofNat n=b↔b.toNat=n:=by
 constructor
 ·rintro rfl;exact Xmh h
 ·intro e;rw[<- e];simp
theorem Xk0 (s:ByteArray) (p k v:Nat) (hk:1<=k/\k<=4) (h:p+k<=s.size) (hv:v<=1114111) :
  decide ((⟨(Xdy v).toArray⟩:ByteArray)=s.extract p (p+k))=Xfn v k (Xas s p) (Xas s (p+1)) (Xas s (p+2)) (Xas s (p+3)):=by
 have e:((⟨(Xdy v).toArray⟩:ByteArray)=s.extract p (p+k))↔Xdy v=(List.range k).map fun i=>s.get! (p+i):=by
  rw[<- Y84 s p k h]
  constructor
  ·intro h;rw[<- h]
  ·intro h;apply ByteArray.ext;apply Array.ext';simpa using h
 have:k=1\/k=2\/k=3\/k=4:=by omega
 have e2:decide ((⟨(Xdy v).toArray⟩:ByteArray)=s.extract p (p+k))=decide (Xdy v=(List.range k).map fun i=>s.get! (p+i)):=decide_eq_decide.2 e
 rw[e2]
 have r1:((List.range 1).map fun i=>s.get! (p+i))=[s.get! p]:=rfl
 have r2:((List.range 2).map fun i=>s.get! (p+i))=[s.get! p,s.get! (p+1)]:=rfl
 have r3:((List.range 3).map fun i=>s.get! (p+i))=[s.get! p,s.get! (p+1),s.get! (p+2)]:=rfl
 have r4:((List.range 4).map fun i=>s.get! (p+i))=[s.get! p,s.get! (p+1),s.get! (p+2),s.get! (p+3)]:=rfl
 unfold Xfn Xas
 by_cases c1:v < 128
 ·have eb:Xdy v=[UInt8.ofNat v]:=by unfold Xdy;rw[if_pos c1]
  rw[eb,if_pos c1,decide_eq_decide]
  have u:=fun b=>Xm7 (b:=b) (show v < 256 by omega)
  rcases this with rfl|rfl|rfl|rfl <;> simp[r1,r2,r3,r4,u]
 ·rw[if_neg c1]
  by_cases c2:v < 2048
  ·have eb:Xdy v=[UInt8.ofNat (192+v / 64),UInt8.ofNat (128+v % 64)]:=by unfold Xdy;rw[if_neg c1,if_pos c2]
   rw[eb,if_pos c2,decide_eq_decide]
   have u:=fun b=>Xm7 (b:=b) (show 192+v / 64 < 256 by omega)
   have u2:=fun b=>Xm7 (b:=b) (show 128+v % 64 < 256 by omega)
   rcases this with rfl|rfl|rfl|rfl <;> simp only[r1,r2,r3,r4,List.cons.injEq,u,u2,and_true,and_false,false_and,true_and,reduceCtorEq] <;> simp
  ·rw[if_neg c2]
   by_cases c3:v < 65536
   ·have eb:Xdy v=[UInt8.ofNat (224+v / 4096),UInt8.ofNat (128+v / 64 % 64),UInt8.ofNat (128+v % 64)]:=by unfold Xdy;rw[if_neg c1,if_neg c2,if_pos c3]
    rw[eb,if_pos c3,decide_eq_decide]
    have u:=fun b=>Xm7 (b:=b) (show 224+v / 4096 < 256 by omega)
    have u2:=fun b=>Xm7 (b:=b) (show 128+v / 64 % 64 < 256 by omega)
    have u3:=fun b=>Xm7 (b:=b) (show 128+v % 64 < 256 by omega)
    rcases this with rfl|rfl|rfl|rfl <;> simp only[r1,r2,r3,r4,List.cons.injEq,u,u2,u3,and_true,and_false,false_and,true_and,reduceCtorEq] <;> simp
   ·have eb:Xdy v=[UInt8.ofNat (240+v / 262144),UInt8.ofNat (128+v / 4096 % 64),UInt8.ofNat (128+v / 64 % 64),UInt8.ofNat (128+v % 64)]:=by unfold Xdy;rw[if_neg c1,if_neg c2,if_neg c3]
    rw[eb,if_neg c3,decide_eq_decide]
    have u:=fun b=>Xm7 (b:=b) (show 240+v / 262144 < 256 by omega)
    have u2:=fun b=>Xm7 (b:=b) (show 128+v / 4096 % 64 < 256 by omega)
    have u3:=fun b=>Xm7 (b:=b) (show 128+v / 64 % 64 < 256 by omega)
    have u4:=fun b=>Xm7 (b:=b) (show 128+v % 64 < 256 by omega)
    rcases this with rfl|rfl|rfl|rfl <;> simp only[r1,r2,r3,r4,List.cons.injEq,u,u2,u3,u4,and_true,and_false,false_and,true_and,reduceCtorEq] <;> simp
theorem Xye {s:ByteArray} {p k Xne:Nat} (hk:Xkz (Xas s p)=k) (hl:Xbc (Xas s p)=Xne):Xm3 s p=if k > s.size - p then (0,0)
  else if Xhn (Xdw Xne s p (k - 1)) && Xfn (Xdw Xne s p (k - 1)) k (Xas s p) (Xas s (p+1)) (Xas s (p+2)) (Xas s (p+3)) then (Xdw Xne s p (k - 1),k) else (0,0):=by
 subst hk hl
 unfold Xm3 Yg8
 rw[Ynn]
set_option maxHeartbeats 1000000 in
theorem Wve (s:ByteArray) (p:Nat) (hp:p < s.size) (hs:s.size < Xab):Xam QP gp 160 [vs s,vi p] (.tup [vi (Xm3 s p).1,vi (Xm3 s p).2]):=by
 refine Y7l ?_
 simp only[go_sem]
 have hb0:=Xpa hp
 have hlt:=Xi9 s p
 have hbn:Xas s p=(s.get! p).toNat:=rfl
 unfold Xab at hs
 have k1:∀ a:Nat,a<=256->inK .i64 ((s.get! p).toNat - a:Int):=fun a ha=>by
  unfold inK;simp[IntKind.min,IntKind.max,IntKind.signed,IntKind.bits];omega
 have k2:=k1 240 (by omega)
 have k3:=k1 224 (by omega)
 have k4:=k1 192 (by omega)
 have k5:inK .i64 ((s.size:Int) - p):=by unfold inK;simp[IntKind.min,IntKind.max,IntKind.signed,IntKind.bits];omega
 by_cases q1:(s.get! p).toNat >= 240
 ·have d1:decide (((s.get! p).toNat:Int) >= 240)=true:=decide_eq_true (by omega)
  have hk:Xkz (Xas s p)=4:=by unfold Xkz;rw[hbn];rw[if_pos (by omega)]
  have hl:Xbc (Xas s p)=(s.get! p).toNat - 240:=by unfold Xbc;rw[hbn];rw[if_pos (by omega)]
  have h1:=Xye hk rfl
  have kl:inK .i64 ((Xbc (Xas s p):Nat):Int):=by unfold inK;simp[IntKind.min,IntKind.max,IntKind.signed,IntKind.bits];omega
  have hacc:=fun i=>Xmi (s:=s) (p:=p) (show Xbc (Xas s p) < 256 by omega) i
  have hle:((s.get! p).toNat:Int) - 240=((Xbc (Xas s p):Nat):Int):=by rw[hl];omega
  by_cases hfit:4 > s.size - p
  ·rw[if_pos hfit] at h1
   rw[h1]
   repeat' first|refine Kn rfl ?_|((first|refine Ka ?_|refine Kb ?_|refine Kv ?_|refine Ke ?_);simp only[d1,hle,go_sem])|refine Kf ?_|refine Kg ?_|refine⟨p,_,⟨rfl,hb0⟩,Kg ?_⟩|refine⟨Xey _,?_⟩|refine⟨kl,?_⟩|refine⟨k2,?_⟩|refine⟨k3,?_⟩|refine⟨k4,?_⟩|refine⟨k5,?_⟩|(apply Kp<;>intro _<;>try (exfalso;omega))|((first|refine Kh ?_|refine Ki rfl ?_);simp only[d1,hle,or_self,Qs,Qt,Qu,Qv,Qw,Qx,Qy,Qz,Za,go_sem])
   all_goals first|(exfalso;omega)|rfl|trace_state
  ·rw[if_neg hfit] at h1
   repeat' first|refine Kn rfl ?_|((first|refine Ka ?_|refine Kb ?_|refine Kv ?_|refine Ke ?_);simp only[d1,hle,go_sem])|refine Kf ?_|refine Kg ?_|refine⟨p,_,⟨rfl,hb0⟩,Kg ?_⟩|refine⟨Xey _,?_⟩|refine⟨kl,?_⟩|refine⟨k2,?_⟩|refine⟨k3,?_⟩|refine⟨k4,?_⟩|refine⟨k5,?_⟩|(apply Kp<;>intro _<;>try (exfalso;omega))|((first|refine Kh ?_|refine Ki rfl ?_);simp only[d1,hle,or_self,Qs,Qt,Qu,Qv,Qw,Qx,Qy,Qz,Za,go_sem])
   all_goals first|(exfalso;omega)|skip
   refine Kt (fr 62 [(0,vs s),(1,vi p),(6,vi (Xdw (Xbc (Xas s p)) s p (0:Nat))),(7,vi 4),(8,.one (.d (.int .i64 ((0:Nat)+1))))]) ?_
   refine Km (fun mz sz=>∃ i:Nat,i<=4 - 1/\mz=4 - 1 - i/\(0<=i)/\sz=⟨fr 62 [(0,vs s),(1,vi p),(6,vi (Xdw (Xbc (Xas s p)) s p i)),(7,vi 4),(8,.one (.d (.int .i64 (i+1))))],[]⟩) (4 - 1) ⟨0,Nat.zero_le _,(Nat.sub_zero _).symm,?_,rfl⟩ ?_
   ·exact Nat.zero_le _
   rintro _ _ ⟨i,hi,rfl,-,rfl⟩
   simp only[go_sem]
   by_cases hil:i < 4 - 1
   ·have hb:=Xpa (s:=s) (p:=p+(i+1)) (by omega)
    have hv:64*((Xdw (Xbc (Xas s p)) s p i:Nat):Int)+Int.tmod ((s.get! (p+(i+1))).toNat:Int) 64=((Xdw (Xbc (Xas s p)) s p (i+1):Nat):Int):=by
     rw[show Int.tmod ((s.get! (p+(i+1))).toNat:Int) 64=(((s.get! (p+(i+1))).toNat % 64:Nat):Int) from rfl]
     simp only[Xdw,Xas];omega
    have ha:=hacc i
    have hp4:64 ^ i<=64 ^ 3:=Nat.pow_le_pow_right (by omega) (by omega)
    have ha':Xdw (Xbc (Xas s p)) s p i<=256*64 ^ 3:=by omega
    have g1:inK .i64 (64*((Xdw (Xbc (Xas s p)) s p i:Nat):Int)):=by unfold inK;simp[IntKind.min,IntKind.max,IntKind.signed,IntKind.bits];omega
    have g2:inK .i64 ((p:Int)+((i:Int)+1)):=by unfold inK;simp[IntKind.min,IntKind.max,IntKind.signed,IntKind.bits];omega
    have ha2:=hacc (i+1)
    have hp5:64 ^ (i+1)<=64 ^ 3:=Nat.pow_le_pow_right (by omega) (by omega)
    have g3:inK .i64 ((Xdw (Xbc (Xas s p)) s p (i+1):Nat):Int):=by unfold inK;simp[IntKind.min,IntKind.max,IntKind.signed,IntKind.bits];omega
    have g4:inK .i64 ((i:Int)+1+1):=by unfold inK;simp[IntKind.min,IntKind.max,IntKind.signed,IntKind.bits];omega
    repeat' first|refine Kn rfl ?_|((first|refine Ka ?_|refine Kb ?_|refine Kv ?_|refine Ke ?_);simp only[hv,go_sem])|refine Kf ?_|refine Kg ?_|refine⟨p+(i+1),_,⟨by omega,hb⟩,Kg ?_⟩|refine⟨Xey _,?_⟩|refine⟨g1,?_⟩|refine⟨g2,?_⟩|refine⟨g3,?_⟩|refine⟨g4,?_⟩|(apply Kp<;>intro _<;>try (exfalso;omega))|((first|refine Kh ?_|refine Ki rfl ?_);simp only[hv,or_self,Qs,Qt,Qu,Qv,Qw,Qx,Qy,Qz,Za,go_sem])
    all_goals first|(exfalso;omega)|skip
    refine Kt (fr 62 [(0,vs s),(1,vi p),(6,vi (Xdw (Xbc (Xas s p)) s p (i+1))),(7,vi 4),(8,.one (.d (.int .i64 ((i+1)+1))))]) ?_
    refine Kl ⟨4 - 1 - (i+1),by omega,i+1,by omega,rfl,?_,rfl⟩
    exact Nat.zero_le _
   ·obtain rfl:4 - 1=i:=by omega
    have hs:=Ynm (gp:=gp) (Xdw (Xbc (Xas s p)) s p (4 - 1))
    by_cases hsg:Xhn (Xdw (Xbc (Xas s p)) s p (4 - 1))=true
    ·rw[hsg] at hs h1
     have hvm:Xdw (Xbc (Xas s p)) s p (4 - 1)<=1114111:=(of_decide_eq_true hsg).1
     have hbs:=Xyd (gp:=gp) _ hvm
     have hbe:=Xk0 s p 4 _ (by omega) (by omega) hvm
     have g5:inK .i64 ((p:Int)+4):=by unfold inK;simp[IntKind.min,IntKind.max,IntKind.signed,IntKind.bits];omega
     rw[Bool.true_and] at h1
     rw[h1,<- hbe]
     repeat' first|refine Kn rfl ?_|((first|refine Ka ?_|refine Kb ?_|refine Kv ?_|refine Ke ?_);simp only[go_sem])|refine Kf ?_|refine Kg ?_|refine⟨_,hs,Kg ?_⟩|refine⟨_,⟨hs,rfl⟩,Kg ?_⟩|refine⟨_,hbs,Kg ?_⟩|refine⟨_,⟨hbs,rfl⟩,Kg ?_⟩|refine⟨g5,?_⟩|refine⟨p,p+4,⟨rfl,by omega,by omega,by omega⟩,Kg ?_⟩|(apply Kp<;>intro _<;>try (exfalso;omega))|((first|refine Kh ?_|refine Ki rfl ?_);simp only[or_self,Qs,Qt,Qu,Qv,Qw,Qx,Qy,Qz,Za,go_sem])
     all_goals first|(exfalso;omega)|skip
     all_goals (rename_i hx;simp at hx;simp[hx])
    ·have hsf:Xhn (Xdw (Xbc (Xas s p)) s p (4 - 1))=false:=by simpa using hsg
     rw[hsf] at hs h1
     rw[Bool.false_and] at h1
     rw[h1]
     repeat' first|refine Kn rfl ?_|((first|refine Ka ?_|refine Kb ?_|refine Kv ?_|refine Ke ?_);simp only[go_sem])|refine Kf ?_|refine Kg ?_|refine⟨_,hs,Kg ?_⟩|refine⟨_,⟨hs,rfl⟩,Kg ?_⟩|(apply Kp<;>intro _<;>try (exfalso;omega))|((first|refine Kh ?_|refine Ki rfl ?_);simp only[or_self,Qs,Qt,Qu,Qv,Qw,Qx,Qy,Qz,Za,go_sem])
     all_goals first|(exfalso;omega)|rfl|trace_state
 ·by_cases q2:(s.get! p).toNat >= 224
  ·have d1:decide (((s.get! p).toNat:Int) >= 240)=false:=decide_eq_false (by omega)
   have d2:decide (((s.get! p).toNat:Int) >= 224)=true:=decide_eq_true (by omega)
   have hk:Xkz (Xas s p)=3:=by unfold Xkz;rw[hbn];rw[if_neg (by omega),if_pos (by omega)]
   have hl:Xbc (Xas s p)=(s.get! p).toNat - 224:=by unfold Xbc;rw[hbn];rw[if_neg (by omega),if_pos (by omega)]
   have h1:=Xye hk rfl
   have kl:inK .i64 ((Xbc (Xas s p):Nat):Int):=by unfold inK;simp[IntKind.min,IntKind.max,IntKind.signed,IntKind.bits];omega
   have hacc:=fun i=>Xmi (s:=s) (p:=p) (show Xbc (Xas s p) < 256 by omega) i
   have hle:((s.get! p).toNat:Int) - 224=((Xbc (Xas s p):Nat):Int):=by rw[hl];omega
   by_cases hfit:3 > s.size - p
   ·rw[if_pos hfit] at h1
    rw[h1]
    repeat' first|refine Kn rfl ?_|((first|refine Ka ?_|refine Kb ?_|refine Kv ?_|refine Ke ?_);simp only[d1,d2,hle,go_sem])|refine Kf ?_|refine Kg ?_|refine⟨p,_,⟨rfl,hb0⟩,Kg ?_⟩|refine⟨Xey _,?_⟩|refine⟨kl,?_⟩|refine⟨k2,?_⟩|refine⟨k3,?_⟩|refine⟨k4,?_⟩|refine⟨k5,?_⟩|(apply Kp<;>intro _<;>try (exfalso;omega))|((first|refine Kh ?_|refine Ki rfl ?_);simp only[d1,d2,hle,or_self,Qs,Qt,Qu,Qv,Qw,Qx,Qy,Qz,Za,go_sem])
    all_goals first|(exfalso;omega)|rfl|trace_state
   ·rw[if_neg hfit] at h1
    repeat' first|refine Kn rfl ?_|((first|refine Ka ?_|refine Kb ?_|refine Kv ?_|refine Ke ?_);simp only[d1,d2,hle,go_sem])|refine Kf ?_|refine Kg ?_|refine⟨p,_,⟨rfl,hb0⟩,Kg ?_⟩|refine⟨Xey _,?_⟩|refine⟨kl,?_⟩|refine⟨k2,?_⟩|refine⟨k3,?_⟩|refine⟨k4,?_⟩|refine⟨k5,?_⟩|(apply Kp<;>intro _<;>try (exfalso;omega))|((first|refine Kh ?_|refine Ki rfl ?_);simp only[d1,d2,hle,or_self,Qs,Qt,Qu,Qv,Qw,Qx,Qy,Qz,Za,go_sem])
    all_goals first|(exfalso;omega)|skip
    refine Kt (fr 62 [(0,vs s),(1,vi p),(6,vi (Xdw (Xbc (Xas s p)) s p (0:Nat))),(7,vi 3),(8,.one (.d (.int .i64 ((0:Nat)+1))))]) ?_
    refine Km (fun mz sz=>∃ i:Nat,i<=3 - 1/\mz=3 - 1 - i/\(0<=i)/\sz=⟨fr 62 [(0,vs s),(1,vi p),(6,vi (Xdw (Xbc (Xas s p)) s p i)),(7,vi 3),(8,.one (.d (.int .i64 (i+1))))],[]⟩) (3 - 1) ⟨0,Nat.zero_le _,(Nat.sub_zero _).symm,?_,rfl⟩ ?_
    ·exact Nat.zero_le _
    rintro _ _ ⟨i,hi,rfl,-,rfl⟩
    simp only[go_sem]
    by_cases hil:i < 3 - 1
    ·have hb:=Xpa (s:=s) (p:=p+(i+1)) (by omega)
     have hv:64*((Xdw (Xbc (Xas s p)) s p i:Nat):Int)+Int.tmod ((s.get! (p+(i+1))).toNat:Int) 64=((Xdw (Xbc (Xas s p)) s p (i+1):Nat):Int):=by
      rw[show Int.tmod ((s.get! (p+(i+1))).toNat:Int) 64=(((s.get! (p+(i+1))).toNat % 64:Nat):Int) from rfl]
      simp only[Xdw,Xas];omega
     have ha:=hacc i
     have hp4:64 ^ i<=64 ^ 3:=Nat.pow_le_pow_right (by omega) (by omega)
     have ha':Xdw (Xbc (Xas s p)) s p i<=256*64 ^ 3:=by omega
     have g1:inK .i64 (64*((Xdw (Xbc (Xas s p)) s p i:Nat):Int)):=by unfold inK;simp[IntKind.min,IntKind.max,IntKind.signed,IntKind.bits];omega
     have g2:inK .i64 ((p:Int)+((i:Int)+1)):=by unfold inK;simp[IntKind.min,IntKind.max,IntKind.signed,IntKind.bits];omega
     have ha2:=hacc (i+1)
     have hp5:64 ^ (i+1)<=64 ^ 3:=Nat.pow_le_pow_right (by omega) (by omega)
     have g3:inK .i64 ((Xdw (Xbc (Xas s p)) s p (i+1):Nat):Int):=by unfold inK;simp[IntKind.min,IntKind.max,IntKind.signed,IntKind.bits];omega
     have g4:inK .i64 ((i:Int)+1+1):=by unfold inK;simp[IntKind.min,IntKind.max,IntKind.signed,IntKind.bits];omega
     repeat' first|refine Kn rfl ?_|((first|refine Ka ?_|refine Kb ?_|refine Kv ?_|refine Ke ?_);simp only[hv,go_sem])|refine Kf ?_|refine Kg ?_|refine⟨p+(i+1),_,⟨by omega,hb⟩,Kg ?_⟩|refine⟨Xey _,?_⟩|refine⟨g1,?_⟩|refine⟨g2,?_⟩|refine⟨g3,?_⟩|refine⟨g4,?_⟩|(apply Kp<;>intro _<;>try (exfalso;omega))|((first|refine Kh ?_|refine Ki rfl ?_);simp only[hv,or_self,Qs,Qt,Qu,Qv,Qw,Qx,Qy,Qz,Za,go_sem])
     all_goals first|(exfalso;omega)|skip
     refine Kt (fr 62 [(0,vs s),(1,vi p),(6,vi (Xdw (Xbc (Xas s p)) s p (i+1))),(7,vi 3),(8,.one (.d (.int .i64 ((i+1)+1))))]) ?_
     refine Kl ⟨3 - 1 - (i+1),by omega,i+1,by omega,rfl,?_,rfl⟩
     exact Nat.zero_le _
    ·obtain rfl:3 - 1=i:=by omega
     have hs:=Ynm (gp:=gp) (Xdw (Xbc (Xas s p)) s p (3 - 1))
     by_cases hsg:Xhn (Xdw (Xbc (Xas s p)) s p (3 - 1))=true
     ·rw[hsg] at hs h1
      have hvm:Xdw (Xbc (Xas s p)) s p (3 - 1)<=1114111:=(of_decide_eq_true hsg).1
      have hbs:=Xyd (gp:=gp) _ hvm
      have hbe:=Xk0 s p 3 _ (by omega) (by omega) hvm
      have g5:inK .i64 ((p:Int)+3):=by unfold inK;simp[IntKind.min,IntKind.max,IntKind.signed,IntKind.bits];omega
      rw[Bool.true_and] at h1
      rw[h1,<- hbe]
      repeat' first|refine Kn rfl ?_|((first|refine Ka ?_|refine Kb ?_|refine Kv ?_|refine Ke ?_);simp only[go_sem])|refine Kf ?_|refine Kg ?_|refine⟨_,hs,Kg ?_⟩|refine⟨_,⟨hs,rfl⟩,Kg ?_⟩|refine⟨_,hbs,Kg ?_⟩|refine⟨_,⟨hbs,rfl⟩,Kg ?_⟩|refine⟨g5,?_⟩|refine⟨p,p+3,⟨rfl,by omega,by omega,by omega⟩,Kg ?_⟩|(apply Kp<;>intro _<;>try (exfalso;omega))|((first|refine Kh ?_|refine Ki rfl ?_);simp only[or_self,Qs,Qt,Qu,Qv,Qw,Qx,Qy,Qz,Za,go_sem])
      all_goals first|(exfalso;omega)|skip
      all_goals (rename_i hx;simp at hx;simp[hx])
     ·have hsf:Xhn (Xdw (Xbc (Xas s p)) s p (3 - 1))=false:=by simpa using hsg
      rw[hsf] at hs h1
      rw[Bool.false_and] at h1
      rw[h1]
      repeat' first|refine Kn rfl ?_|((first|refine Ka ?_|refine Kb ?_|refine Kv ?_|refine Ke ?_);simp only[go_sem])|refine Kf ?_|refine Kg ?_|refine⟨_,hs,Kg ?_⟩|refine⟨_,⟨hs,rfl⟩,Kg ?_⟩|(apply Kp<;>intro _<;>try (exfalso;omega))|((first|refine Kh ?_|refine Ki rfl ?_);simp only[or_self,Qs,Qt,Qu,Qv,Qw,Qx,Qy,Qz,Za,go_sem])
      all_goals first|(exfalso;omega)|rfl|trace_state
  ·by_cases q3:(s.get! p).toNat >= 192
   ·have d1:decide (((s.get! p).toNat:Int) >= 240)=false:=decide_eq_false (by omega)
    have d2:decide (((s.get! p).toNat:Int) >= 224)=false:=decide_eq_false (by omega)
    have d3:decide (((s.get! p).toNat:Int) >= 192)=true:=decide_eq_true (by omega)
    have hk:Xkz (Xas s p)=2:=by unfold Xkz;rw[hbn];rw[if_neg (by omega),if_neg (by omega),if_pos (by omega)]
    have hl:Xbc (Xas s p)=(s.get! p).toNat - 192:=by unfold Xbc;rw[hbn];rw[if_neg (by omega),if_neg (by omega),if_pos (by omega)]
    have h1:=Xye hk rfl
    have kl:inK .i64 ((Xbc (Xas s p):Nat):Int):=by unfold inK;simp[IntKind.min,IntKind.max,IntKind.signed,IntKind.bits];omega
    have hacc:=fun i=>Xmi (s:=s) (p:=p) (show Xbc (Xas s p) < 256 by omega) i
    have hle:((s.get! p).toNat:Int) - 192=((Xbc (Xas s p):Nat):Int):=by rw[hl];omega
    by_cases hfit:2 > s.size - p
    ·rw[if_pos hfit] at h1
     rw[h1]
     repeat' first|refine Kn rfl ?_|((first|refine Ka ?_|refine Kb ?_|refine Kv ?_|refine Ke ?_);simp only[d1,d2,d3,hle,go_sem])|refine Kf ?_|refine Kg ?_|refine⟨p,_,⟨rfl,hb0⟩,Kg ?_⟩|refine⟨Xey _,?_⟩|refine⟨kl,?_⟩|refine⟨k2,?_⟩|refine⟨k3,?_⟩|refine⟨k4,?_⟩|refine⟨k5,?_⟩|(apply Kp<;>intro _<;>try (exfalso;omega))|((first|refine Kh ?_|refine Ki rfl ?_);simp only[d1,d2,d3,hle,or_self,Qs,Qt,Qu,Qv,Qw,Qx,Qy,Qz,Za,go_sem])
     all_goals first|(exfalso;omega)|rfl|trace_state
    ·rw[if_neg hfit] at h1
     repeat' first|refine Kn rfl ?_|((first|refine Ka ?_|refine Kb ?_|refine Kv ?_|refine Ke ?_);simp only[d1,d2,d3,hle,go_sem])|refine Kf ?_|refine Kg ?_|refine⟨p,_,⟨rfl,hb0⟩,Kg ?_⟩|refine⟨Xey _,?_⟩|refine⟨kl,?_⟩|refine⟨k2,?_⟩|refine⟨k3,?_⟩|refine⟨k4,?_⟩|refine⟨k5,?_⟩|(apply Kp<;>intro _<;>try (exfalso;omega))|((first|refine Kh ?_|refine Ki rfl ?_);simp only[d1,d2,d3,hle,or_self,Qs,Qt,Qu,Qv,Qw,Qx,Qy,Qz,Za,go_sem])
     all_goals first|(exfalso;omega)|skip
     refine Kt (fr 62 [(0,vs s),(1,vi p),(6,vi (Xdw (Xbc (Xas s p)) s p (0:Nat))),(7,vi 2),(8,.one (.d (.int .i64 ((0:Nat)+1))))]) ?_
     refine Km (fun mz sz=>∃ i:Nat,i<=2 - 1/\mz=2 - 1 - i/\(0<=i)/\sz=⟨fr 62 [(0,vs s),(1,vi p),(6,vi (Xdw (Xbc (Xas s p)) s p i)),(7,vi 2),(8,.one (.d (.int .i64 (i+1))))],[]⟩) (2 - 1) ⟨0,Nat.zero_le _,(Nat.sub_zero _).symm,?_,rfl⟩ ?_
     ·exact Nat.zero_le _
     rintro _ _ ⟨i,hi,rfl,-,rfl⟩
     simp only[go_sem]
     by_cases hil:i < 2 - 1
     ·have hb:=Xpa (s:=s) (p:=p+(i+1)) (by omega)
      have hv:64*((Xdw (Xbc (Xas s p)) s p i:Nat):Int)+Int.tmod ((s.get! (p+(i+1))).toNat:Int) 64=((Xdw (Xbc (Xas s p)) s p (i+1):Nat):Int):=by
       rw[show Int.tmod ((s.get! (p+(i+1))).toNat:Int) 64=(((s.get! (p+(i+1))).toNat % 64:Nat):Int) from rfl]
       simp only[Xdw,Xas];omega
      have ha:=hacc i
      have hp4:64 ^ i<=64 ^ 3:=Nat.pow_le_pow_right (by omega) (by omega)
      have ha':Xdw (Xbc (Xas s p)) s p i<=256*64 ^ 3:=by omega
      have g1:inK .i64 (64*((Xdw (Xbc (Xas s p)) s p i:Nat):Int)):=by unfold inK;simp[IntKind.min,IntKind.max,IntKind.signed,IntKind.bits];omega
      have g2:inK .i64 ((p:Int)+((i:Int)+1)):=by unfold inK;simp[IntKind.min,IntKind.max,IntKind.signed,IntKind.bits];omega
      have ha2:=hacc (i+1)
      have hp5:64 ^ (i+1)<=64 ^ 3:=Nat.pow_le_pow_right (by omega) (by omega)
      have g3:inK .i64 ((Xdw (Xbc (Xas s p)) s p (i+1):Nat):Int):=by unfold inK;simp[IntKind.min,IntKind.max,IntKind.signed,IntKind.bits];omega
      have g4:inK .i64 ((i:Int)+1+1):=by unfold inK;simp[IntKind.min,IntKind.max,IntKind.signed,IntKind.bits];omega
      repeat' first|refine Kn rfl ?_|((first|refine Ka ?_|refine Kb ?_|refine Kv ?_|refine Ke ?_);simp only[hv,go_sem])|refine Kf ?_|refine Kg ?_|refine⟨p+(i+1),_,⟨by omega,hb⟩,Kg ?_⟩|refine⟨Xey _,?_⟩|refine⟨g1,?_⟩|refine⟨g2,?_⟩|refine⟨g3,?_⟩|refine⟨g4,?_⟩|(apply Kp<;>intro _<;>try (exfalso;omega))|((first|refine Kh ?_|refine Ki rfl ?_);simp only[hv,or_self,Qs,Qt,Qu,Qv,Qw,Qx,Qy,Qz,Za,go_sem])
      all_goals first|(exfalso;omega)|skip
      refine Kt (fr 62 [(0,vs s),(1,vi p),(6,vi (Xdw (Xbc (Xas s p)) s p (i+1))),(7,vi 2),(8,.one (.d (.int .i64 ((i+1)+1))))]) ?_
      refine Kl ⟨2 - 1 - (i+1),by omega,i+1,by omega,rfl,?_,rfl⟩
      exact Nat.zero_le _
     ·obtain rfl:2 - 1=i:=by omega
      have hs:=Ynm (gp:=gp) (Xdw (Xbc (Xas s p)) s p (2 - 1))
      by_cases hsg:Xhn (Xdw (Xbc (Xas s p)) s p (2 - 1))=true
      ·rw[hsg] at hs h1
       have hvm:Xdw (Xbc (Xas s p)) s p (2 - 1)<=1114111:=(of_decide_eq_true hsg).1
       have hbs:=Xyd (gp:=gp) _ hvm
       have hbe:=Xk0 s p 2 _ (by omega) (by omega) hvm
       have g5:inK .i64 ((p:Int)+2):=by unfold inK;simp[IntKind.min,IntKind.max,IntKind.signed,IntKind.bits];omega
       rw[Bool.true_and] at h1
       rw[h1,<- hbe]
       repeat' first|refine Kn rfl ?_|((first|refine Ka ?_|refine Kb ?_|refine Kv ?_|refine Ke ?_);simp only[go_sem])|refine Kf ?_|refine Kg ?_|refine⟨_,hs,Kg ?_⟩|refine⟨_,⟨hs,rfl⟩,Kg ?_⟩|refine⟨_,hbs,Kg ?_⟩|refine⟨_,⟨hbs,rfl⟩,Kg ?_⟩|refine⟨g5,?_⟩|refine⟨p,p+2,⟨rfl,by omega,by omega,by omega⟩,Kg ?_⟩|(apply Kp<;>intro _<;>try (exfalso;omega))|((first|refine Kh ?_|refine Ki rfl ?_);simp only[or_self,Qs,Qt,Qu,Qv,Qw,Qx,Qy,Qz,Za,go_sem])
       all_goals first|(exfalso;omega)|skip
       all_goals (rename_i hx;simp at hx;simp[hx])
      ·have hsf:Xhn (Xdw (Xbc (Xas s p)) s p (2 - 1))=false:=by simpa using hsg
       rw[hsf] at hs h1
       rw[Bool.false_and] at h1
       rw[h1]
       repeat' first|refine Kn rfl ?_|((first|refine Ka ?_|refine Kb ?_|refine Kv ?_|refine Ke ?_);simp only[go_sem])|refine Kf ?_|refine Kg ?_|refine⟨_,hs,Kg ?_⟩|refine⟨_,⟨hs,rfl⟩,Kg ?_⟩|(apply Kp<;>intro _<;>try (exfalso;omega))|((first|refine Kh ?_|refine Ki rfl ?_);simp only[or_self,Qs,Qt,Qu,Qv,Qw,Qx,Qy,Qz,Za,go_sem])
       all_goals first|(exfalso;omega)|rfl|trace_state
   ·have d1:decide (((s.get! p).toNat:Int) >= 240)=false:=decide_eq_false (by omega)
    have d2:decide (((s.get! p).toNat:Int) >= 224)=false:=decide_eq_false (by omega)
    have d3:decide (((s.get! p).toNat:Int) >= 192)=false:=decide_eq_false (by omega)
    have hk:Xkz (Xas s p)=1:=by unfold Xkz;rw[hbn];rw[if_neg (by omega),if_neg (by omega),if_neg (by omega)]
    have hl:Xbc (Xas s p)=(s.get! p).toNat:=by unfold Xbc;rw[hbn];rw[if_neg (by omega),if_neg (by omega),if_neg (by omega)]
    have hl0:Xbc (Xas s p)=Xas s p:=hl
    have h1:=Xye hk hl0
    have kl:inK .i64 ((Xbc (Xas s p):Nat):Int):=by unfold inK;simp[IntKind.min,IntKind.max,IntKind.signed,IntKind.bits];omega
    have hacc:=fun i=>Xmi (s:=s) (p:=p) (show Xbc (Xas s p) < 256 by omega) i
    have hle:((s.get! p).toNat:Int)=((Xbc (Xas s p):Nat):Int):=by rw[hl]
    by_cases hfit:1 > s.size - p
    ·rw[if_pos hfit] at h1
     rw[h1]
     repeat' first|refine Kn rfl ?_|((first|refine Ka ?_|refine Kb ?_|refine Kv ?_|refine Ke ?_);simp only[d1,d2,d3,go_sem])|refine Kf ?_|refine Kg ?_|refine⟨p,_,⟨rfl,hb0⟩,Kg ?_⟩|refine⟨Xey _,?_⟩|refine⟨kl,?_⟩|refine⟨k2,?_⟩|refine⟨k3,?_⟩|refine⟨k4,?_⟩|refine⟨k5,?_⟩|(apply Kp<;>intro _<;>try (exfalso;omega))|((first|refine Kh ?_|refine Ki rfl ?_);simp only[d1,d2,d3,or_self,Qs,Qt,Qu,Qv,Qw,Qx,Qy,Qz,Za,go_sem])
     all_goals first|(exfalso;omega)|rfl|trace_state
    ·rw[if_neg hfit] at h1
     repeat' first|refine Kn rfl ?_|((first|refine Ka ?_|refine Kb ?_|refine Kv ?_|refine Ke ?_);simp only[d1,d2,d3,go_sem])|refine Kf ?_|refine Kg ?_|refine⟨p,_,⟨rfl,hb0⟩,Kg ?_⟩|refine⟨Xey _,?_⟩|refine⟨kl,?_⟩|refine⟨k2,?_⟩|refine⟨k3,?_⟩|refine⟨k4,?_⟩|refine⟨k5,?_⟩|(apply Kp<;>intro _<;>try (exfalso;omega))|((first|refine Kh ?_|refine Ki rfl ?_);simp only[d1,d2,d3,or_self,Qs,Qt,Qu,Qv,Qw,Qx,Qy,Qz,Za,go_sem])
     all_goals first|(exfalso;omega)|skip
     refine Kt (fr 62 [(0,vs s),(1,vi p),(6,vi (Xdw (Xas s p) s p (0:Nat))),(7,vi 1),(8,.one (.d (.int .i64 ((0:Nat)+1))))]) ?_
     refine Km (fun mz sz=>∃ i:Nat,i<=1 - 1/\mz=1 - 1 - i/\(0<=i)/\sz=⟨fr 62 [(0,vs s),(1,vi p),(6,vi (Xdw (Xas s p) s p i)),(7,vi 1),(8,.one (.d (.int .i64 (i+1))))],[]⟩) (1 - 1) ⟨0,Nat.zero_le _,(Nat.sub_zero _).symm,?_,rfl⟩ ?_
     ·exact Nat.zero_le _
     rintro _ _ ⟨i,hi,rfl,-,rfl⟩
     simp only[go_sem]
     by_cases hil:i < 1 - 1
     ·exact absurd hil (by omega)
     ·obtain rfl:1 - 1=i:=by omega
      have hs:=Ynm (gp:=gp) (Xdw (Xas s p) s p (1 - 1))
      by_cases hsg:Xhn (Xdw (Xas s p) s p (1 - 1))=true
      ·rw[hsg] at hs h1
       have hvm:Xdw (Xas s p) s p (1 - 1)<=1114111:=(of_decide_eq_true hsg).1
       have hbs:=Xyd (gp:=gp) _ hvm
       have hbe:=Xk0 s p 1 _ (by omega) (by omega) hvm
       have g5:inK .i64 ((p:Int)+1):=by unfold inK;simp[IntKind.min,IntKind.max,IntKind.signed,IntKind.bits];omega
       rw[Bool.true_and] at h1
       rw[h1,<- hbe]
       repeat' first|refine Kn rfl ?_|((first|refine Ka ?_|refine Kb ?_|refine Kv ?_|refine Ke ?_);simp only[go_sem])|refine Kf ?_|refine Kg ?_|refine⟨_,hs,Kg ?_⟩|refine⟨_,⟨hs,rfl⟩,Kg ?_⟩|refine⟨_,hbs,Kg ?_⟩|refine⟨_,⟨hbs,rfl⟩,Kg ?_⟩|refine⟨g5,?_⟩|refine⟨p,p+1,⟨rfl,by omega,by omega,by omega⟩,Kg ?_⟩|(apply Kp<;>intro _<;>try (exfalso;omega))|((first|refine Kh ?_|refine Ki rfl ?_);simp only[or_self,Qs,Qt,Qu,Qv,Qw,Qx,Qy,Qz,Za,go_sem])
       all_goals first|(exfalso;omega)|skip
       all_goals (rename_i hx;simp at hx;simp[hx])
      ·have hsf:Xhn (Xdw (Xas s p) s p (1 - 1))=false:=by simpa using hsg
       rw[hsf] at hs h1
       rw[Bool.false_and] at h1
       rw[h1]
       repeat' first|refine Kn rfl ?_|((first|refine Ka ?_|refine Kb ?_|refine Kv ?_|refine Ke ?_);simp only[go_sem])|refine Kf ?_|refine Kg ?_|refine⟨_,hs,Kg ?_⟩|refine⟨_,⟨hs,rfl⟩,Kg ?_⟩|(apply Kp<;>intro _<;>try (exfalso;omega))|((first|refine Kh ?_|refine Ki rfl ?_);simp only[or_self,Qs,Qt,Qu,Qv,Qw,Qx,Qy,Qz,Za,go_sem])
       all_goals first|(exfalso;omega)|rfl|trace_state
def Xf9 (s:ByteArray):Nat->Nat->Option (List Int)
 | 0,_=>some []
 | f+1,p=>if p < s.size then (if (Xm3 s p).2=0 then none else (Xf9 s f (p+(Xm3 s p).2)).map (((Xm3 s p).1:Int)::·)) else some []
theorem Xz1 (s:ByteArray) (p:Nat) (hp:p < s.size):(Xm3 s p).2<=s.size - p:=by
 unfold Xm3 Yg8
 split
 ·simp
 ·split
  ·simp;omega
  ·simp
theorem Yb0 {s:ByteArray} {f p:Nat} (h:¬ p < s.size):Xf9 s f p=some []:=by
 cases f with
 | zero=>rfl
 | succ f=>simp only[Xf9,if_neg h]
set_option maxHeartbeats 1000000 in
theorem Wmo (s:ByteArray) (hs:s.size<=100000):Xam QP gp 146 [vs s] (.tup [.one (.d (.sl (Xai ((Xf9 s s.size 0).getD [])))),vi (if (Xf9 s s.size 0).isSome then 0 else 40)]):=by
 refine Y6z ?_
 simp only[go_sem]
 repeat' first|refine Kn rfl ?_|((first|refine Ka ?_|refine Kb ?_|refine Kv ?_|refine Ke ?_);simp only[Xdn,go_sem])|refine Kf ?_|refine Kg ?_|apply Kp<;>intro _|((first|refine Kh ?_|refine Ki rfl ?_);simp only[Xdn,or_self,Qs,Qt,Qu,Qv,Qw,Qx,Qy,Qz,Za,go_sem])
 refine Xeu 4 1 (by decide) rfl ?_
 simp only[go_sem]
 refine Kt (fr 28 [(0,vs s),(4,.one (.own 0 0)),(5,vi (0:Nat))]) ?_
 refine Km (fun mz sz=>∃ (p f:Nat) (out:List Int),mz=s.size - p/\s.size - p<=f/\(Xf9 s f p).map (out++·)=Xf9 s s.size 0/\out.length<=p/\p<=s.size/\sz=⟨fr 28 [(0,vs s),(4,.one (.own 0 out.length)),(5,vi p)],[.row 1 out.length (Xai out)]⟩) s.size ⟨0,s.size,[],rfl,Nat.le_refl _,by simp,Nat.le_refl _,Nat.zero_le _,rfl⟩ ?_
 rintro _ _ ⟨p,f,out,rfl,hf,hr,ho,hps,rfl⟩
 simp only[go_sem]
 by_cases hp:p < s.size
 ·obtain⟨f,rfl⟩:∃ g,f=g+1:=⟨f - 1,by omega⟩
  have c1:=Wve (gp:=gp) s p hp (by unfold Xab;omega)
  have hw:=Xz1 s p hp
  simp only[Xf9,if_pos hp] at hr
  have e1:decide ((p:Int) < (s.size:Int))=true:=decide_eq_true (by omega)
  by_cases hz:(Xm3 s p).2=0
  ·rw[if_pos hz] at hr
   rw[<- hr]
   have e2:(((Xm3 s p).2:Int)==0)=true:=by rw[hz];rfl
   repeat' first|refine Kn rfl ?_|((first|refine Ka ?_|refine Kb ?_|refine Kv ?_|refine Ke ?_);simp only[Xdn,e1,e2,go_sem])|refine Kf ?_|refine Kg ?_|refine⟨_,c1,Kg ?_⟩|refine⟨_,⟨c1,rfl⟩,Kg ?_⟩|apply Kp<;>intro _|((first|refine Kh ?_|refine Ki rfl ?_);simp only[Xdn,e1,e2,or_self,Qs,Qt,Qu,Qv,Qw,Qx,Qy,Qz,Za,go_sem])
   all_goals simp
  ·rw[if_neg hz] at hr
   have e2:(((Xm3 s p).2:Int)==0)=false:=by simp;omega
   repeat' first|refine Kn rfl ?_|((first|refine Ka ?_|refine Kb ?_|refine Kv ?_|refine Ke ?_);simp only[Xdn,e1,e2,go_sem])|refine Kf ?_|refine Kg ?_|refine⟨_,c1,Kg ?_⟩|refine⟨_,⟨c1,rfl⟩,Kg ?_⟩|apply Kp<;>intro _|((first|refine Kh ?_|refine Ki rfl ?_);simp only[Xdn,e1,e2,or_self,Qs,Qt,Qu,Qv,Qw,Qx,Qy,Qz,Za,go_sem])
   refine⟨by first|omega|simp,by first|omega|(simp;omega),by first|(unfold Xab;omega)|(simp[Xab];omega),?_⟩
   rw[show Xai out++[[D.int .i64 ((Xm3 s p).1:Int)]]=Xai (out++[((Xm3 s p).1:Int)]) from by simp]
   have g1:inK .i64 ((p:Int)+((Xm3 s p).2:Int)):=by unfold inK;simp[IntKind.min,IntKind.max,IntKind.signed,IntKind.bits];omega
   repeat' first|refine Kn rfl ?_|((first|refine Ka ?_|refine Kb ?_|refine Kv ?_|refine Ke ?_);simp only[Xdn,go_sem])|refine Kf ?_|refine Kg ?_|refine⟨g1,?_⟩|apply Kp<;>intro _|((first|refine Kh ?_|refine Ki rfl ?_);simp only[Xdn,or_self,Qs,Qt,Qu,Qv,Qw,Qx,Qy,Qz,Za,go_sem])
   have hlen:(out++[((Xm3 s p).1:Int)]).length=out.length+1:=by simp
   refine Kt (fr 28 [(0,vs s),(4,.one (.own 0 (out.length+1))),(5,.one (.d (.int .i64 (p+(Xm3 s p).2))))]) ?_
   refine Kl ⟨s.size - (p+(Xm3 s p).2),by omega,p+(Xm3 s p).2,f,out++[((Xm3 s p).1:Int)],rfl,by omega,?_,by simp;omega,by omega,by rw[hlen,Int.natCast_add];rfl⟩
   rw[<- hr]
   cases Xf9 s f (p+(Xm3 s p).2) <;> simp
 ·have e1:decide ((p:Int) < (s.size:Int))=false:=decide_eq_false (by omega)
  rw[Yb0 hp] at hr
  rw[<- hr]
  repeat' first|refine Kn rfl ?_|((first|refine Ka ?_|refine Kb ?_|refine Kv ?_|refine Ke ?_);simp only[e1,go_sem])|refine Kf ?_|refine Kg ?_|apply Kp<;>intro _|((first|refine Kh ?_|refine Ki rfl ?_);simp only[e1,or_self,Qs,Qt,Qu,Qv,Qw,Qx,Qy,Qz,Za,go_sem])
  refine Xat 0 ?_
  simp only[go_sem]
  repeat' first|refine Kn rfl ?_|((first|refine Ka ?_|refine Kb ?_|refine Kv ?_|refine Ke ?_);simp only[Xdn,go_sem])|refine Kf ?_|refine Kg ?_|apply Kp<;>intro _|((first|refine Kh ?_|refine Ki rfl ?_);simp only[Xdn,or_self,Qs,Qt,Qu,Qv,Qw,Qx,Qy,Qz,Za,go_sem])
  all_goals simp
theorem Xmj (s:ByteArray):∀ f p:Nat,(Xf9 s f p).isSome=Xbk s f p
 | 0,_=>rfl
 | f+1,p=>by
  simp only[Xf9,Xbk]
  by_cases hp:p < s.size
  ·rw[if_pos hp,if_pos hp]
   have h1:Xm3 s p=if (Utf8.decode s p).1=65533/\(Utf8.decode s p).2=1 then (0,0) else Utf8.decode s p:=by
    rw[Lib.decode_at]
    exact Ybz (by omega) (Xi9 _ _) (Xi9 _ _) (Xi9 _ _) (Xi9 _ _)
   have hw:=Lib.decode_width_pos s p hp
   by_cases hd:(Utf8.decode s p).1=65533/\(Utf8.decode s p).2=1
   ·rw[if_pos hd] at h1
    rw[h1,if_pos rfl,if_pos hd];rfl
   ·rw[if_neg hd] at h1
    rw[h1,if_neg (by omega),if_neg hd,Option.isSome_map]
    exact Xmj s f _
  ·rw[if_neg hp,if_neg hp];rfl
theorem Ysd (s:ByteArray) (hs:s.size<=100000):Xam QP gp 126 [vs s] (vb (Xal s)):=by
 refine Y6a ?_
 simp only[go_sem]
 have c1:=Wmo (gp:=gp) s hs
 have c2:=Xmj s s.size 0
 unfold Xal
 rw[<- c2]
 generalize Xf9 s s.size 0=o at *
 repeat' first|refine Kn rfl ?_|((first|refine Ka ?_|refine Kb ?_|refine Kv ?_|refine Ke ?_);simp only[go_sem])|refine Kf ?_|refine Kg ?_|refine⟨_,c1,Kg ?_⟩|refine⟨_,⟨c1,rfl⟩,Kg ?_⟩|apply Kp<;>intro _|((first|refine Kh ?_|refine Ki rfl ?_);simp only[or_self,Qs,Qt,Qu,Qv,Qw,Qx,Qy,Qz,Za,go_sem])
 all_goals (cases o <;> simp)
theorem Yse (x:Sc) (hs:x.s.size<=100000):Xam QP gp 98 [x.v] (vb (prR Xal x)):=by
 refine Wl2 ?_
 simp only[go_sem]
 repeat' first|refine Kn rfl ?_|((first|refine Ka ?_|refine Kb ?_|refine Kv ?_|refine Ke ?_);simp only[go_sem])|refine Kf ?_|refine Kg ?_|refine⟨_,Ysd _ hs,Kg ?_⟩|refine⟨_,⟨Ysd _ hs,rfl⟩,Kg ?_⟩|apply Kp<;>intro _|((first|refine Kh ?_|refine Ki rfl ?_);simp only[or_self,Qs,Qt,Qu,Qv,Qw,Qx,Qy,Qz,Za,go_sem])
 all_goals (first|(unfold prR Xi4;grind)|(cases x;simp_all [prR,Xi4];done)|trace_state)
set_option maxHeartbeats 1000000 in
theorem Wmp (l:List Sc) (hl:l.length<=100):Xam QP gp 99 [.one (.d (.sl (scs l)))] (vb (!decide l.Nodup)):=by
 refine Wkf ?_
 simp only[go_sem]
 repeat' first|refine Kn rfl ?_|((first|refine Ka ?_|refine Kb ?_|refine Kv ?_|refine Ke ?_);simp only[go_sem])|refine Kf ?_|refine Kg ?_|apply Kp<;>intro _|((first|refine Kh ?_|refine Ki rfl ?_);simp only[or_self,Qs,Qt,Qu,Qv,Qw,Qx,Qy,Qz,Za,go_sem])
 refine Kt (fr 25 [(0,.one (.d (.sl (scs l)))),(3,vi (0:Nat))]) ?_
 refine Km (fun mz sz=>∃ i:Nat,i<=l.length/\mz=l.length - i/\((l.take i).Nodup)/\sz=⟨fr 25 [(0,.one (.d (.sl (scs l)))),(3,vi i)],[]⟩) (l.length) ⟨0,Nat.zero_le _,(Nat.sub_zero _).symm,?_,rfl⟩ ?_
 ·simp
 rintro _ _ ⟨i,hi,rfl,hz,rfl⟩
 simp only[go_sem]
 by_cases hil:i < l.length
 ·obtain⟨x,hx⟩:=Xaj hil
  have e1:decide ((i:Int) < (l.length:Int))=true:=decide_eq_true (by omega)
  repeat' first|refine Kn rfl ?_|((first|refine Ka ?_|refine Kb ?_|refine Kv ?_|refine Ke ?_);simp only[e1,go_sem])|refine Kf ?_|refine Kg ?_|apply Kp<;>intro _|((first|refine Kh ?_|refine Ki rfl ?_);simp only[e1,or_self,Qs,Qt,Qu,Qv,Qw,Qx,Qy,Qz,Za,go_sem])
  refine Kt (fr 25 [(0,.one (.d (.sl (scs l)))),(3,vi i),(4,vi (0:Nat))]) ?_
  refine Km (fun mz sz=>∃ j:Nat,j<=i/\mz=i - j/\(x ∉ l.take j)/\sz=⟨fr 25 [(0,.one (.d (.sl (scs l)))),(3,vi i),(4,vi j)],[]⟩) (i) ⟨0,Nat.zero_le _,(Nat.sub_zero _).symm,?_,rfl⟩ ?_
  ·simp
  rintro _ _ ⟨j,hj,rfl,hn,rfl⟩
  simp only[go_sem]
  by_cases hji:j < i
  ·obtain⟨y,hy⟩:=Xaj (l:=l) (i:=j) (by omega)
   have e2:decide ((j:Int) < (i:Int))=true:=decide_eq_true (by omega)
   repeat' first|refine Kn rfl ?_|((first|refine Ka ?_|refine Kb ?_|refine Kv ?_|refine Ke ?_);simp only[e2,Xm6,go_sem])|refine Kf ?_|refine Kg ?_|refine⟨_,⟨Kq _,(by first|exact Xad hx|(rw[Int.toNat_natCast];exact Xad hx)),rfl⟩,Kg ?_⟩|refine⟨_,⟨Kq _,(by first|exact Xad hy|(rw[Int.toNat_natCast];exact Xad hy)),rfl⟩,Kg ?_⟩|apply Kp<;>intro _|((first|refine Kh ?_|refine Ki rfl ?_);simp only[e2,Xm6,or_self,Qs,Qt,Qu,Qv,Qw,Qx,Qy,Qz,Za,go_sem])
   ·rename_i h
    have hxy:x=y:=by simpa using h
    subst hxy
    have:¬ l.Nodup:=fun hnd=>by
     have:=List.pairwise_iff_getElem.1 hnd j i (by omega) hil hji
     rw[(List.getElem?_eq_some_iff.1 hx).2,(List.getElem?_eq_some_iff.1 hy).2] at this
     exact this rfl
    simp[this]
   ·rename_i h
    refine⟨Xaf hji (by unfold Xab;omega),?_⟩
    refine Kt (fr 25 [(0,.one (.d (.sl (scs l)))),(3,vi i),(4,vi (j+1))]) ?_
    refine Kl ⟨i - (j+1),by omega,j+1,by omega,rfl,?_,rfl⟩
    rw[List.take_succ,hy]
    simp only[List.mem_append,not_or]
    exact⟨hn,by simpa using h⟩
  ·obtain rfl:i=j:=by omega
   have e2:decide ((i:Int) < (i:Int))=false:=decide_eq_false (by omega)
   repeat' first|refine Kn rfl ?_|((first|refine Ka ?_|refine Kb ?_|refine Kv ?_|refine Ke ?_);simp only[e2,go_sem])|refine Kf ?_|refine Kg ?_|apply Kp<;>intro _|((first|refine Kh ?_|refine Ki rfl ?_);simp only[e2,or_self,Qs,Qt,Qu,Qv,Qw,Qx,Qy,Qz,Za,go_sem])
   refine⟨Xaf hil (by unfold Xab;omega),?_⟩
   refine Kt (fr 25 [(0,.one (.d (.sl (scs l)))),(3,vi (i+1))]) ?_
   refine Kl ⟨l.length - (i+1),by omega,i+1,by omega,rfl,?_,rfl⟩
   rw[List.take_succ,hx]
   rw[List.nodup_append]
   exact⟨hz,by simp,fun a ha b hb e=>by simp at hb;subst hb;subst e;exact hn ha⟩
 ·have e1:decide ((i:Int) < (l.length:Int))=false:=decide_eq_false (by omega)
  repeat' first|refine Kn rfl ?_|((first|refine Ka ?_|refine Kb ?_|refine Kv ?_|refine Ke ?_);simp only[e1,go_sem])|refine Kf ?_|refine Kg ?_|apply Kp<;>intro _|((first|refine Kh ?_|refine Ki rfl ?_);simp only[e1,or_self,Qs,Qt,Qu,Qv,Qw,Qx,Qy,Qz,Za,go_sem])
  rw[List.take_of_length_le (by omega)] at hz
  simp[hz]
def Sc.short (x:Sc):Prop:=x.s.size<=100000
def Nd.short (x:Nd):Prop:=x.keys.length<=12/\x.kids.length<=12/\x.x.short/\∀ y∈x.keys,y.short
theorem Xrh {R:ByteArray->Bool} {x:Nd} {n:Int} (h:Xa9 R x n=true):(∀ k∈x.kids,0<=k/\k < n)/\∀ y∈x.keys,prR R y=true:=by
 unfold Xa9 at h
 split at h
 ·unfold Yg7 at h
  simp at h
  rw[h.2.1,h.2.2];simp
 ·split at h
  ·unfold X8e Xc4 at h
   simp at h
   refine⟨fun k hk=>?_,by rw[h.2.1];simp⟩
   have:=h.2.2 k hk
   omega
  ·split at h
   ·unfold X8f Xc4 Xo1 at h
    simp at h
    refine⟨fun k hk=>?_,fun y hy=>h.2.2.1.1 y hy⟩
    have:=h.2.2.2 k hk
    omega
   ·cases h
theorem Wu1 {α:Type} [DecidableEq α] (l:List α):((l.length:Int)==0)=decide (l=[]):=by
 cases l with
 | nil=>simp
 | cons a l=>simp;omega
theorem Y85 {l:List Int} {n:Int} (h:∀ k∈l,0<=k/\k < n):Xc4 l n=true:=by
 unfold Xc4
 simp
 intro k hk
 have:=h k hk
 omega
set_option maxHeartbeats 2000000 in
theorem Wmq (x:Nd) (n:Nat) (hs:x.short) (hn:n<=1000):Xam QP gp 72 [x.v,vi n] (vb (Xa9 Xal x n)):=by
 obtain⟨h1,h2,h3,h4⟩:=hs
 refine Wi0 ?_
 simp only[go_sem]
 repeat' first|refine Kn rfl ?_|((first|refine Ka ?_|refine Kb ?_|refine Kv ?_|refine Ke ?_);simp only[go_sem])|refine Kf ?_|refine Kg ?_|apply Kp<;>intro _|((first|refine Kh ?_|refine Ki rfl ?_);simp only[or_self,Qs,Qt,Qu,Qv,Qw,Qx,Qy,Qz,Za,go_sem])
 refine Kt (fr 94 [(1,vi n),(2,.one (.d (.bx x.ds))),(5,vi (0:Nat))]) ?_
 refine Km (fun mz sz=>∃ i:Nat,i<=x.kids.length/\mz=x.kids.length - i/\(∀ k∈x.kids.take i,0<=k/\k < n)/\sz=⟨fr 94 [(1,vi n),(2,.one (.d (.bx x.ds))),(5,vi i)],[]⟩) (x.kids.length) ⟨0,Nat.zero_le _,(Nat.sub_zero _).symm,?_,rfl⟩ ?_
 ·simp
 rintro _ _ ⟨i,hi,rfl,hz,rfl⟩
 simp only[go_sem]
 by_cases hil:i < x.kids.length
 ·obtain⟨k,hk⟩:=Xaj hil
  have e1:decide ((i:Int) < (x.kids.length:Int))=true:=decide_eq_true (by omega)
  have bad:¬ (0<=k/\k < n)->false=Xa9 Xal x n:=fun hb=>by
   cases hr:Xa9 Xal x n with
   | false=>rfl
   | true=>exact absurd ((Xrh hr).1 k (List.mem_of_getElem? hk)) hb
  repeat' first|refine Kn rfl ?_|((first|refine Ka ?_|refine Kb ?_|refine Kv ?_|refine Ke ?_);simp only[e1,go_sem])|refine Kf ?_|refine Kg ?_|refine⟨_,⟨Kq _,(by first|exact Xad hk|(rw[Int.toNat_natCast];exact Xad hk)),rfl⟩,Kg ?_⟩|(apply Kp<;>intro _<;>try (exfalso;omega))|((first|refine Kh ?_|refine Ki rfl ?_);simp only[e1,or_self,Qs,Qt,Qu,Qv,Qw,Qx,Qy,Qz,Za,go_sem])
  ·exact bad (by omega)
  ·refine⟨Xaf hil (by unfold Xab;omega),?_⟩
   refine Kt (fr 94 [(1,vi n),(2,.one (.d (.bx x.ds))),(5,vi (i+1))]) ?_
   refine Kl ⟨x.kids.length - (i+1),by omega,i+1,by omega,rfl,?_,rfl⟩
   intro k' hk'
   rw[List.take_succ,hk] at hk'
   rcases List.mem_append.1 hk' with hk'|hk'
   ·exact hz k' hk'
   ·simp at hk';subst hk';omega
  ·exact bad (by omega)
 ·have hkids:∀ k∈x.kids,0<=k/\k < n:=by rw[List.take_of_length_le (by omega)] at hz;exact hz
  have e1:decide ((i:Int) < (x.kids.length:Int))=false:=decide_eq_false (by omega)
  repeat' first|refine Kn rfl ?_|((first|refine Ka ?_|refine Kb ?_|refine Kv ?_|refine Ke ?_);simp only[e1,go_sem])|refine Kf ?_|refine Kg ?_|(apply Kp<;>intro _<;>try (exfalso;omega))|((first|refine Kh ?_|refine Ki rfl ?_);simp only[e1,or_self,Qs,Qt,Qu,Qv,Qw,Qx,Qy,Qz,Za,go_sem])
  all_goals first|(exfalso;omega)|skip
  clear hz hi hil e1
  refine Kt (fr 94 [(1,vi n),(2,.one (.d (.bx x.ds))),(6,vi (0:Nat))]) ?_
  refine Km (fun mz sz=>∃ i:Nat,i<=x.keys.length/\mz=x.keys.length - i/\(∀ k∈x.keys.take i,prR Xal k=true)/\sz=⟨fr 94 [(1,vi n),(2,.one (.d (.bx x.ds))),(6,vi i)],[]⟩) (x.keys.length) ⟨0,Nat.zero_le _,(Nat.sub_zero _).symm,?_,rfl⟩ ?_
  ·simp
  rintro _ _ ⟨i,hi,rfl,hz,rfl⟩
  simp only[go_sem]
  by_cases hil:i < x.keys.length
  ·obtain⟨k,hk⟩:=Xaj hil
   have e1:decide ((i:Int) < (x.keys.length:Int))=true:=decide_eq_true (by omega)
   have c1:=Yse (gp:=gp) k (h4 k (List.mem_of_getElem? hk))
   by_cases hb:prR Xal k=true
   ·rw[hb] at c1
    repeat' first|refine Kn rfl ?_|((first|refine Ka ?_|refine Kb ?_|refine Kv ?_|refine Ke ?_);simp only[e1,go_sem])|refine Kf ?_|refine Kg ?_|refine⟨_,c1,Kg ?_⟩|refine⟨_,⟨c1,rfl⟩,Kg ?_⟩|refine⟨_,⟨Kq _,(by first|exact Xad hk|(rw[Int.toNat_natCast];exact Xad hk)),rfl⟩,Kg ?_⟩|(apply Kp<;>intro _<;>try (exfalso;omega))|((first|refine Kh ?_|refine Ki rfl ?_);simp only[e1,or_self,Qs,Qt,Qu,Qv,Qw,Qx,Qy,Qz,Za,go_sem])
    refine⟨Xaf hil (by unfold Xab;omega),?_⟩
    refine Kt (fr 94 [(1,vi n),(2,.one (.d (.bx x.ds))),(6,vi (i+1))]) ?_
    refine Kl ⟨x.keys.length - (i+1),by omega,i+1,by omega,rfl,?_,rfl⟩
    intro k' hk'
    rw[List.take_succ,hk] at hk'
    rcases List.mem_append.1 hk' with hk'|hk'
    ·exact hz k' hk'
    ·simp at hk';subst hk';exact hb
   ·have hbf:prR Xal k=false:=by simpa using hb
    rw[hbf] at c1
    repeat' first|refine Kn rfl ?_|((first|refine Ka ?_|refine Kb ?_|refine Kv ?_|refine Ke ?_);simp only[e1,go_sem])|refine Kf ?_|refine Kg ?_|refine⟨_,c1,Kg ?_⟩|refine⟨_,⟨c1,rfl⟩,Kg ?_⟩|refine⟨_,⟨Kq _,(by first|exact Xad hk|(rw[Int.toNat_natCast];exact Xad hk)),rfl⟩,Kg ?_⟩|(apply Kp<;>intro _<;>try (exfalso;omega))|((first|refine Kh ?_|refine Ki rfl ?_);simp only[e1,or_self,Qs,Qt,Qu,Qv,Qw,Qx,Qy,Qz,Za,go_sem])
    cases hr:Xa9 Xal x n with
    | false=>rfl
    | true=>rw[(Xrh hr).2 k (List.mem_of_getElem? hk)] at hbf;cases hbf
  ·have hkeys:∀ k∈x.keys,prR Xal k=true:=by rw[List.take_of_length_le (by omega)] at hz;exact hz
   have e1:decide ((i:Int) < (x.keys.length:Int))=false:=decide_eq_false (by omega)
   have hki:=Y85 hkids
   have c1:=Yse (gp:=gp) x.x h3
   have c2:=Wmp (gp:=gp) x.keys (by omega)
   have hall:x.keys.all (prR Xal)=true:=List.all_eq_true.2 hkeys
   have hn0:Xa9 Xal x n=if x.k=0 then (prR Xal x.x && (decide (x.keys=[]) && decide (x.kids=[]))) else if x.k=1 then (decide (x.x=⟨0,0,⟨#[]⟩⟩) && decide (x.keys=[]))
     else if x.k=2 then (decide (x.x=⟨0,0,⟨#[]⟩⟩) && (decide (x.keys.length=x.kids.length) && decide x.keys.Nodup)) else false:=by
    unfold Xa9 Yg7 X8e X8f isZ Xo1
    rw[hki,hall]
    simp
   rw[hn0]
   repeat' first|refine Kn rfl ?_|((first|refine Ka ?_|refine Kb ?_|refine Kv ?_|refine Ke ?_);simp only[e1,Xgw,Wu1,go_sem])|refine Kf ?_|refine Kg ?_|refine⟨_,c1,Kg ?_⟩|refine⟨_,⟨c1,rfl⟩,Kg ?_⟩|refine⟨_,c2,Kg ?_⟩|refine⟨_,⟨c2,rfl⟩,Kg ?_⟩|(apply Kp<;>intro _<;>try (exfalso;omega))|((first|refine Kh ?_|refine Ki rfl ?_);simp only[e1,Xgw,Wu1,or_self,Qs,Qt,Qu,Qv,Qw,Qx,Qy,Qz,Za,go_sem])
   all_goals first|(exfalso;omega)|skip
   all_goals first|(simp_all;done)|(simp_all;omega)|grind|trace_state
set_option maxHeartbeats 1000000 in
theorem Xyf (g:Gr) (hs:∀ x∈g.l,x.short):Xam QP gp 39 [g.v] (.tup [vi ((chk g).getD (0,0)).1,vi ((chk g).getD (0,0)).2]):=by
 refine Wgt ?_
 simp only[go_sem]
 by_cases h1:g.l.length > 200
 ·have e:chk g=some (0,71):=by unfold chk Xex;rw[if_pos h1]
  rw[e]
  repeat' first|refine Kn rfl ?_|((first|refine Ka ?_|refine Kb ?_|refine Kv ?_|refine Ke ?_);simp only[go_sem])|refine Kf ?_|refine Kg ?_|(apply Kp<;>intro _<;>try (exfalso;omega))|((first|refine Kh ?_|refine Ki rfl ?_);simp only[or_self,Qs,Qt,Qu,Qv,Qw,Qx,Qy,Qz,Za,go_sem])
  all_goals first|(exfalso;omega)|simp
 ·by_cases h2:0<=g.root/\g.root < g.l.length
  ·have e:chk g=(g.l.findIdx? fun x=>!Xa9 Xal x g.l.length).map fun i=>((i:Int),70):=by unfold chk Xex;rw[if_neg h1,if_neg (fun h=>h h2)]
   repeat' first|refine Kn rfl ?_|((first|refine Ka ?_|refine Kb ?_|refine Kv ?_|refine Ke ?_);simp only[go_sem])|refine Kf ?_|refine Kg ?_|(apply Kp<;>intro _<;>try (exfalso;omega))|((first|refine Kh ?_|refine Ki rfl ?_);simp only[or_self,Qs,Qt,Qu,Qv,Qw,Qx,Qy,Qz,Za,go_sem])
   all_goals first|(exfalso;omega)|skip
   refine Kt (fr 38 [(1,.one (.d (.bx [.int .i64 g.root,.sl (nds g.l)]))),(4,vi (0:Nat))]) ?_
   refine Km (fun mz sz=>∃ i:Nat,i<=g.l.length/\mz=g.l.length - i/\(∀ y∈g.l.take i,(!Xa9 Xal y g.l.length)=false)/\sz=⟨fr 38 [(1,.one (.d (.bx [.int .i64 g.root,.sl (nds g.l)]))),(4,vi i)],[]⟩) (g.l.length) ⟨0,Nat.zero_le _,(Nat.sub_zero _).symm,?_,rfl⟩ ?_
   ·simp
   rintro _ _ ⟨i,hi,rfl,hz,rfl⟩
   simp only[go_sem]
   by_cases hil:i < g.l.length
   ·obtain⟨x,hx⟩:=Xaj hil
    have c1:=Wmq (gp:=gp) x g.l.length (hs x (List.mem_of_getElem? hx)) (by omega)
    have e1:decide ((i:Int) < (g.l.length:Int))=true:=decide_eq_true (by omega)
    by_cases hr:Xa9 Xal x g.l.length=true
    ·rw[hr] at c1
     repeat' first|refine Kn rfl ?_|((first|refine Ka ?_|refine Kb ?_|refine Kv ?_|refine Ke ?_);simp only[e1,go_sem])|refine Kf ?_|refine Kg ?_|refine⟨_,c1,Kg ?_⟩|refine⟨_,⟨c1,rfl⟩,Kg ?_⟩|refine⟨_,⟨Kq _,(by first|exact Xad hx|(rw[Int.toNat_natCast];exact Xad hx)),rfl⟩,Kg ?_⟩|(apply Kp<;>intro _<;>try (exfalso;omega))|((first|refine Kh ?_|refine Ki rfl ?_);simp only[e1,or_self,Qs,Qt,Qu,Qv,Qw,Qx,Qy,Qz,Za,go_sem])
     refine⟨Xaf hil (by unfold Xab;omega),?_⟩
     refine Kt (fr 38 [(1,.one (.d (.bx [.int .i64 g.root,.sl (nds g.l)]))),(4,vi (i+1))]) ?_
     refine Kl ⟨g.l.length - (i+1),by omega,i+1,by omega,rfl,?_,rfl⟩
     exact Xhb hz hx (by rw[hr];rfl)
    ·have hrf:Xa9 Xal x g.l.length=false:=by simpa using hr
     rw[hrf] at c1
     rw[e,X8g hz hx (by rw[hrf];rfl)]
     repeat' first|refine Kn rfl ?_|((first|refine Ka ?_|refine Kb ?_|refine Kv ?_|refine Ke ?_);simp only[e1,go_sem])|refine Kf ?_|refine Kg ?_|refine⟨_,c1,Kg ?_⟩|refine⟨_,⟨c1,rfl⟩,Kg ?_⟩|refine⟨_,⟨Kq _,(by first|exact Xad hx|(rw[Int.toNat_natCast];exact Xad hx)),rfl⟩,Kg ?_⟩|(apply Kp<;>intro _<;>try (exfalso;omega))|((first|refine Kh ?_|refine Ki rfl ?_);simp only[e1,or_self,Qs,Qt,Qu,Qv,Qw,Qx,Qy,Qz,Za,go_sem])
     all_goals simp
   ·have e1:decide ((i:Int) < (g.l.length:Int))=false:=decide_eq_false (by omega)
    rw[e,Xq9 (by rw[List.take_of_length_le (by omega)] at hz;exact hz)]
    repeat' first|refine Kn rfl ?_|((first|refine Ka ?_|refine Kb ?_|refine Kv ?_|refine Ke ?_);simp only[e1,go_sem])|refine Kf ?_|refine Kg ?_|(apply Kp<;>intro _<;>try (exfalso;omega))|((first|refine Kh ?_|refine Ki rfl ?_);simp only[e1,or_self,Qs,Qt,Qu,Qv,Qw,Qx,Qy,Qz,Za,go_sem])
    all_goals simp
  ·have e:chk g=some (-1,70):=by unfold chk Xex;rw[if_neg h1,if_pos h2]
   rw[e]
   repeat' first|refine Kn rfl ?_|((first|refine Ka ?_|refine Kb ?_|refine Kv ?_|refine Ke ?_);simp only[go_sem])|refine Kf ?_|refine Kg ?_|(apply Kp<;>intro _<;>try (exfalso;omega))|((first|refine Kh ?_|refine Ki rfl ?_);simp only[or_self,Qs,Qt,Qu,Qv,Qw,Qx,Qy,Qz,Za,go_sem])
   all_goals first|(exfalso;omega)|simp
theorem Y86 (g:Gr) (hs:∀ x∈g.l,x.short):Xam QP gp 46 [g.v] (vb (chk g).isNone):=by
 refine Wg4 ?_
 simp only[go_sem]
 have c1:=Xyf (gp:=gp) g hs
 have hn:=fun h=>Xwv (g:=g) h
 generalize chk g=o at *
 repeat' first|refine Kn rfl ?_|((first|refine Ka ?_|refine Kb ?_|refine Kv ?_|refine Ke ?_);simp only[go_sem])|refine Kf ?_|refine Kg ?_|refine⟨_,c1,Kg ?_⟩|refine⟨_,⟨c1,rfl⟩,Kg ?_⟩|(apply Kp<;>intro _<;>try (exfalso;omega))|((first|refine Kh ?_|refine Ki rfl ?_);simp only[or_self,Qs,Qt,Qu,Qv,Qw,Qx,Qy,Qz,Za,go_sem])
 cases o with
 | none=>simp
 | some p =>
  obtain⟨a,e,h1,h2⟩:=hn (by simp)
  cases h1
  simpa using h2
end Go.Fw.L07
