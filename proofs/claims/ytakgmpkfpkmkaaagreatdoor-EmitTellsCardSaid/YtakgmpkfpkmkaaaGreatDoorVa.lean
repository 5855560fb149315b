/- Chapter 4,plain: a sign by definition,and as Go's library reads it. -/
import Derived.Lib.DecodeN
import Derived.Test.YtakgmpkfpkmkaaaGreatDoorLc
import Derived.Test.YtakgmpkfpkmkaaaGreatDoorL07L04Mini
set_option linter.all false
namespace Go.Fw.L07
open Go
def Xj6 (b0:Nat):Nat:=if b0 >= 240 then 4 else if b0 >= 224 then 3 else if b0 >= 192 then 2 else 1
def Xtk (b0 b1 b2 b3:Nat):Nat :=
 if b0 >= 240 then (((b0 - 240)*64+b1 % 64)*64+b2 % 64)*64+b3 % 64
 else if b0 >= 224 then ((b0 - 224)*64+b1 % 64)*64+b2 % 64
 else if b0 >= 192 then (b0 - 192)*64+b1 % 64 else b0
def Xg5 (v:Nat):Bool:=decide (v<=1114111/\(v < 55296\/v > 57343))
def Xe6 (v k b0 b1 b2 b3:Nat):Bool :=
 if v < 128 then decide (k=1/\b0=v)
 else if v < 2048 then decide (k=2/\b0=192+v / 64/\b1=128+v % 64)
 else if v < 65536 then decide (k=3/\b0=224+v / 4096/\b1=128+v / 64 % 64/\b2=128+v % 64)
 else decide (k=4/\b0=240+v / 262144/\b1=128+v / 4096 % 64/\b2=128+v / 64 % 64/\b3=128+v % 64)
def Ynu (n b0 b1 b2 b3:Nat):Nat × Nat :=
 if Xj6 b0 > n then (0,0)
 else if Xg5 (Xtk b0 b1 b2 b3) && Xe6 (Xtk b0 b1 b2 b3) (Xj6 b0) b0 b1 b2 b3 then (Xtk b0 b1 b2 b3,Xj6 b0) else (0,0)
set_option maxHeartbeats 4000000 in
theorem Xtl {n b0 b1 b2 b3:Nat} (hn:1<=n) (h0:b0 < 256) (h1:b1 < 256) (h2:b2 < 256) (h3:b3 < 256) :
  Ynu n b0 b1 b2 b3=if (Lib.decodeN n b0 b1 b2 b3).1=65533/\(Lib.decodeN n b0 b1 b2 b3).2=1 then (0,0) else Lib.decodeN n b0 b1 b2 b3:=by
 by_cases c1:b0 < 128
 ·have e:Lib.decodeN n b0 b1 b2 b3=(b0,1):=by unfold Lib.decodeN;rw[if_pos c1]
  have k:Xj6 b0=1:=by unfold Xj6;rw[if_neg (by omega),if_neg (by omega),if_neg (by omega)]
  have v:Xtk b0 b1 b2 b3=b0:=by unfold Xtk;rw[if_neg (by omega),if_neg (by omega),if_neg (by omega)]
  have s:Xg5 b0=true:=decide_eq_true (by omega)
  have b:Xe6 b0 1 b0 b1 b2 b3=true:=by unfold Xe6;rw[if_pos c1];simp
  unfold Ynu
  rw[e,k,v,s,b,if_neg (show ¬ 1 > n by omega)]
  have:¬ b0=65533:=by omega
  simp[this]
 ·by_cases c2:b0 < 192
  ·have e:Lib.decodeN n b0 b1 b2 b3=(65533,1):=by
    unfold Lib.decodeN
    rw[if_neg c1,if_neg (by omega),if_neg (by omega),if_neg (by omega)]
   have k:Xj6 b0=1:=by unfold Xj6;rw[if_neg (by omega),if_neg (by omega),if_neg (by omega)]
   have v:Xtk b0 b1 b2 b3=b0:=by unfold Xtk;rw[if_neg (by omega),if_neg (by omega),if_neg (by omega)]
   have b:Xe6 b0 1 b0 b1 b2 b3=false:=by unfold Xe6;rw[if_neg c1,if_pos (by omega)];simp
   unfold Ynu
   rw[e,k,v,b,if_neg (by omega)]
   simp
  ·by_cases c3:b0 < 224
   ·have k:Xj6 b0=2:=by unfold Xj6;rw[if_neg (by omega),if_neg (by omega),if_pos (by omega)]
    have v:Xtk b0 b1 b2 b3=(b0 - 192)*64+b1 % 64:=by unfold Xtk;rw[if_neg (by omega),if_neg (by omega),if_pos (by omega)]
    unfold Ynu
    rw[k,v]
    unfold Lib.decodeN Xg5 Xe6
    grind
   ·by_cases c4:b0 < 240
    ·have k:Xj6 b0=3:=by unfold Xj6;rw[if_neg (by omega),if_pos (by omega)]
     have v:Xtk b0 b1 b2 b3=((b0 - 224)*64+b1 % 64)*64+b2 % 64:=by unfold Xtk;rw[if_neg (by omega),if_pos (by omega)]
     unfold Ynu
     rw[k,v]
     unfold Lib.decodeN Xg5 Xe6
     grind
    ·have k:Xj6 b0=4:=by unfold Xj6;rw[if_pos (by omega)]
     have v:Xtk b0 b1 b2 b3=(((b0 - 240)*64+b1 % 64)*64+b2 % 64)*64+b3 % 64:=by unfold Xtk;rw[if_pos (by omega)]
     unfold Ynu
     rw[k,v]
     generalize hV:(((b0 - 240)*64+b1 % 64)*64+b2 % 64)*64+b3 % 64=V
     by_cases hC:n >= 4/\b0 < 248/\b1 / 64=2/\b2 / 64=2/\b3 / 64=2/\65536<=V/\V<=1114111
     ·have e:Lib.decodeN n b0 b1 b2 b3=(V,4):=by
       unfold Lib.decodeN
       rw[if_neg c1,if_neg (by omega),if_neg (by omega),if_pos (by omega),if_pos (by omega)]
       exact Prod.ext (by dsimp only;omega) rfl
      have g1:Xg5 V=true:=decide_eq_true (by omega)
      have g2:Xe6 V 4 b0 b1 b2 b3=true:=by
       unfold Xe6
       rw[if_neg (by omega),if_neg (by omega),if_neg (by omega)]
       exact decide_eq_true (by omega)
      rw[e,g1,g2,if_neg (show ¬ 4 > n by omega)]
      have:¬ V=65533:=by omega
      simp
     ·have e:Lib.decodeN n b0 b1 b2 b3=(65533,1):=by
       unfold Lib.decodeN
       rw[if_neg c1,if_neg (by omega),if_neg (by omega)]
       split
       ·rw[if_neg (by omega)]
       ·rfl
      rw[e]
      have:(if (65533,1).1=65533/\(65533,1).2=1 then ((0,0):Nat × Nat) else (65533,1))=(0,0):=by decide
      rw[this]
      by_cases hn4:4 > n
      ·rw[if_pos hn4]
      ·rw[if_neg hn4,if_neg]
       intro hb
       rw[Bool.and_eq_true] at hb
       obtain⟨g1,g2⟩:=hb
       have g1:=of_decide_eq_true g1
       unfold Xe6 at g2
       split at g2
       ·have:=of_decide_eq_true g2;omega
       ·split at g2
        ·have:=of_decide_eq_true g2;omega
        ·split at g2
         ·have:=of_decide_eq_true g2;omega
         ·have:=of_decide_eq_true g2;omega
end Go.Fw.L07
namespace Go.Fw.L07
open Go Go.Fw
open Go.Fw.Sh renaming intro->Kg
open Go.Fw renaming Xd2->Kf,Xcp->Kt,Xfl->Ku,Xco->Kl,Xeg->Km,Gx->Kn
open Go.Fw renaming Xdt->Kw, Xbs->Kw, Xbw->Kw, Xby->Kw, Xbz->Kw, Xhh->Kw, Xd3->Kw
open Go.Fw.Sh renaming intro->Kf
open Int renaming natCast_nonneg->Kq
open And renaming intro->Kp
open Go.Proofs.Tryz renaming prog->QP
set_option maxRecDepth 4000
variable {gp:Heap}
def Xao (s:ByteArray) (i:Nat):Nat:=(s.get! i).toNat
theorem Xdw (s:ByteArray) (i:Nat):Xao s i < 256:=(s.get! i).toNat_lt
theorem Xo8 {s:ByteArray} {p:Nat} (h:p < s.size):s[p]?=some (s.get! p):=by
 rw[getElem?_pos s p h]
 congr 1
 unfold ByteArray.get!
 exact (getElem!_pos s.data p h).symm
theorem Xo9 (a b:Nat):Int.tmod (a:Int) (b:Int)=((a % b:Nat):Int):=rfl
theorem Xgw (a b:Nat):Int.tdiv (a:Int) (b:Int)=((a / b:Nat):Int):=rfl
theorem Xly {n:Nat} (h:n < 256):(UInt8.ofNat n).toNat=n:=by simp;omega
theorem Xd5 (b:UInt8):inK .i64 (b.toNat:Int):=by
 have:=b.toNat_lt
 unfold inK;simp[IntKind.min,IntKind.max,IntKind.signed,IntKind.bits];omega
def Xb8 (v:Nat):List UInt8 :=
 if v < 128 then [UInt8.ofNat v]
 else if v < 2048 then [UInt8.ofNat (192+v / 64),UInt8.ofNat (128+v % 64)]
 else if v < 65536 then [UInt8.ofNat (224+v / 4096),UInt8.ofNat (128+v / 64 % 64),UInt8.ofNat (128+v % 64)]
 else [UInt8.ofNat (240+v / 262144),UInt8.ofNat (128+v / 4096 % 64),UInt8.ofNat (128+v / 64 % 64),UInt8.ofNat (128+v % 64)]
theorem Xri (v:Nat) (hv:v<=1114111):Does QP gp 159 [vi v] (vs ⟨(Xb8 v).toArray⟩):=by
 refine Wq2 ?_
 simp only[go_sem]
 have q1:Int.tdiv (v:Int) 64=((v / 64:Nat):Int):=Xgw v 64
 have q2:Int.tdiv (v:Int) 4096=((v / 4096:Nat):Int):=Xgw v 4096
 have q3:Int.tdiv (v:Int) 262144=((v / 262144:Nat):Int):=Xgw v 262144
 have m1:Int.tmod (v:Int) 64=((v % 64:Nat):Int):=Xo9 v 64
 have m2:Int.tmod ((v / 64:Nat):Int) 64=((v / 64 % 64:Nat):Int):=Xo9 (v / 64) 64
 have m3:Int.tmod ((v / 4096:Nat):Int) 64=((v / 4096 % 64:Nat):Int):=Xo9 (v / 4096) 64
 repeat' first|refine Kn rfl ?_|(refine Kw ?_;simp only[q1,q2,q3,m1,m2,m3,go_sem])|refine Kf ?_|(apply Kp<;>intro _<;>try (exfalso;omega))
 all_goals repeat' (refine Kp (by unfold inK;simp[IntKind.min,IntKind.max,IntKind.signed,IntKind.bits];omega) ?_)
 ·refine⟨[UInt8.ofNat v],⟨by simp,by simp[Xly (show v < 256 by omega)];simp only[IntKind.wrap_u8];omega⟩,Kg ?_⟩
  repeat' first|refine Kn rfl ?_|(refine Kw ?_;simp only[go_sem])|refine Kf ?_|(apply Kp<;>intro _<;>try (exfalso;omega))
  simp[Xb8,show v < 128 by omega]
 ·refine⟨[UInt8.ofNat (192+v / 64),UInt8.ofNat (128+v % 64)],⟨by simp,by simp only[List.map,Xly (show 192+v / 64 < 256 by omega),Xly (show 128+v % 64 < 256 by omega)];simp;simp only[IntKind.wrap_u8];omega⟩,Kg ?_⟩
  repeat' first|refine Kn rfl ?_|(refine Kw ?_;simp only[go_sem])|refine Kf ?_|(apply Kp<;>intro _<;>try (exfalso;omega))
  simp[Xb8,show ¬ v < 128 by omega,show v < 2048 by omega]
 ·refine⟨[UInt8.ofNat (224+v / 4096),UInt8.ofNat (128+v / 64 % 64),UInt8.ofNat (128+v % 64)],⟨by simp,by simp only[List.map,Xly (show 224+v / 4096 < 256 by omega),Xly (show 128+v / 64 % 64 < 256 by omega),Xly (show 128+v % 64 < 256 by omega)];simp;simp only[IntKind.wrap_u8];omega⟩,Kg ?_⟩
  repeat' first|refine Kn rfl ?_|(refine Kw ?_;simp only[go_sem])|refine Kf ?_|(apply Kp<;>intro _<;>try (exfalso;omega))
  simp[Xb8,show ¬ v < 128 by omega,show ¬ v < 2048 by omega,show v < 65536 by omega]
 ·refine⟨[UInt8.ofNat (240+v / 262144),UInt8.ofNat (128+v / 4096 % 64),UInt8.ofNat (128+v / 64 % 64),UInt8.ofNat (128+v % 64)],⟨by simp,by simp only[List.map,Xly (show 240+v / 262144 < 256 by omega),Xly (show 128+v / 4096 % 64 < 256 by omega),Xly (show 128+v / 64 % 64 < 256 by omega),Xly (show 128+v % 64 < 256 by omega)];simp;simp only[IntKind.wrap_u8];omega⟩,Kg ?_⟩
  repeat' first|refine Kn rfl ?_|(refine Kw ?_;simp only[go_sem])|refine Kf ?_|(apply Kp<;>intro _<;>try (exfalso;omega))
  simp[Xb8,show ¬ v < 128 by omega,show ¬ v < 2048 by omega,show ¬ v < 65536 by omega]
theorem Yv9 (v:Nat):Does QP gp 179 [vi v] (vb (Xg5 v)):=by
 refine Wrd ?_
 simp only[go_sem]
 repeat' first|refine Kn rfl ?_|(refine Kw ?_;simp only[go_sem])|refine Kf ?_|(apply Kp<;>intro _<;>try (exfalso;omega))
 all_goals (unfold Xg5;first|(simp;omega)|grind|trace_state)
def Xc1 (Xmv:Nat) (s:ByteArray) (p:Nat):Nat->Nat
 | 0=>Xmv
 | i+1=>64*Xc1 Xmv s p i+Xao s (p+(i+1)) % 64
theorem Xlz {Xmv:Nat} {s:ByteArray} {p:Nat} (hl:Xmv < 256):∀ i,Xc1 Xmv s p i < 256*64 ^ i
 | 0=>by simpa [Xc1] using hl
 | i+1=>by
  have:=Xlz (s:=s) (p:=p) hl i
  simp only[Xc1,Nat.pow_succ]
  omega
def Xa7 (b0:Nat):Nat:=if b0 >= 240 then b0 - 240 else if b0 >= 224 then b0 - 224 else if b0 >= 192 then b0 - 192 else b0
abbrev Xl0 (s:ByteArray) (p:Nat):Nat × Nat:=Ynu (s.size - p) (Xao s p) (Xao s (p+1)) (Xao s (p+2)) (Xao s (p+3))
theorem Ywa (s:ByteArray) (p:Nat):Xtk (Xao s p) (Xao s (p+1)) (Xao s (p+2)) (Xao s (p+3))=Xc1 (Xa7 (Xao s p)) s p (Xj6 (Xao s p) - 1):=by
 unfold Xtk Xa7 Xj6
 split
 ·simp[Xc1];omega
 ·split
  ·simp[Xc1];omega
  ·split
   ·simp[Xc1];omega
   ·simp[Xc1]
theorem Wre (s:ByteArray) (p k:Nat) (h:p+k<=s.size):(s.extract p (p+k)).data.toList=(List.range k).map fun i=>s.get! (p+i):=by
 have h':p+k<=s.data.size:=h
 rw[ByteArray.data_extract,Array.toList_extract,List.extract_eq_take_drop,Nat.add_sub_cancel_left]
 apply List.ext_getElem?
 intro i
 rw[List.getElem?_take,List.getElem?_map]
 by_cases hi:i < k
 ·rw[if_pos hi,List.getElem?_drop,List.getElem?_range hi]
  have hlt:p+i < s.data.toList.length:=by simp;omega
  rw[List.getElem?_eq_getElem hlt]
  simp[ByteArray.get!,getElem!_pos s.data (p+i) (by omega)]
 ·rw[if_neg hi,List.getElem?_eq_none (by simp;omega)];rfl
theorem Xmr {n:Nat} {b:UInt8} (h:n < 256):UInt8.ofNat n=b↔b.toNat=n:=by
 constructor
 ·rintro rfl;exact Xly h
 ·intro e;rw[<- e];simp
theorem Xj7 (s:ByteArray) (p k v:Nat) (hk:1<=k/\k<=4) (h:p+k<=s.size) (hv:v<=1114111) :
  decide ((⟨(Xb8 v).toArray⟩:ByteArray)=s.extract p (p+k))=Xe6 v k (Xao s p) (Xao s (p+1)) (Xao s (p+2)) (Xao s (p+3)):=by
 have e:((⟨(Xb8 v).toArray⟩:ByteArray)=s.extract p (p+k))↔Xb8 v=(List.range k).map fun i=>s.get! (p+i):=by
  rw[<- Wre s p k h]
  constructor
  ·intro h;rw[<- h]
  ·intro h;apply ByteArray.ext;apply Array.ext';simpa using h
 have:k=1\/k=2\/k=3\/k=4:=by omega
 have e2:decide ((⟨(Xb8 v).toArray⟩:ByteArray)=s.extract p (p+k))=decide (Xb8 v=(List.range k).map fun i=>s.get! (p+i)):=decide_eq_decide.2 e
 rw[e2]
 have r1:((List.range 1).map fun i=>s.get! (p+i))=[s.get! p]:=rfl
 have r2:((List.range 2).map fun i=>s.get! (p+i))=[s.get! p,s.get! (p+1)]:=rfl
 have r3:((List.range 3).map fun i=>s.get! (p+i))=[s.get! p,s.get! (p+1),s.get! (p+2)]:=rfl
 have r4:((List.range 4).map fun i=>s.get! (p+i))=[s.get! p,s.get! (p+1),s.get! (p+2),s.get! (p+3)]:=rfl
 unfold Xe6 Xao
 by_cases c1:v < 128
 ·have eb:Xb8 v=[UInt8.ofNat v]:=by unfold Xb8;rw[if_pos c1]
  rw[eb,if_pos c1,decide_eq_decide]
  have u:=fun b=>Xmr (b:=b) (show v < 256 by omega)
  rcases this with rfl|rfl|rfl|rfl <;> simp[r1,r2,r3,r4,u]
 ·rw[if_neg c1]
  by_cases c2:v < 2048
  ·have eb:Xb8 v=[UInt8.ofNat (192+v / 64),UInt8.ofNat (128+v % 64)]:=by unfold Xb8;rw[if_neg c1,if_pos c2]
   rw[eb,if_pos c2,decide_eq_decide]
   have u:=fun b=>Xmr (b:=b) (show 192+v / 64 < 256 by omega)
   have u2:=fun b=>Xmr (b:=b) (show 128+v % 64 < 256 by omega)
   rcases this with rfl|rfl|rfl|rfl <;> simp only[r1,r2,r3,r4,List.cons.injEq,u,u2,and_true,and_false,false_and,true_and,reduceCtorEq] <;> simp
  ·rw[if_neg c2]
   by_cases c3:v < 65536
   ·have eb:Xb8 v=[UInt8.ofNat (224+v / 4096),UInt8.ofNat (128+v / 64 % 64),UInt8.ofNat (128+v % 64)]:=by unfold Xb8;rw[if_neg c1,if_neg c2,if_pos c3]
    rw[eb,if_pos c3,decide_eq_decide]
    have u:=fun b=>Xmr (b:=b) (show 224+v / 4096 < 256 by omega)
    have u2:=fun b=>Xmr (b:=b) (show 128+v / 64 % 64 < 256 by omega)
    have u3:=fun b=>Xmr (b:=b) (show 128+v % 64 < 256 by omega)
    rcases this with rfl|rfl|rfl|rfl <;> simp only[r1,r2,r3,r4,List.cons.injEq,u,u2,u3,and_true,and_false,false_and,true_and,reduceCtorEq] <;> simp
   ·have eb:Xb8 v=[UInt8.ofNat (240+v / 262144),UInt8.ofNat (128+v / 4096 % 64),UInt8.ofNat (128+v / 64 % 64),UInt8.ofNat (128+v % 64)]:=by unfold Xb8;rw[if_neg c1,if_neg c2,if_neg c3]
    rw[eb,if_neg c3,decide_eq_decide]
    have u:=fun b=>Xmr (b:=b) (show 240+v / 262144 < 256 by omega)
    have u2:=fun b=>Xmr (b:=b) (show 128+v / 4096 % 64 < 256 by omega)
    have u3:=fun b=>Xmr (b:=b) (show 128+v / 64 % 64 < 256 by omega)
    have u4:=fun b=>Xmr (b:=b) (show 128+v % 64 < 256 by omega)
    rcases this with rfl|rfl|rfl|rfl <;> simp only[r1,r2,r3,r4,List.cons.injEq,u,u2,u3,u4,and_true,and_false,false_and,true_and,reduceCtorEq] <;> simp
theorem X0a {s:ByteArray} {p k Xmv:Nat} (hk:Xj6 (Xao s p)=k) (hl:Xa7 (Xao s p)=Xmv):Xl0 s p=if k > s.size - p then (0,0)
  else if Xg5 (Xc1 Xmv s p (k - 1)) && Xe6 (Xc1 Xmv s p (k - 1)) k (Xao s p) (Xao s (p+1)) (Xao s (p+2)) (Xao s (p+3)) then (Xc1 Xmv s p (k - 1),k) else (0,0):=by
 subst hk hl
 unfold Xl0 Ynu
 rw[Ywa]
set_option maxHeartbeats 1000000 in
theorem Jjn (s:ByteArray) (p:Nat) (hp:p < s.size) (hs:s.size < lenMax):Does QP gp 157 [vs s,vi p] (.tup [vi (Xl0 s p).1,vi (Xl0 s p).2]):=by
 refine Wqr ?_
 simp only[go_sem]
 have hb0:=Xo8 hp
 have hlt:=Xdw s p
 have hbn:Xao s p=(s.get! p).toNat:=rfl
 unfold lenMax at hs
 have k1:∀ a:Nat,a<=256->inK .i64 ((s.get! p).toNat - a:Int):=fun a ha=>by
  unfold inK;simp[IntKind.min,IntKind.max,IntKind.signed,IntKind.bits];omega
 have k2:=k1 240 (by omega)
 have k3:=k1 224 (by omega)
 have k4:=k1 192 (by omega)
 have k5:inK .i64 ((s.size:Int) - p):=Xaw (by omega)
 by_cases q1:(s.get! p).toNat >= 240
 ·have d1:decide (((s.get! p).toNat:Int) >= 240)=true:=decide_eq_true (by omega)
  have hk:Xj6 (Xao s p)=4:=by unfold Xj6;rw[hbn];rw[if_pos (by omega)]
  have hl:Xa7 (Xao s p)=(s.get! p).toNat - 240:=by unfold Xa7;rw[hbn];rw[if_pos (by omega)]
  have h1:=X0a hk rfl
  have kl:inK .i64 ((Xa7 (Xao s p):Nat):Int):=Xaw (by omega)
  have hacc:=fun i=>Xlz (s:=s) (p:=p) (show Xa7 (Xao s p) < 256 by omega) i
  have hle:((s.get! p).toNat:Int) - 240=((Xa7 (Xao s p):Nat):Int):=by rw[hl];omega
  by_cases hfit:4 > s.size - p
  ·rw[if_pos hfit] at h1
   rw[h1]
   repeat' first|refine Kn rfl ?_|(refine Kw ?_;simp only[d1,hle,go_sem])|refine Kf ?_|refine⟨p,_,⟨rfl,hb0⟩,Kg ?_⟩|refine⟨Xd5 _,?_⟩|refine⟨kl,?_⟩|refine⟨k2,?_⟩|refine⟨k3,?_⟩|refine⟨k4,?_⟩|refine⟨k5,?_⟩|(apply Kp<;>intro _<;>try (exfalso;omega))
   all_goals first|(exfalso;omega)|rfl|trace_state
  ·rw[if_neg hfit] at h1
   repeat' first|refine Kn rfl ?_|(refine Kw ?_;simp only[d1,hle,go_sem])|refine Kf ?_|refine⟨p,_,⟨rfl,hb0⟩,Kg ?_⟩|refine⟨Xd5 _,?_⟩|refine⟨kl,?_⟩|refine⟨k2,?_⟩|refine⟨k3,?_⟩|refine⟨k4,?_⟩|refine⟨k5,?_⟩|(apply Kp<;>intro _<;>try (exfalso;omega))
   all_goals first|(exfalso;omega)|skip
   refine Kt (fr 62 [(0,vs s),(1,vi p),(6,vi (Xc1 (Xa7 (Xao s p)) s p (0:Nat))),(7,vi 4),(8,.one (.d (.int .i64 ((0:Nat)+1))))]) ?_
   refine Km (fun mz sz=>∃ i:Nat,i<=4 - 1/\mz=4 - 1 - i/\(0<=i)/\sz=⟨fr 62 [(0,vs s),(1,vi p),(6,vi (Xc1 (Xa7 (Xao s p)) s p i)),(7,vi 4),(8,.one (.d (.int .i64 (i+1))))],[]⟩) (4 - 1) ⟨0,Nat.zero_le _,(Nat.sub_zero _).symm,?_,rfl⟩ ?_
   ·exact Nat.zero_le _
   rintro _ _ ⟨i,hi,rfl,-,rfl⟩
   simp only[go_sem]
   by_cases hil:i < 4 - 1
   ·have hb:=Xo8 (s:=s) (p:=p+(i+1)) (by omega)
    have hv:64*((Xc1 (Xa7 (Xao s p)) s p i:Nat):Int)+Int.tmod ((s.get! (p+(i+1))).toNat:Int) 64=((Xc1 (Xa7 (Xao s p)) s p (i+1):Nat):Int):=by
     rw[show Int.tmod ((s.get! (p+(i+1))).toNat:Int) 64=(((s.get! (p+(i+1))).toNat % 64:Nat):Int) from rfl]
     simp only[Xc1,Xao];omega
    have ha:=hacc i
    have hp4:64 ^ i<=64 ^ 3:=Nat.pow_le_pow_right (by omega) (by omega)
    have ha':Xc1 (Xa7 (Xao s p)) s p i<=256*64 ^ 3:=by omega
    have g1:inK .i64 (64*((Xc1 (Xa7 (Xao s p)) s p i:Nat):Int)):=Xaw (by omega)
    have g2:inK .i64 ((p:Int)+((i:Int)+1)):=Xaw (by omega)
    have ha2:=hacc (i+1)
    have hp5:64 ^ (i+1)<=64 ^ 3:=Nat.pow_le_pow_right (by omega) (by omega)
    have g3:inK .i64 ((Xc1 (Xa7 (Xao s p)) s p (i+1):Nat):Int):=Xaw (by omega)
    have g4:inK .i64 ((i:Int)+1+1):=Xaw (by omega)
    repeat' first|refine Kn rfl ?_|(refine Kw ?_;simp only[hv,go_sem])|refine Kf ?_|refine⟨p+(i+1),_,⟨by omega,hb⟩,Kg ?_⟩|refine⟨Xd5 _,?_⟩|refine⟨g1,?_⟩|refine⟨g2,?_⟩|refine⟨g3,?_⟩|refine⟨g4,?_⟩|(apply Kp<;>intro _<;>try (exfalso;omega))
    all_goals first|(exfalso;omega)|skip
    refine Kt (fr 62 [(0,vs s),(1,vi p),(6,vi (Xc1 (Xa7 (Xao s p)) s p (i+1))),(7,vi 4),(8,.one (.d (.int .i64 ((i+1)+1))))]) ?_
    refine Kl ⟨4 - 1 - (i+1),by omega,i+1,by omega,rfl,?_,rfl⟩
    exact Nat.zero_le _
   ·obtain rfl:4 - 1=i:=by omega
    have hs:=Yv9 (gp:=gp) (Xc1 (Xa7 (Xao s p)) s p (4 - 1))
    by_cases hsg:Xg5 (Xc1 (Xa7 (Xao s p)) s p (4 - 1))=true
    ·rw[hsg] at hs h1
     have hvm:Xc1 (Xa7 (Xao s p)) s p (4 - 1)<=1114111:=(of_decide_eq_true hsg).1
     have hbs:=Xri (gp:=gp) _ hvm
     have hbe:=Xj7 s p 4 _ (by omega) (by omega) hvm
     have g5:inK .i64 ((p:Int)+4):=Xaw (by omega)
     rw[Bool.true_and] at h1
     rw[h1,<- hbe]
     repeat' first|refine Kn rfl ?_|(refine Kw ?_;simp only[go_sem])|refine Kf ?_|refine⟨_,hs,Kg ?_⟩|refine⟨_,⟨hs,rfl⟩,Kg ?_⟩|refine⟨_,hbs,Kg ?_⟩|refine⟨_,⟨hbs,rfl⟩,Kg ?_⟩|refine⟨g5,?_⟩|refine⟨p,p+4,⟨rfl,by omega,by omega,by omega⟩,Kg ?_⟩|(apply Kp<;>intro _<;>try (exfalso;omega))
     all_goals first|(exfalso;omega)|skip
     all_goals (rename_i hx;simp at hx;simp[hx])
    ·have hsf:Xg5 (Xc1 (Xa7 (Xao s p)) s p (4 - 1))=false:=by simpa using hsg
     rw[hsf] at hs h1
     rw[Bool.false_and] at h1
     rw[h1]
     repeat' first|refine Kn rfl ?_|(refine Kw ?_;simp only[go_sem])|refine Kf ?_|refine⟨_,hs,Kg ?_⟩|refine⟨_,⟨hs,rfl⟩,Kg ?_⟩|(apply Kp<;>intro _<;>try (exfalso;omega))
     all_goals first|(exfalso;omega)|rfl|trace_state
 ·by_cases q2:(s.get! p).toNat >= 224
  ·have d1:decide (((s.get! p).toNat:Int) >= 240)=false:=decide_eq_false (by omega)
   have d2:decide (((s.get! p).toNat:Int) >= 224)=true:=decide_eq_true (by omega)
   have hk:Xj6 (Xao s p)=3:=by unfold Xj6;rw[hbn];rw[if_neg (by omega),if_pos (by omega)]
   have hl:Xa7 (Xao s p)=(s.get! p).toNat - 224:=by unfold Xa7;rw[hbn];rw[if_neg (by omega),if_pos (by omega)]
   have h1:=X0a hk rfl
   have kl:inK .i64 ((Xa7 (Xao s p):Nat):Int):=Xaw (by omega)
   have hacc:=fun i=>Xlz (s:=s) (p:=p) (show Xa7 (Xao s p) < 256 by omega) i
   have hle:((s.get! p).toNat:Int) - 224=((Xa7 (Xao s p):Nat):Int):=by rw[hl];omega
   by_cases hfit:3 > s.size - p
   ·rw[if_pos hfit] at h1
    rw[h1]
    repeat' first|refine Kn rfl ?_|(refine Kw ?_;simp only[d1,d2,hle,go_sem])|refine Kf ?_|refine⟨p,_,⟨rfl,hb0⟩,Kg ?_⟩|refine⟨Xd5 _,?_⟩|refine⟨kl,?_⟩|refine⟨k2,?_⟩|refine⟨k3,?_⟩|refine⟨k4,?_⟩|refine⟨k5,?_⟩|(apply Kp<;>intro _<;>try (exfalso;omega))
    all_goals first|(exfalso;omega)|rfl|trace_state
   ·rw[if_neg hfit] at h1
    repeat' first|refine Kn rfl ?_|(refine Kw ?_;simp only[d1,d2,hle,go_sem])|refine Kf ?_|refine⟨p,_,⟨rfl,hb0⟩,Kg ?_⟩|refine⟨Xd5 _,?_⟩|refine⟨kl,?_⟩|refine⟨k2,?_⟩|refine⟨k3,?_⟩|refine⟨k4,?_⟩|refine⟨k5,?_⟩|(apply Kp<;>intro _<;>try (exfalso;omega))
    all_goals first|(exfalso;omega)|skip
    refine Kt (fr 62 [(0,vs s),(1,vi p),(6,vi (Xc1 (Xa7 (Xao s p)) s p (0:Nat))),(7,vi 3),(8,.one (.d (.int .i64 ((0:Nat)+1))))]) ?_
    refine Km (fun mz sz=>∃ i:Nat,i<=3 - 1/\mz=3 - 1 - i/\(0<=i)/\sz=⟨fr 62 [(0,vs s),(1,vi p),(6,vi (Xc1 (Xa7 (Xao s p)) s p i)),(7,vi 3),(8,.one (.d (.int .i64 (i+1))))],[]⟩) (3 - 1) ⟨0,Nat.zero_le _,(Nat.sub_zero _).symm,?_,rfl⟩ ?_
    ·exact Nat.zero_le _
    rintro _ _ ⟨i,hi,rfl,-,rfl⟩
    simp only[go_sem]
    by_cases hil:i < 3 - 1
    ·have hb:=Xo8 (s:=s) (p:=p+(i+1)) (by omega)
     have hv:64*((Xc1 (Xa7 (Xao s p)) s p i:Nat):Int)+Int.tmod ((s.get! (p+(i+1))).toNat:Int) 64=((Xc1 (Xa7 (Xao s p)) s p (i+1):Nat):Int):=by
      rw[show Int.tmod ((s.get! (p+(i+1))).toNat:Int) 64=(((s.get! (p+(i+1))).toNat % 64:Nat):Int) from rfl]
      simp only[Xc1,Xao];omega
     have ha:=hacc i
     have hp4:64 ^ i<=64 ^ 3:=Nat.pow_le_pow_right (by omega) (by omega)
     have ha':Xc1 (Xa7 (Xao s p)) s p i<=256*64 ^ 3:=by omega
     have g1:inK .i64 (64*((Xc1 (Xa7 (Xao s p)) s p i:Nat):Int)):=Xaw (by omega)
     have g2:inK .i64 ((p:Int)+((i:Int)+1)):=Xaw (by omega)
     have ha2:=hacc (i+1)
     have hp5:64 ^ (i+1)<=64 ^ 3:=Nat.pow_le_pow_right (by omega) (by omega)
     have g3:inK .i64 ((Xc1 (Xa7 (Xao s p)) s p (i+1):Nat):Int):=Xaw (by omega)
     have g4:inK .i64 ((i:Int)+1+1):=Xaw (by omega)
     repeat' first|refine Kn rfl ?_|(refine Kw ?_;simp only[hv,go_sem])|refine Kf ?_|refine⟨p+(i+1),_,⟨by omega,hb⟩,Kg ?_⟩|refine⟨Xd5 _,?_⟩|refine⟨g1,?_⟩|refine⟨g2,?_⟩|refine⟨g3,?_⟩|refine⟨g4,?_⟩|(apply Kp<;>intro _<;>try (exfalso;omega))
     all_goals first|(exfalso;omega)|skip
     refine Kt (fr 62 [(0,vs s),(1,vi p),(6,vi (Xc1 (Xa7 (Xao s p)) s p (i+1))),(7,vi 3),(8,.one (.d (.int .i64 ((i+1)+1))))]) ?_
     refine Kl ⟨3 - 1 - (i+1),by omega,i+1,by omega,rfl,?_,rfl⟩
     exact Nat.zero_le _
    ·obtain rfl:3 - 1=i:=by omega
     have hs:=Yv9 (gp:=gp) (Xc1 (Xa7 (Xao s p)) s p (3 - 1))
     by_cases hsg:Xg5 (Xc1 (Xa7 (Xao s p)) s p (3 - 1))=true
     ·rw[hsg] at hs h1
      have hvm:Xc1 (Xa7 (Xao s p)) s p (3 - 1)<=1114111:=(of_decide_eq_true hsg).1
      have hbs:=Xri (gp:=gp) _ hvm
      have hbe:=Xj7 s p 3 _ (by omega) (by omega) hvm
      have g5:inK .i64 ((p:Int)+3):=Xaw (by omega)
      rw[Bool.true_and] at h1
      rw[h1,<- hbe]
      repeat' first|refine Kn rfl ?_|(refine Kw ?_;simp only[go_sem])|refine Kf ?_|refine⟨_,hs,Kg ?_⟩|refine⟨_,⟨hs,rfl⟩,Kg ?_⟩|refine⟨_,hbs,Kg ?_⟩|refine⟨_,⟨hbs,rfl⟩,Kg ?_⟩|refine⟨g5,?_⟩|refine⟨p,p+3,⟨rfl,by omega,by omega,by omega⟩,Kg ?_⟩|(apply Kp<;>intro _<;>try (exfalso;omega))
      all_goals first|(exfalso;omega)|skip
      all_goals (rename_i hx;simp at hx;simp[hx])
     ·have hsf:Xg5 (Xc1 (Xa7 (Xao s p)) s p (3 - 1))=false:=by simpa using hsg
      rw[hsf] at hs h1
      rw[Bool.false_and] at h1
      rw[h1]
      repeat' first|refine Kn rfl ?_|(refine Kw ?_;simp only[go_sem])|refine Kf ?_|refine⟨_,hs,Kg ?_⟩|refine⟨_,⟨hs,rfl⟩,Kg ?_⟩|(apply Kp<;>intro _<;>try (exfalso;omega))
      all_goals first|(exfalso;omega)|rfl|trace_state
  ·by_cases q3:(s.get! p).toNat >= 192
   ·have d1:decide (((s.get! p).toNat:Int) >= 240)=false:=decide_eq_false (by omega)
    have d2:decide (((s.get! p).toNat:Int) >= 224)=false:=decide_eq_false (by omega)
    have d3:decide (((s.get! p).toNat:Int) >= 192)=true:=decide_eq_true (by omega)
    have hk:Xj6 (Xao s p)=2:=by unfold Xj6;rw[hbn];rw[if_neg (by omega),if_neg (by omega),if_pos (by omega)]
    have hl:Xa7 (Xao s p)=(s.get! p).toNat - 192:=by unfold Xa7;rw[hbn];rw[if_neg (by omega),if_neg (by omega),if_pos (by omega)]
    have h1:=X0a hk rfl
    have kl:inK .i64 ((Xa7 (Xao s p):Nat):Int):=Xaw (by omega)
    have hacc:=fun i=>Xlz (s:=s) (p:=p) (show Xa7 (Xao s p) < 256 by omega) i
    have hle:((s.get! p).toNat:Int) - 192=((Xa7 (Xao s p):Nat):Int):=by rw[hl];omega
    by_cases hfit:2 > s.size - p
    ·rw[if_pos hfit] at h1
     rw[h1]
     repeat' first|refine Kn rfl ?_|(refine Kw ?_;simp only[d1,d2,d3,hle,go_sem])|refine Kf ?_|refine⟨p,_,⟨rfl,hb0⟩,Kg ?_⟩|refine⟨Xd5 _,?_⟩|refine⟨kl,?_⟩|refine⟨k2,?_⟩|refine⟨k3,?_⟩|refine⟨k4,?_⟩|refine⟨k5,?_⟩|(apply Kp<;>intro _<;>try (exfalso;omega))
     all_goals first|(exfalso;omega)|rfl|trace_state
    ·rw[if_neg hfit] at h1
     repeat' first|refine Kn rfl ?_|(refine Kw ?_;simp only[d1,d2,d3,hle,go_sem])|refine Kf ?_|refine⟨p,_,⟨rfl,hb0⟩,Kg ?_⟩|refine⟨Xd5 _,?_⟩|refine⟨kl,?_⟩|refine⟨k2,?_⟩|refine⟨k3,?_⟩|refine⟨k4,?_⟩|refine⟨k5,?_⟩|(apply Kp<;>intro _<;>try (exfalso;omega))
     all_goals first|(exfalso;omega)|skip
     refine Kt (fr 62 [(0,vs s),(1,vi p),(6,vi (Xc1 (Xa7 (Xao s p)) s p (0:Nat))),(7,vi 2),(8,.one (.d (.int .i64 ((0:Nat)+1))))]) ?_
     refine Km (fun mz sz=>∃ i:Nat,i<=2 - 1/\mz=2 - 1 - i/\(0<=i)/\sz=⟨fr 62 [(0,vs s),(1,vi p),(6,vi (Xc1 (Xa7 (Xao s p)) s p i)),(7,vi 2),(8,.one (.d (.int .i64 (i+1))))],[]⟩) (2 - 1) ⟨0,Nat.zero_le _,(Nat.sub_zero _).symm,?_,rfl⟩ ?_
     ·exact Nat.zero_le _
     rintro _ _ ⟨i,hi,rfl,-,rfl⟩
     simp only[go_sem]
     by_cases hil:i < 2 - 1
     ·have hb:=Xo8 (s:=s) (p:=p+(i+1)) (by omega)
      have hv:64*((Xc1 (Xa7 (Xao s p)) s p i:Nat):Int)+Int.tmod ((s.get! (p+(i+1))).toNat:Int) 64=((Xc1 (Xa7 (Xao s p)) s p (i+1):Nat):Int):=by
       rw[show Int.tmod ((s.get! (p+(i+1))).toNat:Int) 64=(((s.get! (p+(i+1))).toNat % 64:Nat):Int) from rfl]
       simp only[Xc1,Xao];omega
      have ha:=hacc i
      have hp4:64 ^ i<=64 ^ 3:=Nat.pow_le_pow_right (by omega) (by omega)
      have ha':Xc1 (Xa7 (Xao s p)) s p i<=256*64 ^ 3:=by omega
      have g1:inK .i64 (64*((Xc1 (Xa7 (Xao s p)) s p i:Nat):Int)):=Xaw (by omega)
      have g2:inK .i64 ((p:Int)+((i:Int)+1)):=Xaw (by omega)
      have ha2:=hacc (i+1)
      have hp5:64 ^ (i+1)<=64 ^ 3:=Nat.pow_le_pow_right (by omega) (by omega)
      have g3:inK .i64 ((Xc1 (Xa7 (Xao s p)) s p (i+1):Nat):Int):=Xaw (by omega)
      have g4:inK .i64 ((i:Int)+1+1):=Xaw (by omega)
      repeat' first|refine Kn rfl ?_|(refine Kw ?_;simp only[hv,go_sem])|refine Kf ?_|refine⟨p+(i+1),_,⟨by omega,hb⟩,Kg ?_⟩|refine⟨Xd5 _,?_⟩|refine⟨g1,?_⟩|refine⟨g2,?_⟩|refine⟨g3,?_⟩|refine⟨g4,?_⟩|(apply Kp<;>intro _<;>try (exfalso;omega))
      all_goals first|(exfalso;omega)|skip
      refine Kt (fr 62 [(0,vs s),(1,vi p),(6,vi (Xc1 (Xa7 (Xao s p)) s p (i+1))),(7,vi 2),(8,.one (.d (.int .i64 ((i+1)+1))))]) ?_
      refine Kl ⟨2 - 1 - (i+1),by omega,i+1,by omega,rfl,?_,rfl⟩
      exact Nat.zero_le _
     ·obtain rfl:2 - 1=i:=by omega
      have hs:=Yv9 (gp:=gp) (Xc1 (Xa7 (Xao s p)) s p (2 - 1))
      by_cases hsg:Xg5 (Xc1 (Xa7 (Xao s p)) s p (2 - 1))=true
      ·rw[hsg] at hs h1
       have hvm:Xc1 (Xa7 (Xao s p)) s p (2 - 1)<=1114111:=(of_decide_eq_true hsg).1
       have hbs:=Xri (gp:=gp) _ hvm
       have hbe:=Xj7 s p 2 _ (by omega) (by omega) hvm
       have g5:inK .i64 ((p:Int)+2):=Xaw (by omega)
       rw[Bool.true_and] at h1
       rw[h1,<- hbe]
       repeat' first|refine Kn rfl ?_|(refine Kw ?_;simp only[go_sem])|refine Kf ?_|refine⟨_,hs,Kg ?_⟩|refine⟨_,⟨hs,rfl⟩,Kg ?_⟩|refine⟨_,hbs,Kg ?_⟩|refine⟨_,⟨hbs,rfl⟩,Kg ?_⟩|refine⟨g5,?_⟩|refine⟨p,p+2,⟨rfl,by omega,by omega,by omega⟩,Kg ?_⟩|(apply Kp<;>intro _<;>try (exfalso;omega))
       all_goals first|(exfalso;omega)|skip
       all_goals (rename_i hx;simp at hx;simp[hx])
      ·have hsf:Xg5 (Xc1 (Xa7 (Xao s p)) s p (2 - 1))=false:=by simpa using hsg
       rw[hsf] at hs h1
       rw[Bool.false_and] at h1
       rw[h1]
       repeat' first|refine Kn rfl ?_|(refine Kw ?_;simp only[go_sem])|refine Kf ?_|refine⟨_,hs,Kg ?_⟩|refine⟨_,⟨hs,rfl⟩,Kg ?_⟩|(apply Kp<;>intro _<;>try (exfalso;omega))
       all_goals first|(exfalso;omega)|rfl|trace_state
   ·have d1:decide (((s.get! p).toNat:Int) >= 240)=false:=decide_eq_false (by omega)
    have d2:decide (((s.get! p).toNat:Int) >= 224)=false:=decide_eq_false (by omega)
    have d3:decide (((s.get! p).toNat:Int) >= 192)=false:=decide_eq_false (by omega)
    have hk:Xj6 (Xao s p)=1:=by unfold Xj6;rw[hbn];rw[if_neg (by omega),if_neg (by omega),if_neg (by omega)]
    have hl:Xa7 (Xao s p)=(s.get! p).toNat:=by unfold Xa7;rw[hbn];rw[if_neg (by omega),if_neg (by omega),if_neg (by omega)]
    have hl0:Xa7 (Xao s p)=Xao s p:=hl
    have h1:=X0a hk hl0
    have kl:inK .i64 ((Xa7 (Xao s p):Nat):Int):=Xaw (by omega)
    have hacc:=fun i=>Xlz (s:=s) (p:=p) (show Xa7 (Xao s p) < 256 by omega) i
    have hle:((s.get! p).toNat:Int)=((Xa7 (Xao s p):Nat):Int):=by rw[hl]
    by_cases hfit:1 > s.size - p
    ·rw[if_pos hfit] at h1
     rw[h1]
     repeat' first|refine Kn rfl ?_|(refine Kw ?_;simp only[d1,d2,d3,go_sem])|refine Kf ?_|refine⟨p,_,⟨rfl,hb0⟩,Kg ?_⟩|refine⟨Xd5 _,?_⟩|refine⟨kl,?_⟩|refine⟨k2,?_⟩|refine⟨k3,?_⟩|refine⟨k4,?_⟩|refine⟨k5,?_⟩|(apply Kp<;>intro _<;>try (exfalso;omega))
     all_goals first|(exfalso;omega)|rfl|trace_state
    ·rw[if_neg hfit] at h1
     repeat' first|refine Kn rfl ?_|(refine Kw ?_;simp only[d1,d2,d3,go_sem])|refine Kf ?_|refine⟨p,_,⟨rfl,hb0⟩,Kg ?_⟩|refine⟨Xd5 _,?_⟩|refine⟨kl,?_⟩|refine⟨k2,?_⟩|refine⟨k3,?_⟩|refine⟨k4,?_⟩|refine⟨k5,?_⟩|(apply Kp<;>intro _<;>try (exfalso;omega))
     all_goals first|(exfalso;omega)|skip
     refine Kt (fr 62 [(0,vs s),(1,vi p),(6,vi (Xc1 (Xao s p) s p (0:Nat))),(7,vi 1),(8,.one (.d (.int .i64 ((0:Nat)+1))))]) ?_
     refine Km (fun mz sz=>∃ i:Nat,i<=1 - 1/\mz=1 - 1 - i/\(0<=i)/\sz=⟨fr 62 [(0,vs s),(1,vi p),(6,vi (Xc1 (Xao s p) s p i)),(7,vi 1),(8,.one (.d (.int .i64 (i+1))))],[]⟩) (1 - 1) ⟨0,Nat.zero_le _,(Nat.sub_zero _).symm,?_,rfl⟩ ?_
     ·exact Nat.zero_le _
     rintro _ _ ⟨i,hi,rfl,-,rfl⟩
     simp only[go_sem]
     by_cases hil:i < 1 - 1
     ·exact absurd hil (by omega)
     ·obtain rfl:1 - 1=i:=by omega
      have hs:=Yv9 (gp:=gp) (Xc1 (Xao s p) s p (1 - 1))
      by_cases hsg:Xg5 (Xc1 (Xao s p) s p (1 - 1))=true
      ·rw[hsg] at hs h1
       have hvm:Xc1 (Xao s p) s p (1 - 1)<=1114111:=(of_decide_eq_true hsg).1
       have hbs:=Xri (gp:=gp) _ hvm
       have hbe:=Xj7 s p 1 _ (by omega) (by omega) hvm
       have g5:inK .i64 ((p:Int)+1):=Xaw (by omega)
       rw[Bool.true_and] at h1
       rw[h1,<- hbe]
       repeat' first|refine Kn rfl ?_|(refine Kw ?_;simp only[go_sem])|refine Kf ?_|refine⟨_,hs,Kg ?_⟩|refine⟨_,⟨hs,rfl⟩,Kg ?_⟩|refine⟨_,hbs,Kg ?_⟩|refine⟨_,⟨hbs,rfl⟩,Kg ?_⟩|refine⟨g5,?_⟩|refine⟨p,p+1,⟨rfl,by omega,by omega,by omega⟩,Kg ?_⟩|(apply Kp<;>intro _<;>try (exfalso;omega))
       all_goals first|(exfalso;omega)|skip
       all_goals (rename_i hx;simp at hx;simp[hx])
      ·have hsf:Xg5 (Xc1 (Xao s p) s p (1 - 1))=false:=by simpa using hsg
       rw[hsf] at hs h1
       rw[Bool.false_and] at h1
       rw[h1]
       repeat' first|refine Kn rfl ?_|(refine Kw ?_;simp only[go_sem])|refine Kf ?_|refine⟨_,hs,Kg ?_⟩|refine⟨_,⟨hs,rfl⟩,Kg ?_⟩|(apply Kp<;>intro _<;>try (exfalso;omega))
       all_goals first|(exfalso;omega)|rfl|trace_state
def Xej (s:ByteArray):Nat->Nat->Option (List Int)
 | 0,_=>some []
 | f+1,p=>if p < s.size then (if (Xl0 s p).2=0 then none else (Xej s f (p+(Xl0 s p).2)).map (((Xl0 s p).1:Int)::·)) else some []
theorem X2m (s:ByteArray) (p:Nat) (hp:p < s.size):(Xl0 s p).2<=s.size - p:=by
 unfold Xl0 Ynu
 split
 ·simp
 ·split
  ·simp;omega
  ·simp
theorem Yin {s:ByteArray} {f p:Nat} (h:¬ p < s.size):Xej s f p=some []:=by
 cases f with
 | zero=>rfl
 | succ f=>simp only[Xej,if_neg h]
set_option maxHeartbeats 1000000 in
theorem Y54 (s:ByteArray) (hs:s.size<=100000):Does QP gp 132 [vs s] (.tup [.one (.d (.sl (Xad ((Xej s s.size 0).getD [])))),vi (if (Xej s s.size 0).isSome then 0 else 40)]):=by
 refine Wp3 ?_
 simp only[go_sem]
 repeat' first|refine Kn rfl ?_|(refine Kw ?_;simp only[Xgv,go_sem])|refine Kf ?_|apply Kp<;>intro _
 refine Xeh 4 1 (by decide) rfl ?_
 simp only[go_sem]
 refine Kt (fr 28 [(0,vs s),(4,.one (.own 0 0)),(5,vi (0:Nat))]) ?_
 refine Km (fun mz sz=>∃ (p f:Nat) (out:List Int),mz=s.size - p/\s.size - p<=f/\(Xej s f p).map (out++·)=Xej s s.size 0/\out.length<=p/\p<=s.size/\sz=⟨fr 28 [(0,vs s),(4,.one (.own 0 out.length)),(5,vi p)],[.row 1 out.length (Xad out)]⟩) s.size ⟨0,s.size,[],rfl,Nat.le_refl _,by simp,Nat.le_refl _,Nat.zero_le _,rfl⟩ ?_
 rintro _ _ ⟨p,f,out,rfl,hf,hr,ho,hps,rfl⟩
 simp only[go_sem]
 by_cases hp:p < s.size
 ·obtain⟨f,rfl⟩:∃ g,f=g+1:=⟨f - 1,by omega⟩
  have c1:=Jjn (gp:=gp) s p hp (by unfold lenMax;omega)
  have hw:=X2m s p hp
  simp only[Xej,if_pos hp] at hr
  have e1:decide ((p:Int) < (s.size:Int))=true:=decide_eq_true (by omega)
  by_cases hz:(Xl0 s p).2=0
  ·rw[if_pos hz] at hr
   rw[<- hr]
   have e2:(((Xl0 s p).2:Int)==0)=true:=by rw[hz];rfl
   repeat' first|refine Kn rfl ?_|(refine Kw ?_;simp only[Xgv,e1,e2,go_sem])|refine Kf ?_|refine⟨_,c1,Kg ?_⟩|refine⟨_,⟨c1,rfl⟩,Kg ?_⟩|apply Kp<;>intro _
   all_goals simp
  ·rw[if_neg hz] at hr
   have e2:(((Xl0 s p).2:Int)==0)=false:=by simp;omega
   repeat' first|refine Kn rfl ?_|(refine Kw ?_;simp only[Xgv,e1,e2,go_sem])|refine Kf ?_|refine⟨_,c1,Kg ?_⟩|refine⟨_,⟨c1,rfl⟩,Kg ?_⟩|apply Kp<;>intro _
   refine⟨by first|omega|simp,by first|omega|(simp;omega),by first|(unfold lenMax;omega)|(simp[lenMax];omega),?_⟩
   rw[show Xad out++[[D.int .i64 ((Xl0 s p).1:Int)]]=Xad (out++[((Xl0 s p).1:Int)]) from by simp]
   have g1:inK .i64 ((p:Int)+((Xl0 s p).2:Int)):=Xaw (by omega)
   repeat' first|refine Kn rfl ?_|(refine Kw ?_;simp only[Xgv,go_sem])|refine Kf ?_|refine⟨g1,?_⟩|apply Kp<;>intro _
   have hlen:(out++[((Xl0 s p).1:Int)]).length=out.length+1:=by simp
   refine Kt (fr 28 [(0,vs s),(4,.one (.own 0 (out.length+1))),(5,.one (.d (.int .i64 (p+(Xl0 s p).2))))]) ?_
   refine Kl ⟨s.size - (p+(Xl0 s p).2),by omega,p+(Xl0 s p).2,f,out++[((Xl0 s p).1:Int)],rfl,by omega,?_,by simp;omega,by omega,by rw[hlen,Int.natCast_add];rfl⟩
   rw[<- hr]
   cases Xej s f (p+(Xl0 s p).2) <;> simp
 ·have e1:decide ((p:Int) < (s.size:Int))=false:=decide_eq_false (by omega)
  rw[Yin hp] at hr
  rw[<- hr]
  repeat' first|refine Kn rfl ?_|(refine Kw ?_;simp only[e1,go_sem])|refine Kf ?_|apply Kp<;>intro _
  refine Xap 0 ?_
  simp only[go_sem]
  repeat' first|refine Kn rfl ?_|(refine Kw ?_;simp only[Xgv,go_sem])|refine Kf ?_|apply Kp<;>intro _
  all_goals simp
theorem Xl1 (s:ByteArray):∀ f p:Nat,(Xej s f p).isSome=Xbh s f p
 | 0,_=>rfl
 | f+1,p=>by
  simp only[Xej,Xbh]
  by_cases hp:p < s.size
  ·rw[if_pos hp,if_pos hp]
   have h1:Xl0 s p=if (Utf8.decode s p).1=65533/\(Utf8.decode s p).2=1 then (0,0) else Utf8.decode s p:=by
    rw[Lib.decode_at]
    exact Xtl (by omega) (Xdw _ _) (Xdw _ _) (Xdw _ _) (Xdw _ _)
   have hw:=Lib.decode_width_pos s p hp
   by_cases hd:(Utf8.decode s p).1=65533/\(Utf8.decode s p).2=1
   ·rw[if_pos hd] at h1
    rw[h1,if_pos rfl,if_pos hd];rfl
   ·rw[if_neg hd] at h1
    rw[h1,if_neg (by omega),if_neg hd,Option.isSome_map]
    exact Xl1 s f _
  ·rw[if_neg hp,if_neg hp];rfl
theorem Y55 (s:ByteArray) (hs:s.size<=100000):Does QP gp 131 [vs s] (vb (Xas s)):=by
 refine Wpv ?_
 simp only[go_sem]
 have c1:=Y54 (gp:=gp) s hs
 have c2:=Xl1 s s.size 0
 unfold Xas
 rw[<- c2]
 generalize Xej s s.size 0=o at *
 repeat' first|refine Kn rfl ?_|(refine Kw ?_;simp only[go_sem])|refine Kf ?_|refine⟨_,c1,Kg ?_⟩|refine⟨_,⟨c1,rfl⟩,Kg ?_⟩|apply Kp<;>intro _
 all_goals (cases o <;> simp)
theorem Yio (x:Sc) (hs:x.s.size<=100000):Does QP gp 89 [x.v] (vb (prR Xas x)):=by
 refine W8s ?_
 simp only[go_sem]
 repeat' first|refine Kn rfl ?_|(refine Kw ?_;simp only[go_sem])|refine Kf ?_|refine⟨_,Y55 _ hs,Kg ?_⟩|refine⟨_,⟨Y55 _ hs,rfl⟩,Kg ?_⟩|apply Kp<;>intro _
 all_goals (first|(unfold prR Xfw;grind)|(cases x;simp_all [prR,Xfw];done)|trace_state)
set_option maxHeartbeats 1000000 in
theorem W92 (l:List Sc) (hl:l.length<=100):Does QP gp 198 [.one (.d (.sl (scs l)))] (vb (!decide l.Nodup)):=by
 refine Wmn ?_
 simp only[go_sem]
 repeat' first|refine Kn rfl ?_|(refine Kw ?_;simp only[go_sem])|refine Kf ?_|apply Kp<;>intro _
 refine Kt (fr 25 [(0,.one (.d (.sl (scs l)))),(3,vi (0:Nat))]) ?_
 refine Km (fun mz sz=>∃ i:Nat,i<=l.length/\mz=l.length - i/\((l.take i).Nodup)/\sz=⟨fr 25 [(0,.one (.d (.sl (scs l)))),(3,vi i)],[]⟩) (l.length) ⟨0,Nat.zero_le _,(Nat.sub_zero _).symm,?_,rfl⟩ ?_
 ·simp
 rintro _ _ ⟨i,hi,rfl,hz,rfl⟩
 simp only[go_sem]
 by_cases hil:i < l.length
 ·obtain⟨x,hx⟩:=Xaf hil
  have e1:decide ((i:Int) < (l.length:Int))=true:=decide_eq_true (by omega)
  repeat' first|refine Kn rfl ?_|(refine Kw ?_;simp only[e1,go_sem])|refine Kf ?_|apply Kp<;>intro _
  refine Kt (fr 25 [(0,.one (.d (.sl (scs l)))),(3,vi i),(4,vi (0:Nat))]) ?_
  refine Km (fun mz sz=>∃ j:Nat,j<=i/\mz=i - j/\(x ∉ l.take j)/\sz=⟨fr 25 [(0,.one (.d (.sl (scs l)))),(3,vi i),(4,vi j)],[]⟩) (i) ⟨0,Nat.zero_le _,(Nat.sub_zero _).symm,?_,rfl⟩ ?_
  ·simp
  rintro _ _ ⟨j,hj,rfl,hn,rfl⟩
  simp only[go_sem]
  by_cases hji:j < i
  ·obtain⟨y,hy⟩:=Xaf (l:=l) (i:=j) (by omega)
   have e2:decide ((j:Int) < (i:Int))=true:=decide_eq_true (by omega)
   repeat' first|refine Kn rfl ?_|(refine Kw ?_;simp only[e2,Xq6,go_sem])|refine Kf ?_|refine⟨_,⟨Kq _,(Xab hx),rfl⟩,Kg ?_⟩|refine⟨_,⟨Kq _,(Xab hy),rfl⟩,Kg ?_⟩|apply Kp<;>intro _
   ·rename_i h
    have hxy:x=y:=by simpa using h
    subst hxy
    have:¬ l.Nodup:=fun hnd=>by
     have:=List.pairwise_iff_getElem.1 hnd j i (by omega) hil hji
     rw[(List.getElem?_eq_some_iff.1 hx).2,(List.getElem?_eq_some_iff.1 hy).2] at this
     exact this rfl
    simp[this]
   ·rename_i h
    refine⟨Xai hji (by unfold lenMax;omega),?_⟩
    refine Kt (fr 25 [(0,.one (.d (.sl (scs l)))),(3,vi i),(4,vi (j+1))]) ?_
    refine Kl ⟨i - (j+1),by omega,j+1,by omega,rfl,?_,rfl⟩
    rw[List.take_succ,hy]
    simp only[List.mem_append,not_or]
    exact⟨hn,by simpa using h⟩
  ·obtain rfl:i=j:=by omega
   have e2:decide ((i:Int) < (i:Int))=false:=decide_eq_false (by omega)
   repeat' first|refine Kn rfl ?_|(refine Kw ?_;simp only[e2,go_sem])|refine Kf ?_|apply Kp<;>intro _
   refine⟨Xai hil (by unfold lenMax;omega),?_⟩
   refine Kt (fr 25 [(0,.one (.d (.sl (scs l)))),(3,vi (i+1))]) ?_
   refine Kl ⟨l.length - (i+1),by omega,i+1,by omega,rfl,?_,rfl⟩
   rw[List.take_succ,hx]
   rw[List.nodup_append]
   exact⟨hz,by simp,fun a ha b hb e=>by simp at hb;subst hb;subst e;exact hn ha⟩
 ·have e1:decide ((i:Int) < (l.length:Int))=false:=decide_eq_false (by omega)
  repeat' first|refine Kn rfl ?_|(refine Kw ?_;simp only[e1,go_sem])|refine Kf ?_|apply Kp<;>intro _
  rw[List.take_of_length_le (by omega)] at hz
  simp[hz]
def Sc.short (x:Sc):Prop:=x.s.size<=100000
def Nd.short (x:Nd):Prop:=x.keys.length<=12/\x.kids.length<=12/\x.x.short/\∀ y∈x.keys,y.short
theorem Xrj {R:ByteArray->Bool} {x:Nd} {n:Int} (h:Xa6 R x n=true):(∀ k∈x.kids,0<=k/\k < n)/\∀ y∈x.keys,prR R y=true:=by
 unfold Xa6 at h
 split at h
 ·unfold Yns at h
  simp at h
  rw[h.2.1,h.2.2];simp
 ·split at h
  ·unfold Yfk Xcq at h
   simp at h
   refine⟨fun k hk=>?_,by rw[h.2.1];simp⟩
   have:=h.2.2 k hk
   omega
  ·split at h
   ·unfold Ynt Xcq Xra at h
    simp at h
    refine⟨fun k hk=>?_,fun y hy=>h.2.2.1.1 y hy⟩
    have:=h.2.2.2 k hk
    omega
   ·cases h
theorem Jjo {α:Type} [DecidableEq α] (l:List α):((l.length:Int)==0)=decide (l=[]):=by
 cases l with
 | nil=>simp
 | cons a l=>simp;omega
theorem Wrf {l:List Int} {n:Int} (h:∀ k∈l,0<=k/\k < n):Xcq l n=true:=by
 unfold Xcq
 simp
 intro k hk
 have:=h k hk
 omega
set_option maxHeartbeats 2000000 in
theorem W93 (x:Nd) (n:Nat) (hs:x.short) (hn:n<=1000):Does QP gp 177 [x.v,vi n] (vb (Xa6 Xas x n)):=by
 obtain⟨h1,h2,h3,h4⟩:=hs
 refine Wlg ?_
 simp only[go_sem]
 repeat' first|refine Kn rfl ?_|(refine Kw ?_;simp only[go_sem])|refine Kf ?_|apply Kp<;>intro _
 refine Kt (fr 94 [(1,vi n),(2,.one (.d (.bx x.ds))),(5,vi (0:Nat))]) ?_
 refine Km (fun mz sz=>∃ i:Nat,i<=x.kids.length/\mz=x.kids.length - i/\(∀ k∈x.kids.take i,0<=k/\k < n)/\sz=⟨fr 94 [(1,vi n),(2,.one (.d (.bx x.ds))),(5,vi i)],[]⟩) (x.kids.length) ⟨0,Nat.zero_le _,(Nat.sub_zero _).symm,?_,rfl⟩ ?_
 ·simp
 rintro _ _ ⟨i,hi,rfl,hz,rfl⟩
 simp only[go_sem]
 by_cases hil:i < x.kids.length
 ·obtain⟨k,hk⟩:=Xaf hil
  have e1:decide ((i:Int) < (x.kids.length:Int))=true:=decide_eq_true (by omega)
  have bad:¬ (0<=k/\k < n)->false=Xa6 Xas x n:=fun hb=>by
   cases hr:Xa6 Xas x n with
   | false=>rfl
   | true=>exact absurd ((Xrj hr).1 k (List.mem_of_getElem? hk)) hb
  repeat' first|refine Kn rfl ?_|(refine Kw ?_;simp only[e1,go_sem])|refine Kf ?_|refine⟨_,⟨Kq _,(Xab hk),rfl⟩,Kg ?_⟩|(apply Kp<;>intro _<;>try (exfalso;omega))
  ·exact bad (by omega)
  ·refine⟨Xai hil (by unfold lenMax;omega),?_⟩
   refine Kt (fr 94 [(1,vi n),(2,.one (.d (.bx x.ds))),(5,vi (i+1))]) ?_
   refine Kl ⟨x.kids.length - (i+1),by omega,i+1,by omega,rfl,?_,rfl⟩
   intro k' hk'
   rw[List.take_succ,hk] at hk'
   rcases List.mem_append.1 hk' with hk'|hk'
   ·exact hz k' hk'
   ·simp at hk';subst hk';omega
  ·exact bad (by omega)
 ·have hkids:∀ k∈x.kids,0<=k/\k < n:=by rw[List.take_of_length_le (by omega)] at hz;exact hz
  have e1:decide ((i:Int) < (x.kids.length:Int))=false:=decide_eq_false (by omega)
  repeat' first|refine Kn rfl ?_|(refine Kw ?_;simp only[e1,go_sem])|refine Kf ?_|(apply Kp<;>intro _<;>try (exfalso;omega))
  all_goals first|(exfalso;omega)|skip
  clear hz hi hil e1
  refine Kt (fr 94 [(1,vi n),(2,.one (.d (.bx x.ds))),(6,vi (0:Nat))]) ?_
  refine Km (fun mz sz=>∃ i:Nat,i<=x.keys.length/\mz=x.keys.length - i/\(∀ k∈x.keys.take i,prR Xas k=true)/\sz=⟨fr 94 [(1,vi n),(2,.one (.d (.bx x.ds))),(6,vi i)],[]⟩) (x.keys.length) ⟨0,Nat.zero_le _,(Nat.sub_zero _).symm,?_,rfl⟩ ?_
  ·simp
  rintro _ _ ⟨i,hi,rfl,hz,rfl⟩
  simp only[go_sem]
  by_cases hil:i < x.keys.length
  ·obtain⟨k,hk⟩:=Xaf hil
   have e1:decide ((i:Int) < (x.keys.length:Int))=true:=decide_eq_true (by omega)
   have c1:=Yio (gp:=gp) k (h4 k (List.mem_of_getElem? hk))
   by_cases hb:prR Xas k=true
   ·rw[hb] at c1
    repeat' first|refine Kn rfl ?_|(refine Kw ?_;simp only[e1,go_sem])|refine Kf ?_|refine⟨_,c1,Kg ?_⟩|refine⟨_,⟨c1,rfl⟩,Kg ?_⟩|refine⟨_,⟨Kq _,(Xab hk),rfl⟩,Kg ?_⟩|(apply Kp<;>intro _<;>try (exfalso;omega))
    refine⟨Xai hil (by unfold lenMax;omega),?_⟩
    refine Kt (fr 94 [(1,vi n),(2,.one (.d (.bx x.ds))),(6,vi (i+1))]) ?_
    refine Kl ⟨x.keys.length - (i+1),by omega,i+1,by omega,rfl,?_,rfl⟩
    intro k' hk'
    rw[List.take_succ,hk] at hk'
    rcases List.mem_append.1 hk' with hk'|hk'
    ·exact hz k' hk'
    ·simp at hk';subst hk';exact hb
   ·have hbf:prR Xas k=false:=by simpa using hb
    rw[hbf] at c1
    repeat' first|refine Kn rfl ?_|(refine Kw ?_;simp only[e1,go_sem])|refine Kf ?_|refine⟨_,c1,Kg ?_⟩|refine⟨_,⟨c1,rfl⟩,Kg ?_⟩|refine⟨_,⟨Kq _,(Xab hk),rfl⟩,Kg ?_⟩|(apply Kp<;>intro _<;>try (exfalso;omega))
    cases hr:Xa6 Xas x n with
    | false=>rfl
    | true=>rw[(Xrj hr).2 k (List.mem_of_getElem? hk)] at hbf;cases hbf
  ·have hkeys:∀ k∈x.keys,prR Xas k=true:=by rw[List.take_of_length_le (by omega)] at hz;exact hz
   have e1:decide ((i:Int) < (x.keys.length:Int))=false:=decide_eq_false (by omega)
   have hki:=Wrf hkids
   have c1:=Yio (gp:=gp) x.x h3
   have c2:=W92 (gp:=gp) x.keys (by omega)
   have hall:x.keys.all (prR Xas)=true:=List.all_eq_true.2 hkeys
   have hn0:Xa6 Xas x n=if x.k=0 then (prR Xas x.x && (decide (x.keys=[]) && decide (x.kids=[]))) else if x.k=1 then (decide (x.x=⟨0,0,⟨#[]⟩⟩) && decide (x.keys=[]))
     else if x.k=2 then (decide (x.x=⟨0,0,⟨#[]⟩⟩) && (decide (x.keys.length=x.kids.length) && decide x.keys.Nodup)) else false:=by
    unfold Xa6 Yns Yfk Ynt isZ Xra
    rw[hki,hall]
    simp
   rw[hn0]
   repeat' first|refine Kn rfl ?_|(refine Kw ?_;simp only[e1,Xoy,Jjo,go_sem])|refine Kf ?_|refine⟨_,c1,Kg ?_⟩|refine⟨_,⟨c1,rfl⟩,Kg ?_⟩|refine⟨_,c2,Kg ?_⟩|refine⟨_,⟨c2,rfl⟩,Kg ?_⟩|(apply Kp<;>intro _<;>try (exfalso;omega))
   all_goals first|(exfalso;omega)|skip
   all_goals first|(simp_all;done)|(simp_all;omega)|grind|trace_state
set_option maxHeartbeats 1000000 in
theorem W94 (g:Gr) (hs:∀ x∈g.l,x.short):Does QP gp 153 [g.v] (.tup [vi ((chk g).getD (0,0)).1,vi ((chk g).getD (0,0)).2]):=by
 refine Wj6 ?_
 simp only[go_sem]
 by_cases h1:g.l.length > 200
 ·have e:chk g=some (0,71):=by unfold chk Xei;rw[if_pos h1]
  rw[e]
  repeat' first|refine Kn rfl ?_|(refine Kw ?_;simp only[go_sem])|refine Kf ?_|(apply Kp<;>intro _<;>try (exfalso;omega))
  all_goals first|(exfalso;omega)|simp
 ·by_cases h2:0<=g.root/\g.root < g.l.length
  ·have e:chk g=(g.l.findIdx? fun x=>!Xa6 Xas x g.l.length).map fun i=>((i:Int),70):=by unfold chk Xei;rw[if_neg h1,if_neg (fun h=>h h2)]
   repeat' first|refine Kn rfl ?_|(refine Kw ?_;simp only[go_sem])|refine Kf ?_|(apply Kp<;>intro _<;>try (exfalso;omega))
   all_goals first|(exfalso;omega)|skip
   refine Kt (fr 38 [(1,.one (.d (.bx [.int .i64 g.root,.sl (nds g.l)]))),(4,vi (0:Nat))]) ?_
   refine Km (fun mz sz=>∃ i:Nat,i<=g.l.length/\mz=g.l.length - i/\(∀ y∈g.l.take i,(!Xa6 Xas y g.l.length)=false)/\sz=⟨fr 38 [(1,.one (.d (.bx [.int .i64 g.root,.sl (nds g.l)]))),(4,vi i)],[]⟩) (g.l.length) ⟨0,Nat.zero_le _,(Nat.sub_zero _).symm,?_,rfl⟩ ?_
   ·simp
   rintro _ _ ⟨i,hi,rfl,hz,rfl⟩
   simp only[go_sem]
   by_cases hil:i < g.l.length
   ·obtain⟨x,hx⟩:=Xaf hil
    have c1:=W93 (gp:=gp) x g.l.length (hs x (List.mem_of_getElem? hx)) (by omega)
    have e1:decide ((i:Int) < (g.l.length:Int))=true:=decide_eq_true (by omega)
    by_cases hr:Xa6 Xas x g.l.length=true
    ·rw[hr] at c1
     repeat' first|refine Kn rfl ?_|(refine Kw ?_;simp only[e1,go_sem])|refine Kf ?_|refine⟨_,c1,Kg ?_⟩|refine⟨_,⟨c1,rfl⟩,Kg ?_⟩|refine⟨_,⟨Kq _,(Xab hx),rfl⟩,Kg ?_⟩|(apply Kp<;>intro _<;>try (exfalso;omega))
     refine⟨Xai hil (by unfold lenMax;omega),?_⟩
     refine Kt (fr 38 [(1,.one (.d (.bx [.int .i64 g.root,.sl (nds g.l)]))),(4,vi (i+1))]) ?_
     refine Kl ⟨g.l.length - (i+1),by omega,i+1,by omega,rfl,?_,rfl⟩
     exact Xfn hz hx (by rw[hr];rfl)
    ·have hrf:Xa6 Xas x g.l.length=false:=by simpa using hr
     rw[hrf] at c1
     rw[e,Yfl hz hx (by rw[hrf];rfl)]
     repeat' first|refine Kn rfl ?_|(refine Kw ?_;simp only[e1,go_sem])|refine Kf ?_|refine⟨_,c1,Kg ?_⟩|refine⟨_,⟨c1,rfl⟩,Kg ?_⟩|refine⟨_,⟨Kq _,(Xab hx),rfl⟩,Kg ?_⟩|(apply Kp<;>intro _<;>try (exfalso;omega))
     all_goals simp
   ·have e1:decide ((i:Int) < (g.l.length:Int))=false:=decide_eq_false (by omega)
    rw[e,Xrb (by rw[List.take_of_length_le (by omega)] at hz;exact hz)]
    repeat' first|refine Kn rfl ?_|(refine Kw ?_;simp only[e1,go_sem])|refine Kf ?_|(apply Kp<;>intro _<;>try (exfalso;omega))
    all_goals simp
  ·have e:chk g=some (-1,70):=by unfold chk Xei;rw[if_neg h1,if_pos h2]
   rw[e]
   repeat' first|refine Kn rfl ?_|(refine Kw ?_;simp only[go_sem])|refine Kf ?_|(apply Kp<;>intro _<;>try (exfalso;omega))
   all_goals first|(exfalso;omega)|simp
theorem Ywb (g h:Gr) (hg:g.l.length<=1000):Does QP gp 88 [g.v,h.v] (vb (decide (g=h))):=by
 refine W5b ?_
 simp only[go_sem]
 have ne1:g.root≠h.root->false=decide (g=h):=fun hr=>by
  have:g≠h:=fun e=>hr (by rw[e])
  simp[this]
 have ne2:g.l≠h.l->false=decide (g=h):=fun hr=>by
  have:g≠h:=fun e=>hr (by rw[e])
  simp[this]
 repeat' first|refine Kn rfl ?_|(refine Kw ?_;simp only[go_sem])|refine Kf ?_|(apply Kp<;>intro _<;>try (exfalso;omega))
 ·rename_i h1 h2
  exact ne2 (Xng h2)
 ·rename_i h1 h2
  have hroot:g.root=h.root:=by simpa using h1
  have hlen:g.l.length=h.l.length:=by simp at h2;omega
  refine Kt (fr 67 [(2,.one (.d (.bx [.int .i64 g.root,.sl (nds g.l)]))),(3,.one (.d (.bx [.int .i64 h.root,.sl (nds h.l)]))),(5,vi (0:Nat))]) ?_
  refine Km (fun mz sz=>∃ i:Nat,i<=g.l.length/\mz=g.l.length - i/\(g.l.take i=h.l.take i)/\sz=⟨fr 67 [(2,.one (.d (.bx [.int .i64 g.root,.sl (nds g.l)]))),(3,.one (.d (.bx [.int .i64 h.root,.sl (nds h.l)]))),(5,vi i)],[]⟩) (g.l.length) ⟨0,Nat.zero_le _,(Nat.sub_zero _).symm,?_,rfl⟩ ?_
  ·simp
  rintro _ _ ⟨i,hi,rfl,hz,rfl⟩
  simp only[go_sem]
  by_cases hil:i < g.l.length
  ·obtain⟨x,hx⟩:=Xaf hil
   obtain⟨y,hy⟩:=Xaf (l:=h.l) (i:=i) (by omega)
   have e1:decide ((i:Int) < (g.l.length:Int))=true:=decide_eq_true (by omega)
   have bad:x≠y->false=decide (g=h):=fun hxy=>ne2 (X2d hx hy hxy)
   have c1:=Yua (gp:=gp) x.keys y.keys
   have c2:=Wnw (gp:=gp) x.kids y.kids
   repeat' first|refine Kn rfl ?_|(refine Kw ?_;simp only[e1,Xq6,go_sem])|refine Kf ?_|refine⟨_,c1,Kg ?_⟩|refine⟨_,⟨c1,rfl⟩,Kg ?_⟩|refine⟨_,c2,Kg ?_⟩|refine⟨_,⟨c2,rfl⟩,Kg ?_⟩|refine⟨_,⟨Kq _,(Xab hx),rfl⟩,Kg ?_⟩|refine⟨_,⟨Kq _,(Xab hy),rfl⟩,Kg ?_⟩|(apply Kp<;>intro _<;>try (exfalso;omega))
   all_goals first|(exact bad (fun e=>by subst e;simp_all;done))|skip
   rename_i q1 q2 q3 q4
   have hxy:x=y:=by
    cases x;cases y
    simp at q1 q2 q3 q4
    simp[q1,q2,q3,q4]
   refine⟨Xai hil (by unfold lenMax;omega),?_⟩
   refine Kt (fr 67 [(2,.one (.d (.bx [.int .i64 g.root,.sl (nds g.l)]))),(3,.one (.d (.bx [.int .i64 h.root,.sl (nds h.l)]))),(5,vi (i+1))]) ?_
   refine Ku 0 ?_
   simp only[go_sem]
   refine Kl ⟨g.l.length - (i+1),by omega,i+1,by omega,rfl,?_,rfl⟩
   exact Xiw hz hx hy hxy
  ·have e1:decide ((i:Int) < (g.l.length:Int))=false:=decide_eq_false (by omega)
   have hl:g.l=h.l:=by rw[List.take_of_length_le (by omega),List.take_of_length_le (by omega)] at hz;exact hz
   repeat' first|refine Kn rfl ?_|(refine Kw ?_;simp only[e1,go_sem])|refine Kf ?_|(apply Kp<;>intro _<;>try (exfalso;omega))
   rw[<- W6w];simp[hroot,hl]
 ·rename_i h1
  exact ne1 (by simpa using h1)
end Go.Fw.L07
