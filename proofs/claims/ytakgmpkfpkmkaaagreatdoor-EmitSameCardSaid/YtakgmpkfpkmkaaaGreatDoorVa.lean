/- Chapter 4,plain: a sign by definition,and as Go's library reads it. -/
import Derived.Lib.DecodeN
import Derived.Test.YtakgmpkfpkmkaaaGreatDoorLc
import Derived.Test.YtakgmpkfpkmkaaaGreatDoorL07L04Mini
set_option linter.all false
namespace Go.Fw.L07
open Go
def X1g (b0:Nat):Nat:=if b0 >= 240 then 4 else if b0 >= 224 then 3 else if b0 >= 192 then 2 else 1
def X1h (b0 b1 b2 b3:Nat):Nat :=
 if b0 >= 240 then (((b0 - 240)*64+b1 % 64)*64+b2 % 64)*64+b3 % 64
 else if b0 >= 224 then ((b0 - 224)*64+b1 % 64)*64+b2 % 64
 else if b0 >= 192 then (b0 - 192)*64+b1 % 64 else b0
def Ycz (v:Nat):Bool:=decide (v<=1114111/\(v < 55296\/v > 57343))
def Xg6 (v k b0 b1 b2 b3:Nat):Bool :=
 if v < 128 then decide (k=1/\b0=v)
 else if v < 2048 then decide (k=2/\b0=192+v / 64/\b1=128+v % 64)
 else if v < 65536 then decide (k=3/\b0=224+v / 4096/\b1=128+v / 64 % 64/\b2=128+v % 64)
 else decide (k=4/\b0=240+v / 262144/\b1=128+v / 4096 % 64/\b2=128+v / 64 % 64/\b3=128+v % 64)
def Ywq (n b0 b1 b2 b3:Nat):Nat × Nat :=
 if X1g b0 > n then (0,0)
 else if Ycz (X1h b0 b1 b2 b3) && Xg6 (X1h b0 b1 b2 b3) (X1g b0) b0 b1 b2 b3 then (X1h b0 b1 b2 b3,X1g b0) else (0,0)
set_option maxHeartbeats 4000000 in
theorem Wbo {n b0 b1 b2 b3:Nat} (hn:1<=n) (h0:b0 < 256) (h1:b1 < 256) (h2:b2 < 256) (h3:b3 < 256) :
  Ywq n b0 b1 b2 b3=if (Lib.decodeN n b0 b1 b2 b3).1=65533/\(Lib.decodeN n b0 b1 b2 b3).2=1 then (0,0) else Lib.decodeN n b0 b1 b2 b3:=by
 by_cases c1:b0 < 128
 ·have e:Lib.decodeN n b0 b1 b2 b3=(b0,1):=by unfold Lib.decodeN;rw[if_pos c1]
  have k:X1g b0=1:=by unfold X1g;rw[if_neg (by omega),if_neg (by omega),if_neg (by omega)]
  have v:X1h b0 b1 b2 b3=b0:=by unfold X1h;rw[if_neg (by omega),if_neg (by omega),if_neg (by omega)]
  have s:Ycz b0=true:=decide_eq_true (by omega)
  have b:Xg6 b0 1 b0 b1 b2 b3=true:=by unfold Xg6;rw[if_pos c1];simp
  unfold Ywq
  rw[e,k,v,s,b,if_neg (show ¬ 1 > n by omega)]
  have:¬ b0=65533:=by omega
  simp[this]
 ·by_cases c2:b0 < 192
  ·have e:Lib.decodeN n b0 b1 b2 b3=(65533,1):=by
    unfold Lib.decodeN
    rw[if_neg c1,if_neg (by omega),if_neg (by omega),if_neg (by omega)]
   have k:X1g b0=1:=by unfold X1g;rw[if_neg (by omega),if_neg (by omega),if_neg (by omega)]
   have v:X1h b0 b1 b2 b3=b0:=by unfold X1h;rw[if_neg (by omega),if_neg (by omega),if_neg (by omega)]
   have b:Xg6 b0 1 b0 b1 b2 b3=false:=by unfold Xg6;rw[if_neg c1,if_pos (by omega)];simp
   unfold Ywq
   rw[e,k,v,b,if_neg (by omega)]
   simp
  ·by_cases c3:b0 < 224
   ·have k:X1g b0=2:=by unfold X1g;rw[if_neg (by omega),if_neg (by omega),if_pos (by omega)]
    have v:X1h b0 b1 b2 b3=(b0 - 192)*64+b1 % 64:=by unfold X1h;rw[if_neg (by omega),if_neg (by omega),if_pos (by omega)]
    unfold Ywq
    rw[k,v]
    unfold Lib.decodeN Ycz Xg6
    grind
   ·by_cases c4:b0 < 240
    ·have k:X1g b0=3:=by unfold X1g;rw[if_neg (by omega),if_pos (by omega)]
     have v:X1h b0 b1 b2 b3=((b0 - 224)*64+b1 % 64)*64+b2 % 64:=by unfold X1h;rw[if_neg (by omega),if_pos (by omega)]
     unfold Ywq
     rw[k,v]
     unfold Lib.decodeN Ycz Xg6
     grind
    ·have k:X1g b0=4:=by unfold X1g;rw[if_pos (by omega)]
     have v:X1h b0 b1 b2 b3=(((b0 - 240)*64+b1 % 64)*64+b2 % 64)*64+b3 % 64:=by unfold X1h;rw[if_pos (by omega)]
     unfold Ywq
     rw[k,v]
     generalize hV:(((b0 - 240)*64+b1 % 64)*64+b2 % 64)*64+b3 % 64=V
     by_cases hC:n >= 4/\b0 < 248/\b1 / 64=2/\b2 / 64=2/\b3 / 64=2/\65536<=V/\V<=1114111
     ·have e:Lib.decodeN n b0 b1 b2 b3=(V,4):=by
       unfold Lib.decodeN
       rw[if_neg c1,if_neg (by omega),if_neg (by omega),if_pos (by omega),if_pos (by omega)]
       exact Prod.ext (by dsimp only;omega) rfl
      have g1:Ycz V=true:=decide_eq_true (by omega)
      have g2:Xg6 V 4 b0 b1 b2 b3=true:=by
       unfold Xg6
       rw[if_neg (by omega),if_neg (by omega),if_neg (by omega)]
       exact decide_eq_true (by omega)
      rw[e,g1,g2,if_neg (show ¬ 4 > n by omega)]
      have:¬ V=65533:=by omega
      simp
     ·have e:Lib.decodeN n b0 b1 b2 b3=(65533,1):=by
       unfold Lib.decodeN
       rw[if_neg c1,if_neg (by omega),if_neg (by omega)]
       split
       ·rw[if_neg (by omega)]
       ·rfl
      rw[e]
      have:(if (65533,1).1=65533/\(65533,1).2=1 then ((0,0):Nat × Nat) else (65533,1))=(0,0):=by decide
      rw[this]
      by_cases hn4:4 > n
      ·rw[if_pos hn4]
      ·rw[if_neg hn4,if_neg]
       intro hb
       rw[Bool.and_eq_true] at hb
       obtain⟨g1,g2⟩:=hb
       have g1:=of_decide_eq_true g1
       unfold Xg6 at g2
       split at g2
       ·have:=of_decide_eq_true g2;omega
       ·split at g2
        ·have:=of_decide_eq_true g2;omega
        ·split at g2
         ·have:=of_decide_eq_true g2;omega
         ·have:=of_decide_eq_true g2;omega
end Go.Fw.L07
namespace Go.Fw.L07
open Go Go.Fw
set_option maxRecDepth 4000
variable {gp:Heap}
def Yc0 (s:ByteArray) (i:Nat):Nat:=(s.get! i).toNat
def Wz3 (v:Nat):List UInt8 :=
 if v < 128 then [UInt8.ofNat v]
 else if v < 2048 then [UInt8.ofNat (192+v / 64),UInt8.ofNat (128+v % 64)]
 else if v < 65536 then [UInt8.ofNat (224+v / 4096),UInt8.ofNat (128+v / 64 % 64),UInt8.ofNat (128+v % 64)]
 else [UInt8.ofNat (240+v / 262144),UInt8.ofNat (128+v / 4096 % 64),UInt8.ofNat (128+v / 64 % 64),UInt8.ofNat (128+v % 64)]
def W0q (X2d:Nat) (s:ByteArray) (p:Nat):Nat->Nat
 | 0=>X2d
 | i+1=>64*W0q X2d s p i+Yc0 s (p+(i+1)) % 64
def W0r (b0:Nat):Nat:=if b0 >= 240 then b0 - 240 else if b0 >= 224 then b0 - 224 else if b0 >= 192 then b0 - 192 else b0
abbrev Wyr (s:ByteArray) (p:Nat):Nat × Nat:=Ywq (s.size - p) (Yc0 s p) (Yc0 s (p+1)) (Yc0 s (p+2)) (Yc0 s (p+3))
def Wrd (s:ByteArray):Nat->Nat->Option (List Int)
 | 0,_=>some []
 | f+1,p=>if p < s.size then (if (Wyr s p).2=0 then none else (Wrd s f (p+(Wyr s p).2)).map (((Wyr s p).1:Int)::·)) else some []
def Sc.short (x:Sc):Prop:=x.s.size<=100000
def Nd.short (x:Nd):Prop:=x.keys.length<=12/\x.kids.length<=12/\x.x.short/\∀ y∈x.keys,y.short
end Go.Fw.L07
