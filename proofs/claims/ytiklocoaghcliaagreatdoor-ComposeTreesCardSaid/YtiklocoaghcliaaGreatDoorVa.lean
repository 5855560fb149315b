/- Chapter 4,plain: a sign by definition,and as Go's library reads it. -/
import Derived.Lib.DecodeN
import Derived.Test.YtiklocoaghcliaaGreatDoorLc
import Derived.Test.YtiklocoaghcliaaGreatDoorL07L04Mini
set_option linter.all false
namespace Go.Fw.L07
open Go
def oneK (b0 : Nat) : Nat := if b0 >= 240 then 4 else if b0 >= 224 then 3 else if b0 >= 192 then 2 else 1
def oneV (b0 b1 b2 b3 : Nat) : Nat :=
 if b0 >= 240 then (((b0 - 240) * 64 + b1 % 64) * 64 + b2 % 64) * 64 + b3 % 64
 else if b0 >= 224 then ((b0 - 224) * 64 + b1 % 64) * 64 + b2 % 64
 else if b0 >= 192 then (b0 - 192) * 64 + b1 % 64 else b0
def signN (v : Nat) : Bool := decide (v <= 1114111 /\ (v < 55296 \/ v > 57343))
def bytesN (v k b0 b1 b2 b3 : Nat) : Bool :=
 if v < 128 then decide (k = 1 /\ b0 = v)
 else if v < 2048 then decide (k = 2 /\ b0 = 192 + v / 64 /\ b1 = 128 + v % 64)
 else if v < 65536 then decide (k = 3 /\ b0 = 224 + v / 4096 /\ b1 = 128 + v / 64 % 64 /\ b2 = 128 + v % 64)
 else decide (k = 4 /\ b0 = 240 + v / 262144 /\ b1 = 128 + v / 4096 % 64 /\ b2 = 128 + v / 64 % 64 /\ b3 = 128 + v % 64)
def oneN (n b0 b1 b2 b3 : Nat) : Nat × Nat :=
 if oneK b0 > n then (0,0)
 else if signN (oneV b0 b1 b2 b3) && bytesN (oneV b0 b1 b2 b3) (oneK b0) b0 b1 b2 b3 then (oneV b0 b1 b2 b3,oneK b0) else (0,0)
end Go.Fw.L07
namespace Go.Fw.L07
open Go Go.Fw
set_option maxRecDepth 4000
variable {gp : Heap}
def byteN (s : ByteArray) (i : Nat) : Nat := (s.get! i).toNat
def bytesL (v : Nat) : List UInt8 :=
 if v < 128 then [UInt8.ofNat v]
 else if v < 2048 then [UInt8.ofNat (192 + v / 64),UInt8.ofNat (128 + v % 64)]
 else if v < 65536 then [UInt8.ofNat (224 + v / 4096),UInt8.ofNat (128 + v / 64 % 64),UInt8.ofNat (128 + v % 64)]
 else [UInt8.ofNat (240 + v / 262144),UInt8.ofNat (128 + v / 4096 % 64),UInt8.ofNat (128 + v / 64 % 64),UInt8.ofNat (128 + v % 64)]
def accN (lead : Nat) (s : ByteArray) (p : Nat) : Nat -> Nat
 | 0 => lead
 | i + 1 => 64 * accN lead s p i + byteN s (p + (i + 1)) % 64
def leadN (b0 : Nat) : Nat := if b0 >= 240 then b0 - 240 else if b0 >= 224 then b0 - 224 else if b0 >= 192 then b0 - 192 else b0
abbrev oneS (s : ByteArray) (p : Nat) : Nat × Nat := oneN (s.size - p) (byteN s p) (byteN s (p + 1)) (byteN s (p + 2)) (byteN s (p + 3))
def signsF (s : ByteArray) : Nat -> Nat -> Option (List Int)
 | 0,_ => some []
 | f + 1,p => if p < s.size then (if (oneS s p).2 = 0 then none else (signsF s f (p + (oneS s p).2)).map (((oneS s p).1 : Int) :: ·)) else some []
def Sc.short (x : Sc) : Prop := x.s.size <= 100000
def Nd.short (x : Nd) : Prop := x.keys.length <= 12 /\ x.kids.length <= 12 /\ x.x.short /\ ∀ y ∈ x.keys,y.short
end Go.Fw.L07
