/- Chapter 4,plain: a sign by definition,and as Go's library reads it. -/
import Derived.Lib.DecodeN
set_option linter.all false
namespace Go.Fw.L07
open Go
def oneK (b0 : Nat) : Nat := if b0 >= 240 then 4 else if b0 >= 224 then 3 else if b0 >= 192 then 2 else 1
def oneV (b0 b1 b2 b3 : Nat) : Nat :=
 if b0 >= 240 then (((b0 - 240) * 64 + b1 % 64) * 64 + b2 % 64) * 64 + b3 % 64
 else if b0 >= 224 then ((b0 - 224) * 64 + b1 % 64) * 64 + b2 % 64
 else if b0 >= 192 then (b0 - 192) * 64 + b1 % 64 else b0
def signN (v : Nat) : Bool := decide (v <= 1114111 /\ (v < 55296 \/ v > 57343))
def bytesN (v k b0 b1 b2 b3 : Nat) : Bool :=
 if v < 128 then decide (k = 1 /\ b0 = v)
 else if v < 2048 then decide (k = 2 /\ b0 = 192 + v / 64 /\ b1 = 128 + v % 64)
 else if v < 65536 then decide (k = 3 /\ b0 = 224 + v / 4096 /\ b1 = 128 + v / 64 % 64 /\ b2 = 128 + v % 64)
 else decide (k = 4 /\ b0 = 240 + v / 262144 /\ b1 = 128 + v / 4096 % 64 /\ b2 = 128 + v / 64 % 64 /\ b3 = 128 + v % 64)
def oneN (n b0 b1 b2 b3 : Nat) : Nat × Nat :=
 if oneK b0 > n then (0,0)
 else if signN (oneV b0 b1 b2 b3) && bytesN (oneV b0 b1 b2 b3) (oneK b0) b0 b1 b2 b3 then (oneV b0 b1 b2 b3,oneK b0) else (0,0)
end Go.Fw.L07
