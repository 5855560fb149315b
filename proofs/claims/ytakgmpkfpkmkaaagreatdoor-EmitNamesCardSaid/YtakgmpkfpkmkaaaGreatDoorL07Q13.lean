/- Chapters 4,6,13,by definition: texts of scalars,numbers' digits. -/
import Derived.Test.YtakgmpkfpkmkaaaGreatDoorVa
import Derived.Test.YtakgmpkfpkmkaaaGreatDoorJc
import Derived.Test.YtakgmpkfpkmkaaaGreatDoorMa
set_option linter.all false
namespace Go.Fw.L07
open Go Go.Fw
set_option maxRecDepth 4000
variable {gp : Heap}
theorem bT_size' (l : List UInt8) : (bT l).size = l.length := by show l.toArray.size = _; simp
theorem bT_app' (a b : List UInt8) : bT a ++ bT b = bT (a ++ b) := bT_app a b
theorem dec_cut : ∀ u : Nat,u < 10 -> (⟨#[48,49,50,51,52,53,54,55,56,57]⟩ : ByteArray).extract u (u + 1) = bT [UInt8.ofNat (48 + u)] := by
 intro u h
 have : u = 0 \/ u = 1 \/ u = 2 \/ u = 3 \/ u = 4 \/ u = 5 \/ u = 6 \/ u = 7 \/ u = 8 \/ u = 9 := by omega
 rcases this with rfl | rfl | rfl | rfl | rfl | rfl | rfl | rfl | rfl | rfl <;> rfl
theorem decD_len (u : Nat) (h : u < 1000000000000000000) : (Lib.decDigits u).length <= 21 := by
 have := Lib.itoa_length_le (u : Int) (by omega) (by omega)
 unfold Lib.itoa at this
 rw [if_neg (by omega),Int.toNat_natCast] at this
 exact this
end Go.Fw.L07
