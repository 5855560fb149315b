/- Chapter 7: kids as own rows. -/
import Derived.Test.YtakgmpkfpkmkaaaGreatDoorL07R
import Derived.Test.YtakgmpkfpkmkaaaGreatDoorJb
import Derived.Test.YtakgmpkfpkmkaaaGreatDoorL07L10Mini
set_option linter.all false
namespace Go.Fw
open Go
section
variable {S : Sx} {Y : Dyn} {k : List MI} {s : St} {a : Act} {w w' : World} {H : Heap} {an : Anc} {F : Nat -> Nat -> Prop} {ms : List Nat}
end
end Go.Fw
namespace Go.Fw.L07
open Go Go.Fw
set_option maxRecDepth 4000
variable {gp : Heap}
def kidV (x : Nd) : Nat := if x.k = 1 then 1 else (pairsOf x).length
abbrev pD (g : Gr) (c : List Int) : V := .one (.d (.bx [.int .i64 g.root,.sl (nds g.l),.sl (ints c)]))
theorem pcL_len : ∀ l : List Int,(l.flatMap pcR).length <= 4 * l.length
 | [] => Nat.le_refl _
 | r :: l => by
  have h1 := pc_len r
  have h2 := pcL_len l
  simp only [List.flatMap_cons,List.length_append,List.length_cons]
  omega
theorem sgF_len (s : ByteArray) : ∀ (f p : Nat),(sgF s f p).length <= f
 | 0,p => by simp [sgF]
 | f + 1,p => by
  have := sgF_len s f (p + (Utf8.decode s p).2)
  simp only [sgF]
  split <;> simp <;> omega
theorem scB_len {x : Sc} (h : prR rightS x = true) (hs : x.short) : (scB x).length <= 1700000 := by
 have hk := prR_kind h
 unfold maxNum at hk
 unfold scB
 split
 ·simp
 ·split
  ·cases decide (x.n = 1) <;> simp [boolB]
  ·split
   ·have := Lib.itoa_length_le x.n (by omega) (by omega)
    omega
   ·unfold quoB sgS
    have h1 := encL_len ((sgF x.s x.s.size 0).flatMap pcR)
    have h2 := pcL_len (sgF x.s x.s.size 0)
    have h3 := sgF_len x.s x.s.size 0
    unfold Sc.short at hs
    simp only [List.length_cons,List.length_append,List.length_nil]
    omega
end Go.Fw.L07
