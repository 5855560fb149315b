/- Chapter 10,part 1: the library's builders of texts: what their first look does,what they hand over. (Turned from the kit's contracts.) -/
import Derived.Shelf.Strings.Builder1
import Derived.Test.YtiklocoaghcliaaGreatDoorLc
import Derived.Test.YtiklocoaghcliaaGreatDoorL07L04Mini
import Derived.Test.YtiklocoaghcliaaGreatDoorJa
import Derived.Shelf.Strconv.Itoa3
import Derived.Test.YtiklocoaghcliaaGreatDoorLa
import Derived.Test.YtiklocoaghcliaaGreatDoorVa
import Derived.Test.YtiklocoaghcliaaGreatDoorL07L10Mini
set_option linter.all false
namespace Go.Fw.L07
open Go Go.Shelf Go.RowKit Go.Proofs
variable {P : Program} {ρ : Ren}
end Go.Fw.L07
namespace Go.Fw.L07
open Go Go.Fw Go.Shelf
set_option maxRecDepth 4000
variable {gp : Heap}
def bldRen : Ren := ⟨fun | 169 => 152 | 240 => 158 | 276 => 162 | n => n,
 fun | 20 => 20 | 37 => 187 | 70 => 242 | 72 => 244 | 127 => 254 | 164 => 157 | n => n,
 fun n => n⟩
abbrev TB : TypeId := 244
abbrev TU : TypeId := 5
end Go.Fw.L07
namespace Go.Fw.L07
open Go Go.Fw
set_option maxRecDepth 4000
variable {gp : Heap}
abbrev vr (r : Int) : V := .one (.d (.int .i32 r))
def i32s (l : List Int) : List (List D) := l.map fun r => [.int .i32 r]
def shortM : Ch := .map [(vr 10,vr 110),(vr 9,vr 116),(vr 13,vr 114)]
def boolT (b : Bool) : ByteArray := if b then ⟨#[116,114,117,101]⟩ else ⟨#[102,97,108,115,101]⟩
def shortE (r : Int) : Option V := if r = 10 then some (vr 110) else if r = 9 then some (vr 116) else if r = 13 then some (vr 114) else none
abbrev digs : ByteArray := ByteArray.mk #[48,49,50,51,52,53,54,55,56,57,97,98,99,100,101,102]
def laid10 (s : ByteArray) (p : Nat) (done : List Int) : Prop := ∃ f : Nat,s.size - p <= f /\ rightFrom s f p = true /\ done ++ (sgF s f p).flatMap pcR = (sgS s).flatMap pcR /\ done.length <= 4 * p /\ p <= s.size
end Go.Fw.L07
namespace Go.Fw.L07
open Go Go.Fw Go.Shelf
set_option maxRecDepth 4000
variable {gp : Heap}
def itoaRen : Ren := ⟨fun | 129 => 124 | 171 => 31 | 243 => 56 | 246 => 78 | 283 => 102 | 284 => 103 | 285 => 104 | 286 => 105 | 317 => 123 | 318 => 125 | 319 => 126 | 320 => 127 | 337 => 144 | 338 => 145 | n => n,
 fun | 0 => 0 | 2 => 2 | 3 => 3 | 4 => 4 | 5 => 5 | 9 => 9 | 20 => 20 | 37 => 187 | 46 => 212 | 51 => 226 | 53 => 184 | 171 => 183 | 173 => 188 | 212 => 225 | 213 => 227 | 232 => 249 | 233 => 250 | n => n,
 fun | 17 => 4 | 18 => 5 | 19 => 6 | n => n⟩
theorem itoaLays : Go.Proofs.LaysM.n171 Go.Proofs.Tryz.prog itoaRen := {
 mixed := by kernel_rfl
 f129 := by kernel_rfl
 f171 := by kernel_rfl
 f243 := by kernel_rfl
 f246 := by kernel_rfl
 f283 := by kernel_rfl
 f284 := by kernel_rfl
 f285 := by kernel_rfl
 f286 := by kernel_rfl
 f317 := by kernel_rfl
 f318 := by kernel_rfl
 f319 := by kernel_rfl
 f320 := by kernel_rfl
 f337 := by kernel_rfl
 f338 := by kernel_rfl
 t0 := by kernel_rfl
 a0 := fun w => by kernel_rfl
 z0 := fun w => by kernel_rfl
 v0 := fun w => by kernel_rfl
 t2 := by kernel_rfl
 a2 := fun w => by kernel_rfl
 z2 := fun w => by kernel_rfl
 v2 := fun w => by kernel_rfl
 t3 := by kernel_rfl
 a3 := fun w => by kernel_rfl
 z3 := fun w => by kernel_rfl
 v3 := fun w => by kernel_rfl
 t4 := by kernel_rfl
 a4 := fun w => by kernel_rfl
 z4 := fun w => by kernel_rfl
 v4 := fun w => by kernel_rfl
 t5 := by kernel_rfl
 a5 := fun w => by kernel_rfl
 z5 := fun w => by kernel_rfl
 v5 := fun w => by kernel_rfl
 t9 := by kernel_rfl
 a9 := fun w => by kernel_rfl
 z9 := fun w => by kernel_rfl
 v9 := fun w => by kernel_rfl
 t20 := by kernel_rfl
 a20 := fun w => by kernel_rfl
 z20 := fun w => by kernel_rfl
 v20 := fun w => by kernel_rfl
 t37 := by kernel_rfl
 a37 := fun w => by kernel_rfl
 z37 := fun w => by kernel_rfl
 v37 := fun w => by kernel_rfl
 t46 := by kernel_rfl
 a46 := fun w => by kernel_rfl
 z46 := fun w => by kernel_rfl
 v46 := fun w => by kernel_rfl
 t51 := by kernel_rfl
 a51 := fun w => by kernel_rfl
 z51 := fun w => by kernel_rfl
 v51 := fun w => by kernel_rfl
 t53 := by kernel_rfl
 a53 := fun w => by kernel_rfl
 z53 := fun w => by kernel_rfl
 v53 := fun w => by kernel_rfl
 t171 := by kernel_rfl
 a171 := fun w => by kernel_rfl
 z171 := fun w => by kernel_rfl
 v171 := fun w => by kernel_rfl
 t173 := by kernel_rfl
 a173 := fun w => by kernel_rfl
 z173 := fun w => by kernel_rfl
 v173 := fun w => by kernel_rfl
 t212 := by kernel_rfl
 a212 := fun w => by kernel_rfl
 z212 := fun w => by kernel_rfl
 v212 := fun w => by kernel_rfl
 t213 := by kernel_rfl
 a213 := fun w => by kernel_rfl
 z213 := fun w => by kernel_rfl
 t232 := by kernel_rfl
 a232 := fun w => by kernel_rfl
 z232 := fun w => by kernel_rfl
 v232 := fun w => by kernel_rfl
 t233 := by kernel_rfl
 a233 := fun w => by kernel_rfl
 z233 := fun w => by kernel_rfl
 v233 := fun w => by kernel_rfl
 g17 := by kernel_rfl
 g18 := by kernel_rfl
 g19 := by kernel_rfl
 i0 := by kernel_rfl
 i2 := by kernel_rfl
 i3 := by kernel_rfl
 i4 := by kernel_rfl
 i5 := by kernel_rfl
 i9 := by kernel_rfl
 i20 := by kernel_rfl
 i37 := by kernel_rfl
 i46 := by kernel_rfl
 i51 := by kernel_rfl
 i53 := by kernel_rfl
 i171 := by kernel_rfl
 i173 := by kernel_rfl
 i212 := by kernel_rfl
 i232 := by kernel_rfl
 i233 := by kernel_rfl
 m17 := by kernel_rfl
 m18 := by kernel_rfl
 m19 := by kernel_rfl
}
def PowOK (gp : Heap) : Prop := ∀ H w, Heap.Le gp H -> Models w H -> Lib.TabIs Go.Proofs.Tryz.prog w "internal/strconv.uint64pow10" .u64 Lib.pow10Tab
theorem itoa10 (hP : PowOK gp) (n : Int) (h0 : -9223372036854775808 <= n) (h1 : n <= 9223372036854775807) : Does Go.Proofs.Tryz.prog gp 31 [vi n] (vs ⟨(Lib.itoa n).toArray⟩) := by
 refine ⟨by kernel_rfl,?_⟩
 intro H w an F us hgp hmod hanc hown hF hdj hargs
 obtain ⟨u,rfl,hu⟩ : ∃ u,us = [u] /\ Den H (.int .i64 n) u := by
  cases us with
  | nil => exact hargs.elim
  | cons u us => cases us with
   | nil => exact ⟨u,rfl,hargs.1⟩
   | cons _ _ => exact hargs.2.elim
 cases hu
 have hc := Go.Proofs.Any.strconv_Itoa itoaLays n h0 h1 w (hP H w hgp hmod)
 intro cs
 obtain ⟨e,w',fr,⟨rfl,k,os,rfl⟩,h2,h3,h4⟩ := hc cs
 have hblk : ∀ b,b < w.heap.size -> (Go.Sort.grow (w.drewN k) os).heap[b]? = w.heap[b]? := fun b hb => by
  show (w.heap ++ os)[b]? = _
  rw [Array.getElem?_append,if_pos hb]
 refine ⟨_,Go.Sort.grow (w.drewN k) os,fr,⟨_,_,[],H,fun _ => none,fun _ _ => False,rfl,⟨rfl,rfl⟩,⟨rfl,rfl,rfl,by simp [Go.Sort.grow,World.drewN],fun b hlt _ => hblk b hlt⟩,Heap.Le.refl _,fun b o hbo => ?_,fun b o hbo => .inl hbo,⟨fun i p hp => ?_⟩,by simp,by simp,by simp,by simp,Den.str _⟩,h2,h3,h4⟩
 ·have := hmod b o hbo
  exact (hblk b (Array.getElem?_eq_some_iff.1 this).1).trans this
 ·have := (hanc i).1 ⟨p,hp⟩; simp at this
end Go.Fw.L07
namespace Go.Fw.L07
open Go Go.Fw
set_option maxRecDepth 4000
variable {gp : Heap}
def bT (l : List UInt8) : ByteArray := ⟨l.toArray⟩
abbrev okI (n : Int) : Prop := -9223372036854775808 <= n /\ n <= 9223372036854775807
end Go.Fw.L07
