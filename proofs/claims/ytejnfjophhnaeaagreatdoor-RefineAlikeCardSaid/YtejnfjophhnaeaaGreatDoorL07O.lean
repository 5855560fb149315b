/- Chapter 7,part 13: the laws on roots and finds. -/
import Derived.Test.YtejnfjophhnaeaaGreatDoorLc
set_option linter.all false
namespace Go.Fw.L07
open Go Go.Fw
set_option maxRecDepth 4000
variable {gp : Heap}
theorem Xph {g : Gr} (h : chk g = none) : g.l.length <= 200 /\ (0 <= g.root /\ g.root < g.l.length) /\ ∀ x ∈ g.l,Xa9 Xal x g.l.length = true := by
 unfold chk Xe4 at h
 split at h
 ·cases h
 ·split at h
  ·cases h
  ·rename_i h1 h2
   refine ⟨by omega,Classical.not_not.1 h2,?_⟩
   cases e : g.l.findIdx? fun x => !Xa9 Xal x g.l.length with
   | none =>
    rw [List.findIdx?_eq_none_iff] at e
    intro x hx; simpa using e x hx
   | some i => rw [e] at h; cases h
theorem X6g {g : Gr} (h1 : g.l.length <= 200) (h2 : 0 <= g.root /\ g.root < g.l.length) (h3 : ∀ x ∈ g.l,Xa9 Xal x g.l.length = true) : chk g = none := by
 unfold chk Xe4
 rw [if_neg (by omega),if_neg (Classical.not_not.2 h2),List.findIdx?_eq_none_iff.2 fun x hx => by simp [h3 x hx]]
 rfl
theorem Yyu {g : Gr} (h1 : g.l.length <= 200) (h2 : ¬ (0 <= g.root /\ g.root < g.l.length)) : chk g = some (-1,70) := by
 unfold chk Xe4
 rw [if_neg (by omega),if_pos h2]
theorem Ygv {g : Gr} (h : chk g ≠ none) : ∃ a e,chk g = some (a,e) /\ e ≠ 0 := by
 unfold chk Xe4 at h ⊢
 split
 ·exact ⟨_,_,rfl,by decide⟩
 ·split
  ·exact ⟨_,_,rfl,by decide⟩
  ·cases e : g.l.findIdx? fun x => !Xa9 Xal x g.l.length with
   | none => rename_i h1 h2; rw [if_neg h1,if_neg h2,e] at h; exact absurd rfl h
   | some i => exact ⟨_,_,rfl,by decide⟩
end Go.Fw.L07
