/- Chapter 7,part 15: the law on finds. -/
import Derived.Test.YtejnfjophhnaeaaGreatDoorL07P
set_option linter.all false
namespace Go.Fw.L07
open Go Go.Fw
set_option maxRecDepth 4000
variable {gp : Heap}
theorem Xk6 {l : List Nd} {i : Int} (h : 0 <= i /\ i < l.length) : ndAt l i ∈ l := by
 unfold ndAt
 rw [if_pos h]
 have : i.toNat < l.length := by omega
 rw [List.getElem?_eq_getElem this]
 exact List.getElem_mem this
theorem Xhx {l : List Nd} {i : Int} (h : ¬ (0 <= i /\ i < l.length)) : ndAt l i = Nd.zero := by unfold ndAt; rw [if_neg h]
theorem Xep {x : Nd} {n : Int} (h : Xa9 Xal x n = true) (hk : x.k = 2) : x.keys.length = x.kids.length /\ x.keys.Nodup /\ ∀ j ∈ x.kids,0 <= j /\ j < n := by
 unfold Xa9 at h
 rw [hk] at h
 simp [mapR,Xq9,Xdi] at h
 obtain ⟨_,h1,⟨_,h2⟩,h3⟩ := h
 exact ⟨h1,h2,fun j hj => by simpa using h3 j hj⟩
theorem X6n {x : Nd} {n : Int} (h : Xa9 Xal x n = true) (hk : x.k = 1) : x.keys = [] /\ ∀ j ∈ x.kids,0 <= j /\ j < n := by
 unfold Xa9 at h
 rw [hk] at h
 simp [seqR,Xdi] at h
 obtain ⟨_,h1,h3⟩ := h
 exact ⟨h1,fun j hj => by simpa using h3 j hj⟩
theorem Xf4 {x : Nd} (h : x.keys.length = x.kids.length) : (zips x).map Pr.key = x.keys := by
 unfold zips
 rw [List.map_zipWith]
 have : (fun a b => (Pr.mk a b).key) = fun (a : Sc) (_ : Int) => a := rfl
 rw [this]
 apply List.ext_getElem?
 intro i
 rw [List.getElem?_zipWith]
 cases ha : x.keys[i]? with
 | none => rfl
 | some a =>
  have hi := (List.getElem?_eq_some_iff.1 ha).1
  obtain ⟨b,hb⟩ := Xak (l := x.kids) (i := i) (by omega)
  rw [hb]
end Go.Fw.L07
