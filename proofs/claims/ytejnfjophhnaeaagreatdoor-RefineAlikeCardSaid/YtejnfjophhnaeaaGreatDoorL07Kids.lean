/- Chapter 7: the law on kids. -/
import Derived.Test.YtejnfjophhnaeaaGreatDoorL07Q
set_option linter.all false
namespace Go.Fw.L07
open Go Go.Fw
set_option maxRecDepth 4000
variable {gp : Heap}
theorem Xhy {x : Nd} {n : Int} (h : Xa9 Xal x n = true) (hk : x.k = 0) : x.keys = [] /\ x.kids = [] := by
 unfold Xa9 at h
 rw [if_pos hk] at h
 unfold oneR at h
 simp at h
 exact ⟨h.2.1,h.2.2⟩
theorem Xf5 {x : Nd} {n : Int} (h : Xa9 Xal x n = true) : x.k = 0 \/ x.k = 1 \/ x.k = 2 := by
 unfold Xa9 at h
 split at h
 ·exact .inl ‹_›
 ·split at h
  ·exact .inr (.inl ‹_›)
  ·split at h
   ·exact .inr (.inr ‹_›)
   ·cases h
theorem Xvj {x : Nd} (h : x.keys.length = x.kids.length) : (zips x).map Pr.kid = x.kids := by
 unfold zips
 rw [List.map_zipWith]
 apply List.ext_getElem?
 intro i
 rw [List.getElem?_zipWith]
 cases hb : x.kids[i]? with
 | none =>
  have : x.keys[i]? = none := by
   rw [List.getElem?_eq_none_iff] at hb ⊢; omega
  rw [this]
 | some b =>
  have hi := (List.getElem?_eq_some_iff.1 hb).1
  obtain ⟨a,ha⟩ := Xak (l := x.keys) (i := i) (by omega)
  rw [ha]
theorem Xb7 {x : Nd} (hk : x.k = 2) (hl : x.keys.length = x.kids.length) : Xab x = srt (zips x) := by unfold Xab; rw [if_pos ⟨hk,hl⟩]
theorem Xcx {x : Nd} (hk : x.k ≠ 2) : Xab x = [] := by unfold Xab; rw [if_neg (fun h => hk h.1)]
structure KidsOK (x : Nd) (n : Int) : Prop where
 inn : ∀ k ∈ Xaf x,0 <= k /\ k < n
 len : (Xaf x).length = x.kids.length
 keys2 : x.k = 2 -> (Xah x).length = (Xaf x).length
 keys0 : x.k ≠ 2 -> Xah x = []
 find : ∀ (j : Nat) (key : Sc),(Xah x)[j]? = some key -> ∃ kid,(Xaf x)[j]? = some kid /\ Yk1 x key = (kid,true)
 up : ∀ (j : Nat) (a b : Sc),(Xah x)[j]? = some a -> (Xah x)[j + 1]? = some b -> Xq6 a b < 0
theorem X6o {l : List Sc} {m : List Int} {key : Sc} {kid : Int} {j : Nat} (hn : l.Nodup) (h1 : l[j]? = some key) (h2 : m[j]? = some kid) : X38 l m key = (kid,true) := by
 unfold X38
 have hf : (List.zip l m).find? (fun p => decide (p.1 = key)) = some (key,kid) := by
  have hz : (List.zip l m)[j]? = some (key,kid) := List.getElem?_zip_eq_some.2 ⟨h1,h2⟩
  obtain ⟨hj,he⟩ := List.getElem?_eq_some_iff.1 hz
  rw [List.find?_eq_some_iff_getElem]
  refine ⟨by simp,j,hj,he,fun i hi => ?_⟩
  have hil : i < l.length := by simp at hj; omega
  have hjl := (List.getElem?_eq_some_iff.1 h1)
  have : l[i] ≠ key := by
   rw [<- hjl.2]
   exact fun e => (List.pairwise_iff_getElem.1 hn i j hil hjl.1 hi) e
  simpa using this
 rw [hf]
theorem Xit {x : Nd} {n : Int} (h : Xa9 Xal x n = true) : KidsOK x n := by
 by_cases hk : x.k = 2
 ·obtain ⟨h1,h2,h3⟩ := Xep h hk
  have hp := Xb7 hk h1
  have hkids : Xaf x = (srt (zips x)).map Pr.kid := by unfold Xaf; rw [if_neg (by omega),hp]
  have hkeys : Xah x = (srt (zips x)).map Pr.key := by unfold Xah; rw [hp]
  have hlen : (srt (zips x)).length = x.keys.length := by rw [(Xdd _).length_eq]; unfold zips; simp [<- h1]
  refine ⟨?_,?_,?_,fun h => absurd hk h,?_,?_⟩
  ·intro k hm
   rw [hkids,((Xdd (zips x)).map Pr.kid).mem_iff,Xvj h1] at hm
   exact h3 k hm
  ·rw [hkids,List.length_map,hlen,h1]
  ·intro _; rw [hkids,hkeys,List.length_map,List.length_map]
  ·intro j key hj
   rw [hkeys,List.getElem?_map] at hj
   cases hs : (srt (zips x))[j]? with
   | none => rw [hs] at hj; cases hj
   | some p =>
    rw [hs] at hj; cases hj
    refine ⟨p.kid,by rw [hkids,List.getElem?_map,hs]; rfl,?_⟩
    unfold Yk1
    rw [if_pos hk]
    have hm : p ∈ zips x := (Xdd (zips x)).mem_iff.1 (List.mem_of_getElem? hs)
    obtain ⟨i,hi⟩ := List.mem_iff_getElem?.1 hm
    unfold zips at hi
    rw [List.getElem?_zipWith] at hi
    cases ha : x.keys[i]? with
    | none => rw [ha] at hi; cases hi
    | some a =>
     cases hb : x.kids[i]? with
     | none => rw [ha,hb] at hi; cases hi
     | some b =>
      rw [ha,hb] at hi; cases hi
      exact X6o h2 ha hb
  ·intro j a b ha hb
   rw [hkeys,List.getElem?_map] at ha hb
   cases hs : (srt (zips x))[j]? with
   | none => rw [hs] at ha; cases ha
   | some p =>
    cases ht : (srt (zips x))[j + 1]? with
    | none => rw [ht] at hb; cases hb
    | some q =>
     rw [hs] at ha; rw [ht] at hb; cases ha; cases hb
     have hlt : (srt (zips x)).Pairwise lt1 := X6m (by rw [Xf4 h1]; exact h2)
     have h5 := List.getElem?_eq_some_iff.1 hs
     have h6 := List.getElem?_eq_some_iff.1 ht
     have := List.pairwise_iff_getElem.1 hlt j (j + 1) h5.1 h6.1 (by omega)
     rw [h5.2,h6.2] at this
     exact (Xk5 _ _).2 this
 ·have hkeys : Xah x = [] := by unfold Xah; rw [Xcx hk]; rfl
  have hkids : Xaf x = x.kids /\ ∀ k ∈ x.kids,0 <= k /\ k < n := by
   rcases Xf5 h with h0 | h1 | h2
   ·have := Xhy h h0
    unfold Xaf
    rw [if_neg (by omega),Xcx hk,this.2]
    simp
   ·unfold Xaf
    rw [if_pos h1]
    exact ⟨rfl,(X6n h h1).2⟩
   ·exact absurd h2 hk
  refine ⟨by rw [hkids.1]; exact hkids.2,by rw [hkids.1],fun h => absurd h hk,fun _ => hkeys,?_,?_⟩
  ·intro j key hj; rw [hkeys] at hj; simp at hj
  ·intro j a b ha; rw [hkeys] at ha; simp at ha
end Go.Fw.L07
