/- Chapter 7,plain: a map's keys and kids turned about. -/
import Derived.Test.YteeoejfkiipolaaDoorL07Kids
set_option linter.all false
namespace Go.Fw.L07
open Go Go.Fw
set_option maxRecDepth 4000
variable {gp : Heap}
def revN (x : Nd) : Nd := ⟨x.k,x.x,x.keys.reverse,x.kids.reverse⟩
theorem zips_rev {x : Nd} (h : x.keys.length = x.kids.length) : zips (revN x) = (zips x).reverse := by
 unfold zips revN
 rw [List.reverse_zipWith h]
theorem pairs_rev {x : Nd} (hk : x.k = 2) (h : x.keys.length = x.kids.length) (hn : x.keys.Nodup) : pairsOf (revN x) = pairsOf x := by
 rw [pairsOf_map hk h,pairsOf_map (x := revN x) hk (by simp [revN,h]),zips_rev h]
 exact (srt_same (by rw [zips_key h]; exact hn) (List.reverse_perm _).symm).symm
theorem kids_rev {x : Nd} (hk : x.k = 2) (h : x.keys.length = x.kids.length) (hn : x.keys.Nodup) : kidsOf (revN x) = kidsOf x := by
 unfold kidsOf
 rw [if_neg (by simp [revN,hk]),if_neg (by omega),pairs_rev hk h hn]
theorem keys_rev {x : Nd} (hk : x.k = 2) (h : x.keys.length = x.kids.length) (hn : x.keys.Nodup) : keysOf (revN x) = keysOf x := by
 unfold keysOf
 rw [pairs_rev hk h hn]
theorem rev_right {x : Nd} {n : Int} (h : nodeR rightS x n = true) (hk : x.k = 2) : nodeR rightS (revN x) n = true := by
 unfold nodeR at h ⊢
 rw [show (revN x).k = x.k from rfl]
 rw [hk] at h ⊢
 simp [mapR,keysR,kidsIn,revN] at h ⊢
 exact ⟨h.1,h.2.1,⟨h.2.2.1.1,decide_eq_true ((List.reverse_perm _).nodup_iff.2 h.2.2.1.2)⟩,h.2.2.2⟩
theorem chk_set {q : Gr} (hc : chk q = none) {i : Nat} {y : Nd} (hy : nodeR rightS y q.l.length = true) : chk ⟨q.root,q.l.set i y⟩ = none := by
 obtain ⟨h1,h2,h3⟩ := chk_ok hc
 refine chk_of (by simpa using h1) (by simpa using h2) fun x hx => ?_
 dsimp only
 rw [List.length_set]
 rcases List.mem_or_eq_of_mem_set hx with hx | rfl
 ·exact h3 x hx
 ·exact hy
theorem set_small {q : Gr} (hs : Small q) {i : Nat} {y : Nd} (hy : y.keys.length <= 12 /\ y.kids.length <= 12) : Small ⟨q.root,q.l.set i y⟩ := by
 intro x hx
 rcases List.mem_or_eq_of_mem_set hx with hx | rfl
 ·exact hs x hx
 ·exact hy
theorem nds_set (l : List Nd) (i : Nat) (y : Nd) : (nds l).set i y.ds = nds (l.set i y) := by simp [nds,List.map_set]
theorem rev_take {α : Type} (l : List α) {j : Nat} {a : α} (h : l[l.length - 1 - j]? = some a) (hj : j < l.length) : l.reverse.take j ++ [a] = l.reverse.take (j + 1) := by
 rw [List.take_succ,List.getElem?_reverse hj,h]; rfl
theorem no_keys {x : Nd} {n : Int} (h : nodeR rightS x n = true) (hk : x.keys = []) : keysOf x = [] := by
 obtain ⟨k1,k2,k3,k4,k5,k6⟩ := kids_ok h
 by_cases h2 : x.k = 2
 ·have h3 := map_right h h2
  have := k3 h2
  rw [k2,<- h3.1,hk] at this
  exact List.length_eq_zero_iff.1 this
 ·exact k4 h2
theorem keys_map {x : Nd} {n : Int} (h : nodeR rightS x n = true) (hk : x.keys ≠ []) : x.k = 2 := by
 rcases kind_right h with h0 | h0 | h0
 ·exact absurd (one_right h h0).1 hk
 ·exact absurd (seq_right h h0).1 hk
 ·exact h0
end Go.Fw.L07
