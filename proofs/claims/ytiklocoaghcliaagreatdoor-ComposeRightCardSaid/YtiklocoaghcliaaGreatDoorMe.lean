/- Chapter 18,plain: trees' graphs are right; cut trees are small. -/
import Derived.Test.YtiklocoaghcliaaGreatDoorMd
import Derived.Lib.TrimUEq
set_option linter.all false
namespace Go.Fw.L07
open Go Go.Fw
set_option maxRecDepth 4000
theorem all_len : ∀ (n : Nat) (l : List Int),(∀ i : Nat,i < n -> (i : Int) ∈ l) -> n <= l.length
 | 0,_,_ => Nat.zero_le _
 | n + 1,l,h => by
  have h1 := all_len n (l.erase (n : Int)) fun i hi => (List.mem_erase_of_ne (by omega)).2 (h i (by omega))
  rw [List.length_erase_of_mem (h n (by omega))] at h1
  have h2 : 0 < l.length := List.length_pos_of_mem (h n (by omega))
  omega
theorem layT_root {R : ByteArray -> Bool} {t : Tr} {n : Nat} (he : (layT R t 1 n []).e = 0) : (layT R t 1 n []).is = [(n : Int)] /\ t.k ≠ 3 := by
 rw [layT_eq] at he ⊢
 split at he
 ·rename_i h1; exact absurd he h1
 ·rename_i h1
  have hc := chk_0 (R := R) (t := t) (deep := 1) (n := n) (nm := []) (by simpa using h1)
  have hk : t.k ≠ 3 := fun hk => hc.2.2.2.1 hk rfl
  rw [if_neg hk] at he
  rw [if_neg h1,if_neg hk]
  simp only at he
  rw [he]
  simp [hk]
theorem graph_ok {t : Tr} (hs : smT t) (he : (layT rightS t 1 0 []).e = 0) : Good ⟨0,(layT rightS t 1 0 []).new⟩ /\ (walkL ⟨0,(layT rightS t 1 0 []).new⟩).length = (layT rightS t 1 0 []).new.length /\ (layT rightS t 1 0 []).new.length = ownT t := by
 have h1 := layT_ok t 1 0 [] (fun p hp => by cases hp) he
 have h2 := layT_len (R := rightS) t 1 0 [] (by omega)
 have h3 := layT_sm (R := rightS) t hs 1 0 []
 have h4 := layT_own t 1 0 [] he
 obtain ⟨h5,h6⟩ := layT_root he
 generalize layT rightS t 1 0 [] = r at *
 have h7 := h1.is 0 (by rw [h5]; simp)
 have hg : Good ⟨0,r.new⟩ := ⟨chk_of (by simpa using h2) (by simpa using h7) (fun x hx => h1.node x hx _ (by simp)),h3⟩
 refine ⟨hg,Nat.le_antisymm hg.wlen (all_len _ _ fun i hi => ?_),h4⟩
 induction i using Nat.strongRecOn with
 | _ i ih =>
  rcases h1.par i hi with e | ⟨p,x,hp,hx,hk⟩
  ·rw [h5] at e
   simp at e
   subst e
   exact hg.wroot
  ·rw [Nat.zero_add] at hk
   have hpl : p < r.new.length := by omega
   have hnd : ndAt r.new (p : Int) = x := by
    unfold ndAt
    rw [if_pos (by omega),Int.toNat_natCast,hx]; rfl
   refine hg.wclosed p (ih p hp hpl) i ?_
   show (i : Int) ∈ kidsOf (ndAt r.new (p : Int))
   rw [hnd]
   exact (kidsOf_perm (h1.node x (List.mem_of_getElem? hx) _ (Nat.le_refl _)) _).2 hk
theorem cutTr_kids (d : Nat) (t : Tr) : (cutTr d t).kids = cutK d t := by rw [cutTr_eq]; rfl
theorem cutK_mem {d : Nat} {t c : Tr} (h : c ∈ cutK d t) : ∃ e u,d = e + 1 /\ c = cutTr e u := by
 cases d with
 | zero => cases h
 | succ d =>
  simp only [cutK,List.mem_map] at h
  obtain ⟨u,_,rfl⟩ := h
  exact ⟨d,u,rfl,rfl⟩
theorem cutK_len (d : Nat) (t : Tr) : (cutK d t).length <= 8 := by cases d <;> simp [cutK]; omega
theorem cut_sm (d : Nat) : ∀ t,smT (cutTr d t) := by
 induction d with
 | zero => intro t; rw [smT_iff]; simp [cutTr_eq,Tr.keys,Tr.kids,cutK]; omega
 | succ d ih =>
  intro t
  rw [smT_iff]
  refine ⟨by simp [cutTr_eq,Tr.keys]; omega,by have := cutK_len (d + 1) t; simp only [cutTr_eq,Tr.kids]; omega,fun c hc => ?_⟩
  rw [cutTr_kids] at hc
  obtain ⟨e,u,he,rfl⟩ := cutK_mem hc
  obtain rfl : d = e := by omega
  exact ih u
theorem ownL_le {n : Nat} : ∀ {l : List Tr},(∀ c ∈ l,ownT c <= n) -> ownL l <= l.length * n
 | [],_ => by simp [ownL]
 | t :: l,h => by
  have h1 := h t (by simp)
  have h2 := ownL_le (l := l) fun c hc => h c (by simp [hc])
  simp only [ownL,List.length_cons,Nat.add_mul]
  omega
theorem cut_own (d : Nat) : ∀ t,ownT (cutTr d t) <= 9 ^ d := by
 induction d with
 | zero => intro t; rw [ownT_eq]; simp [cutTr_eq,Tr.kids,cutK,ownL]; split <;> omega
 | succ d ih =>
  intro t
  rw [ownT_eq]
  have h1 : ownL (cutTr (d + 1) t).kids <= 8 * 9 ^ d := by
   have h2 := ownL_le (n := 9 ^ d) (l := (cutTr (d + 1) t).kids) fun c hc => by
    rw [cutTr_kids] at hc
    obtain ⟨e,u,he,rfl⟩ := cutK_mem hc
    obtain rfl : d = e := by omega
    exact ih u
   have h3 : (cutTr (d + 1) t).kids.length <= 8 := by rw [cutTr_kids]; exact cutK_len _ _
   exact Nat.le_trans h2 (Nat.mul_le_mul_right _ h3)
  have h4 : 0 < 9 ^ d := Nat.pow_pos (by omega)
  rw [Nat.pow_succ]
  split <;> omega
def mq (nm : Nm) : Nm := nm.map fun p => (qN p.1,p.2)
def SameQ (a b : Lr) : Prop := b.e = 93 \/ b = ⟨a.is,a.e,a.new,mq a.nm⟩
def shI (i : Int) : Int := i + 1
def shN (x : Nd) : Nd := ⟨x.k,x.x,x.keys,x.kids.map shI⟩
def shM (nm : Nm) : Nm := nm.map fun p => (p.1,p.2 + 1)
mutual
def htT : Tr -> Nat
 | .mk _ _ _ _ kids => 1 + htL kids
def htL : List Tr -> Nat
 | [] => 0
 | t :: l => max (htT t) (htL l)
end
def SameW (n : Nat) (a b : Lr) : Prop := (b.e = a.e /\ (a.e = 0 -> b = ⟨a.is.map shI,0,a.new.map shN,shM a.nm⟩)) \/ (b.e = 71 /\ (a.e = 0 -> n + a.new.length = 200))
section
variable {R : ByteArray -> Bool}
end
end Go.Fw.L07
