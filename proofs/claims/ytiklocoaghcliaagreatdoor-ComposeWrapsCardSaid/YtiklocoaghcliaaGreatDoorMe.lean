/- Chapter 18,plain: trees' graphs are right; cut trees are small. -/
import Derived.Test.YtiklocoaghcliaaGreatDoorMd
import Derived.Lib.TrimUEq
set_option linter.all false
namespace Go.Fw.L07
open Go Go.Fw
set_option maxRecDepth 4000
theorem all_len : ∀ (n : Nat) (l : List Int),(∀ i : Nat,i < n -> (i : Int) ∈ l) -> n <= l.length
 | 0,_,_ => Nat.zero_le _
 | n + 1,l,h => by
  have h1 := all_len n (l.erase (n : Int)) fun i hi => (List.mem_erase_of_ne (by omega)).2 (h i (by omega))
  rw [List.length_erase_of_mem (h n (by omega))] at h1
  have h2 : 0 < l.length := List.length_pos_of_mem (h n (by omega))
  omega
theorem layT_root {R : ByteArray -> Bool} {t : Tr} {n : Nat} (he : (layT R t 1 n []).e = 0) : (layT R t 1 n []).is = [(n : Int)] /\ t.k ≠ 3 := by
 rw [layT_eq] at he ⊢
 split at he
 ·rename_i h1; exact absurd he h1
 ·rename_i h1
  have hc := chk_0 (R := R) (t := t) (deep := 1) (n := n) (nm := []) (by simpa using h1)
  have hk : t.k ≠ 3 := fun hk => hc.2.2.2.1 hk rfl
  rw [if_neg hk] at he
  rw [if_neg h1,if_neg hk]
  simp only at he
  rw [he]
  simp [hk]
theorem graph_ok {t : Tr} (hs : smT t) (he : (layT rightS t 1 0 []).e = 0) : Good ⟨0,(layT rightS t 1 0 []).new⟩ /\ (walkL ⟨0,(layT rightS t 1 0 []).new⟩).length = (layT rightS t 1 0 []).new.length /\ (layT rightS t 1 0 []).new.length = ownT t := by
 have h1 := layT_ok t 1 0 [] (fun p hp => by cases hp) he
 have h2 := layT_len (R := rightS) t 1 0 [] (by omega)
 have h3 := layT_sm (R := rightS) t hs 1 0 []
 have h4 := layT_own t 1 0 [] he
 obtain ⟨h5,h6⟩ := layT_root he
 generalize layT rightS t 1 0 [] = r at *
 have h7 := h1.is 0 (by rw [h5]; simp)
 have hg : Good ⟨0,r.new⟩ := ⟨chk_of (by simpa using h2) (by simpa using h7) (fun x hx => h1.node x hx _ (by simp)),h3⟩
 refine ⟨hg,Nat.le_antisymm hg.wlen (all_len _ _ fun i hi => ?_),h4⟩
 induction i using Nat.strongRecOn with
 | _ i ih =>
  rcases h1.par i hi with e | ⟨p,x,hp,hx,hk⟩
  ·rw [h5] at e
   simp at e
   subst e
   exact hg.wroot
  ·rw [Nat.zero_add] at hk
   have hpl : p < r.new.length := by omega
   have hnd : ndAt r.new (p : Int) = x := by
    unfold ndAt
    rw [if_pos (by omega),Int.toNat_natCast,hx]; rfl
   refine hg.wclosed p (ih p hp hpl) i ?_
   show (i : Int) ∈ kidsOf (ndAt r.new (p : Int))
   rw [hnd]
   exact (kidsOf_perm (h1.node x (List.mem_of_getElem? hx) _ (Nat.le_refl _)) _).2 hk
theorem cutTr_kids (d : Nat) (t : Tr) : (cutTr d t).kids = cutK d t := by rw [cutTr_eq]; rfl
theorem cutK_mem {d : Nat} {t c : Tr} (h : c ∈ cutK d t) : ∃ e u,d = e + 1 /\ c = cutTr e u := by
 cases d with
 | zero => cases h
 | succ d =>
  simp only [cutK,List.mem_map] at h
  obtain ⟨u,_,rfl⟩ := h
  exact ⟨d,u,rfl,rfl⟩
theorem cutK_len (d : Nat) (t : Tr) : (cutK d t).length <= 8 := by cases d <;> simp [cutK]; omega
theorem cut_sm (d : Nat) : ∀ t,smT (cutTr d t) := by
 induction d with
 | zero => intro t; rw [smT_iff]; simp [cutTr_eq,Tr.keys,Tr.kids,cutK]; omega
 | succ d ih =>
  intro t
  rw [smT_iff]
  refine ⟨by simp [cutTr_eq,Tr.keys]; omega,by have := cutK_len (d + 1) t; simp only [cutTr_eq,Tr.kids]; omega,fun c hc => ?_⟩
  rw [cutTr_kids] at hc
  obtain ⟨e,u,he,rfl⟩ := cutK_mem hc
  obtain rfl : d = e := by omega
  exact ih u
def mq (nm : Nm) : Nm := nm.map fun p => (qN p.1,p.2)
def SameQ (a b : Lr) : Prop := b.e = 93 \/ b = ⟨a.is,a.e,a.new,mq a.nm⟩
def shI (i : Int) : Int := i + 1
def shN (x : Nd) : Nd := ⟨x.k,x.x,x.keys,x.kids.map shI⟩
def shM (nm : Nm) : Nm := nm.map fun p => (p.1,p.2 + 1)
theorem getS_sh : ∀ (nm : Nm) (a : ByteArray),getS (shM nm) a = (getS nm a).map shI
 | [],_ => rfl
 | p :: nm,a => by
  simp only [shM,List.map_cons,getS]
  split
  ·rfl
  ·exact getS_sh nm a
theorem putS_sh : ∀ (nm : Nm) (a : ByteArray) (b : Int),putS (shM nm) a (b + 1) = shM (putS nm a b)
 | [],_,_ => rfl
 | p :: nm,a,b => by
  simp only [shM,List.map_cons,putS]
  split
  ·rfl
  ·have := putS_sh nm a b
   simp only [shM] at this
   rw [this]; rfl
mutual
def htT : Tr -> Nat
 | .mk _ _ _ _ kids => 1 + htL kids
def htL : List Tr -> Nat
 | [] => 0
 | t :: l => max (htT t) (htL l)
end
theorem htT_eq (t : Tr) : htT t = 1 + htL t.kids := by cases t; rw [htT]; rfl
theorem htL_le {n : Nat} : ∀ {l : List Tr},(∀ c ∈ l,htT c <= n) -> htL l <= n
 | [],_ => by simp [htL]
 | t :: l,h => by
  have h1 := h t (by simp)
  have h2 := htL_le (l := l) fun c hc => h c (by simp [hc])
  simp only [htL]; omega
theorem cut_ht (d : Nat) : ∀ t,htT (cutTr d t) <= d + 1 := by
 induction d with
 | zero => intro t; rw [htT_eq,cutTr_kids]; simp [cutK,htL]
 | succ d ih =>
  intro t
  rw [htT_eq,cutTr_kids]
  have := htL_le (n := d + 1) (l := cutK (d + 1) t) fun c hc => by
   obtain ⟨e,u,he,rfl⟩ := cutK_mem hc
   obtain rfl : d = e := by omega
   exact ih u
  omega
def SameW (n : Nat) (a b : Lr) : Prop := (b.e = a.e /\ (a.e = 0 -> b = ⟨a.is.map shI,0,a.new.map shN,shM a.nm⟩)) \/ (b.e = 71 /\ (a.e = 0 -> n + a.new.length = 200))
section
variable {R : ByteArray -> Bool}
theorem layK_sh {l : List Tr} (h : ∀ c ∈ l,∀ (deep : Int) (n : Nat) (nm : Nm),deep + htT c <= 24 -> n <= 199 -> SameW n (layT R c deep n nm) (layT R c (deep + 1) (n + 1) (shM nm))) : ∀ (deep : Int) (n : Nat) (nm : Nm),deep + htL l <= 24 -> n <= 199 -> SameW n (layK R l deep n nm) (layK R l (deep + 1) (n + 1) (shM nm)) := by
 induction l with
 | nil => intro deep n nm _ _; left; simp [layK]
 | cons t l ih =>
  intro deep n nm hd hn
  simp only [htL] at hd
  have hlen := layT_len (R := R) t deep n nm (by omega)
  have hlenK := layK_len (R := R) (l := l) (fun c _ => layT_len c) deep _ (layT R t deep n nm).nm hlen
  have hlen' := layT_len (R := R) t (deep + 1) (n + 1) (shM nm) (by omega)
  rw [layK_cons,layK_cons]
  rcases h t (by simp) deep n nm (by omega) hn with ⟨h1,h2⟩ | ⟨h1,h2⟩
  ·by_cases he : (layT R t deep n nm).e = 0
   ·have hb := h2 he
    rw [hb] at hlen' ⊢
    simp only [List.length_map] at hlen' ⊢
    rw [if_neg (by simpa using he),if_neg (by simp)]
    have h3 := ih (fun c hc => h c (by simp [hc])) deep (n + (layT R t deep n nm).new.length) (layT R t deep n nm).nm (by omega) (by omega)
    rw [show n + 1 + (layT R t deep n nm).new.length = n + (layT R t deep n nm).new.length + 1 from by omega]
    rcases h3 with ⟨h3,h4⟩ | ⟨h3,h4⟩
    ·left
     refine ⟨h3,fun h5 => ?_⟩
     simp only at h5
     rw [h4 h5]
     simp
    ·right
     refine ⟨h3,fun h5 => ?_⟩
     have := h4 h5
     simp only [List.length_append]; omega
   ·left
    rw [if_pos he,if_pos (by rw [h1]; exact he)]
    exact ⟨h1,fun h5 => absurd h5 he⟩
  ·right
   rw [if_pos (show (layT R t (deep + 1) (n + 1) (shM nm)).e ≠ 0 by omega)]
   refine ⟨h1,fun h5 => ?_⟩
   split at h5
   ·rename_i h6; exact absurd h5 h6
   ·rename_i h6
    rw [if_neg h6]
    have h7 := h2 (by simpa using h6)
    simp only [List.length_append]
    omega
theorem layT_sh (t : Tr) : ∀ (deep : Int) (n : Nat) (nm : Nm),deep + htT t <= 24 -> n <= 199 -> SameW n (layT R t deep n nm) (layT R t (deep + 1) (n + 1) (shM nm)) := by
 induction t using tr_ind with
 | h t ih =>
  intro deep n nm hd hn
  rw [htT_eq] at hd
  have hl0 := layT_len (R := R) t deep n nm (by omega)
  by_cases h71 : t.k ≠ 3 /\ n + 1 = 200 /\ chkT R t deep n nm = 0
  ·obtain ⟨hk,hn1,hc⟩ := h71
   right
   have hc2 := chk_0 hc
   have hc' : chkT R t (deep + 1) (n + 1) (shM nm) = 71 := by
    unfold chkT
    rw [if_neg (by omega),if_neg (by rw [hc2.2.1]; simp),if_neg (fun h => h hc2.2.2.1),if_neg (fun h => hk h.1),if_pos ⟨hk,hn1⟩]
   refine ⟨?_,fun he => ?_⟩
   ·rw [layT_eq,hc']; rfl
   ·rw [layT_eq,hc] at hl0 ⊢
    rw [if_neg (by simp),if_neg hk] at hl0 ⊢
    simp only [List.length_cons] at hl0 ⊢
    omega
  ·have hc' : chkT R t (deep + 1) (n + 1) (shM nm) = chkT R t deep n nm := by
    have e1 : (getS (shM nm) t.name = none) ↔ (getS nm t.name = none) := by rw [getS_sh]; simp
    unfold chkT at h71 ⊢
    rw [if_neg (show ¬ deep > 24 by omega)] at h71 ⊢
    rw [if_neg (show ¬ deep + 1 > 24 by omega)]
    simp only [e1]
    split
    ·rfl
    ·rename_i h1
     rw [if_neg h1] at h71
     split
     ·rfl
     ·rename_i h2
      rw [if_neg h2] at h71
      split
      ·rfl
      ·rename_i h3
       rw [if_neg h3] at h71
       rw [if_neg (show ¬ (t.k ≠ 3 /\ n = 200) by omega)] at h71 ⊢
       rw [if_neg (fun h4 : t.k ≠ 3 /\ n + 1 = 200 => h71 ⟨h4.1,h4.2,rfl⟩)]
   have a1 := layT_eq R t deep n nm
   have a2 := layT_eq R t (deep + 1) (n + 1) (shM nm)
   rw [hc'] at a2
   by_cases hc : chkT R t deep n nm = 0
   ·rw [hc,if_neg (by simp)] at a1 a2
    have hc2 := chk_0 hc
    by_cases hk : t.k = 3
    ·left
     rw [if_pos hk] at a1 a2
     rw [a1,a2]
     refine ⟨rfl,fun _ => ?_⟩
     rw [getS_sh]
     cases hg : getS nm t.name with
     | none => exact absurd hg (hc2.2.2.2.1 hk)
     | some b => simp [shI]
    ·rw [if_neg hk] at a1 a2
     have hn2 : n + 1 <= 199 := by
      have : n + 1 ≠ 200 := fun e => h71 ⟨hk,e,hc⟩
      omega
     have e2 : (if t.name = ⟨#[]⟩ then shM nm else putS (shM nm) t.name ((n + 1 : Nat) : Int)) = shM (if t.name = ⟨#[]⟩ then nm else putS nm t.name n) := by
      split
      ·rfl
      ·rw [<- putS_sh]; rfl
     have ih2 := layK_sh ih (deep + 1) (n + 1) (if t.name = ⟨#[]⟩ then nm else putS nm t.name n) (by omega) hn2
     rw [e2] at a2
     rw [a1,a2]
     generalize layK R t.kids (deep + 1) (n + 1) (if t.name = ⟨#[]⟩ then nm else putS nm t.name n) = r at *
     generalize layK R t.kids (deep + 1 + 1) (n + 1 + 1) (shM (if t.name = ⟨#[]⟩ then nm else putS nm t.name n)) = r' at *
     rcases ih2 with ⟨h1,h2⟩ | ⟨h1,h2⟩
     ·left
      refine ⟨h1,fun he => ?_⟩
      simp only at he
      rw [h2 he,he]
      simp [shN,shI]
     ·right
      refine ⟨h1,fun he => ?_⟩
      have := h2 he
      simp only [List.length_cons]
      omega
   ·left
    rw [if_pos hc] at a1 a2
    rw [a1,a2]
    exact ⟨rfl,fun h => absurd h hc⟩
theorem wrap_ok (t : Tr) (hh : htT t <= 22) (hs : smT t) : let G := graphT rightS t; let H := graphT rightS (.mk 1 ⟨#[]⟩ ⟨0,0,⟨#[]⟩⟩ [] [t])
  (G.2 ≠ 0 -> H.2 ≠ 0) /\ (G.2 = 0 -> H.2 ≠ 0 -> H.2 = 71 /\ G.1.l.length = 200) /\ (G.2 = 0 -> H.2 = 0 -> H.1.l = ⟨1,⟨0,0,⟨#[]⟩⟩,[],[1]⟩ :: G.1.l.map shN) := by
 have hw := layT_sh (R := rightS) t 1 0 [] (by omega) (by omega)
 have hroot := layT_root (R := rightS) (t := t) (n := 0)
 have hc : chkT rightS (.mk 1 ⟨#[]⟩ ⟨0,0,⟨#[]⟩⟩ [] [t]) 1 0 [] = 0 := by
  simp [chkT,shapeT,seqT,Tr.k,Tr.x,Tr.keys,Tr.kids,Tr.name,isZ]
 have hK : layK rightS [t] (1 + 1) (0 + 1) (shM []) = ⟨(layT rightS t (1 + 1) (0 + 1) (shM [])).is,(layT rightS t (1 + 1) (0 + 1) (shM [])).e,(layT rightS t (1 + 1) (0 + 1) (shM [])).new,(layT rightS t (1 + 1) (0 + 1) (shM [])).nm⟩ := by
  rw [layK_cons]
  split
  ·rfl
  ·rename_i h; simp only [layK,List.append_nil]
   congr 1
   all_goals omega
 have hT := layT_eq rightS (.mk 1 ⟨#[]⟩ ⟨0,0,⟨#[]⟩⟩ [] [t]) 1 0 []
 rw [hc,if_neg (by simp),if_neg (by simp [Tr.k])] at hT
 simp only [Tr.kids,Tr.name,Tr.k,Tr.x,Tr.keys,if_true] at hT
 rw [show layK rightS [t] (1 + 1) (0 + 1) [] = layK rightS [t] (1 + 1) (0 + 1) (shM []) from rfl,hK] at hT
 simp only [graphT,hT]
 generalize layT rightS t (1 + 1) (0 + 1) (shM []) = r' at *
 generalize layT rightS t 1 0 [] = r at *
 by_cases he : r.e = 0
 ·obtain ⟨i1,i2⟩ := hroot he
  rcases hw with ⟨h1,h2⟩ | ⟨h1,h2⟩
  ·have h3 := h2 he
   rw [if_pos he,h3]
   simp [i1,shI]
  ·have h3 := h2 he
   rw [if_pos he,if_neg (by omega)]
   simp only [ne_eq,not_true,false_implies,true_implies,true_and]
   exact ⟨fun _ => ⟨h1,by simpa using h3⟩,fun h => absurd h (by omega)⟩
 ·rw [if_neg he]
  have h1 : r'.e ≠ 0 := by rcases hw with ⟨h1,h2⟩ | ⟨h1,h2⟩ <;> omega
  rw [if_neg h1]
  exact ⟨fun _ => h1,fun h => absurd h he,fun h => absurd h he⟩
end
end Go.Fw.L07
