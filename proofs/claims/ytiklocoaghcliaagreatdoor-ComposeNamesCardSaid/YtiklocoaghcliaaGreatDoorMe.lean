/- Chapter 18,plain: trees' graphs are right; cut trees are small. -/
import Derived.Test.YtiklocoaghcliaaGreatDoorMd
import Derived.Lib.TrimUEq
set_option linter.all false
namespace Go.Fw.L07
open Go Go.Fw
set_option maxRecDepth 4000
theorem cutTr_kids (d : Nat) (t : Tr) : (cutTr d t).kids = cutK d t := by rw [cutTr_eq]; rfl
theorem cut1_size18 (s : ByteArray) : (cut1 s).size <= 100 := by
 unfold cut1
 rw [ByteArray.size_extract]; omega
theorem cutK_mem {d : Nat} {t c : Tr} (h : c ∈ cutK d t) : ∃ e u,d = e + 1 /\ c = cutTr e u := by
 cases d with
 | zero => cases h
 | succ d =>
  simp only [cutK,List.mem_map] at h
  obtain ⟨u,_,rfl⟩ := h
  exact ⟨d,u,rfl,rfl⟩
theorem cutK_len (d : Nat) (t : Tr) : (cutK d t).length <= 8 := by cases d <;> simp [cutK]; omega
theorem cut_sm (d : Nat) : ∀ t,smT (cutTr d t) := by
 induction d with
 | zero => intro t; rw [smT_iff]; simp [cutTr_eq,Tr.keys,Tr.kids,cutK]; omega
 | succ d ih =>
  intro t
  rw [smT_iff]
  refine ⟨by simp [cutTr_eq,Tr.keys]; omega,by have := cutK_len (d + 1) t; simp only [cutTr_eq,Tr.kids]; omega,fun c hc => ?_⟩
  rw [cutTr_kids] at hc
  obtain ⟨e,u,he,rfl⟩ := cutK_mem hc
  obtain rfl : d = e := by omega
  exact ih u
theorem cut_names (d : Nat) : ∀ t,∀ c ∈ flatT (cutTr d t),c.name.size <= 100 := by
 induction d with
 | zero =>
  intro t c hc
  rw [flatT_eq] at hc
  simp [cutTr_eq,Tr.kids,cutK] at hc
  subst hc
  exact cut1_size18 _
 | succ d ih =>
  intro t c hc
  rw [flatT_eq] at hc
  rcases List.mem_cons.1 hc with rfl | hc
  ·rw [cutTr_eq]; exact cut1_size18 _
  ·obtain ⟨k,hk,hc⟩ := List.mem_flatMap.1 hc
   rw [cutTr_kids] at hk
   obtain ⟨e,u,he,rfl⟩ := cutK_mem hk
   obtain rfl : d = e := by omega
   exact ih u c hc
theorem qN_ne {s : ByteArray} (h : s ≠ ⟨#[]⟩) : qN s = ⟨#[113]⟩ ++ s := by unfold qN; rw [if_neg h]
theorem q_size (s : ByteArray) : (⟨#[113]⟩ ++ s : ByteArray).size = s.size + 1 := by
 rw [ByteArray.size_append]
 show 1 + s.size = _
 omega
theorem qN_nil {s : ByteArray} : qN s = ⟨#[]⟩ ↔ s = ⟨#[]⟩ := by
 unfold qN
 split
 ·exact Iff.rfl
 ·rename_i h
  refine ⟨fun e => ?_,fun e => absurd e h⟩
  have := congrArg ByteArray.size e
  rw [q_size] at this
  have e2 : (⟨#[]⟩ : ByteArray).size = 0 := rfl
  omega
theorem q_list (s : ByteArray) : (⟨#[113]⟩ ++ s : ByteArray).data.toList = 113 :: s.data.toList := by
 rw [ByteArray.data_append]; simp
theorem qN_inj {a b : ByteArray} (h : qN a = qN b) : a = b := by
 by_cases ha : a = ⟨#[]⟩
 ·rw [ha,qN_nil.2 rfl] at h
  rw [ha,qN_nil.1 h.symm]
 ·by_cases hb : b = ⟨#[]⟩
  ·rw [hb,qN_nil.2 rfl] at h
   exact absurd (qN_nil.1 h) ha
  ·rw [qN_ne ha,qN_ne hb] at h
   have h2 := congrArg (fun s : ByteArray => s.data.toList) h
   simp only [q_list,List.cons.injEq,true_and] at h2
   apply ByteArray.ext
   exact Array.toList_inj.1 h2
theorem q_decode (s : ByteArray) (p : Nat) : Utf8.decode (⟨#[113]⟩ ++ s) (p + 1) = Utf8.decode s p := by
 rw [<- Lib.decodeL_drop,<- Lib.decodeL_drop,q_list,List.drop_succ_cons]
theorem q_signs (s : ByteArray) : ∀ (f p : Nat),signsFrom (⟨#[113]⟩ ++ s) f (p + 1) = signsFrom s f p
 | 0,_ => rfl
 | f + 1,p => by
  simp only [signsFrom,q_decode,q_size]
  rw [show p + 1 + (Utf8.decode s p).2 = p + (Utf8.decode s p).2 + 1 from by omega,q_signs s f]
  simp only [Nat.add_lt_add_iff_right]
theorem name_q {s : ByteArray} (h : s ≠ ⟨#[]⟩) (hn : isNameB (qN s) = true) : isNameB s = true := by
 rw [qN_ne h] at hn
 unfold isNameB at hn ⊢
 simp only [Bool.and_eq_true,decide_eq_true_eq,q_size] at hn ⊢
 obtain ⟨h1,_,h2⟩ := hn
 refine ⟨?_,h,by omega⟩
 simp only [signsFrom,q_size] at h1
 rw [if_pos (by omega)] at h1
 have hd : Utf8.decode (⟨#[113]⟩ ++ s) 0 = (113,1) := by
  rw [<- Lib.decodeL_drop,q_list,List.drop_zero]
  rw [Lib.decodeL_N]
  exact Lib.decodeN_ascii _ _ _ _ _ (by simp)
 rw [hd] at h1
 rw [show 0 + (113,1).2 = 0 + 1 from rfl,q_signs,Bool.and_eq_true] at h1
 exact h1.2
def mq (nm : Nm) : Nm := nm.map fun p => (qN p.1,p.2)
theorem getS_mq : ∀ (nm : Nm) (a : ByteArray),getS (mq nm) (qN a) = getS nm a
 | [],_ => rfl
 | p :: nm,a => by
  simp only [mq,List.map_cons,getS]
  by_cases h : a = p.1
  ·rw [if_pos h,if_pos (by rw [h])]
  ·rw [if_neg h,if_neg (fun e => h (qN_inj e))]
   exact getS_mq nm a
theorem putS_mq : ∀ (nm : Nm) (a : ByteArray) (b : Int),putS (mq nm) (qN a) b = mq (putS nm a b)
 | [],_,_ => rfl
 | p :: nm,a,b => by
  simp only [mq,List.map_cons,putS]
  by_cases h : a = p.1
  ·rw [if_pos h,if_pos (by rw [h])]; rfl
  ·rw [if_neg h,if_neg (fun e => h (qN_inj e))]
   have := putS_mq nm a b
   simp only [mq] at this
   rw [this]; rfl
theorem shape_ah {R : ByteArray -> Bool} {t : Tr} (h : shapeT R (ahT t) = true) : shapeT R t = true := by
 have e1 : (ahT t).k = t.k := by rw [ahT_eq]; rfl
 have e2 : (ahT t).name = qN t.name := by rw [ahT_eq]; rfl
 have e3 : (ahT t).kids = t.kids.map ahT := by rw [ahT_eq]; rfl
 have e4 : (ahT t).keys = t.keys := by rw [ahT_eq]; rfl
 have e5 : (ahT t).x = t.x := by rw [ahT_eq]; rfl
 simp only [shapeT,oneT,seqT,mapT,refT,e1,e2,e3,e4,e5,List.map_eq_nil_iff,List.length_map,Bool.and_eq_true,Bool.or_eq_true,decide_eq_true_eq,qN_nil,ne_eq] at h ⊢
 refine ⟨h.1,?_⟩
 rcases h.2 with h2 | h2
 ·exact .inl h2
 ·by_cases hn : t.name = ⟨#[]⟩
  ·exact .inl hn
  ·exact .inr (name_q hn h2)
def SameQ (a b : Lr) : Prop := b.e = 93 \/ b = ⟨a.is,a.e,a.new,mq a.nm⟩
theorem layK_ah {R : ByteArray -> Bool} {l : List Tr} (h : ∀ c ∈ l,∀ (deep : Int) (n : Nat) (nm : Nm),SameQ (layT R c deep n nm) (layT R (ahT c) deep n (mq nm))) : ∀ (deep : Int) (n : Nat) (nm : Nm),SameQ (layK R l deep n nm) (layK R (l.map ahT) deep n (mq nm)) := by
 induction l with
 | nil => intro deep n nm; right; simp [layK]
 | cons t l ih =>
  intro deep n nm
  rw [List.map_cons,layK_cons,layK_cons]
  rcases h t (by simp) deep n nm with h1 | h1
  ·left
   rw [if_pos (by omega)]; exact h1
  ·rw [h1]
   simp only
   split
   ·right; rfl
   ·rcases ih (fun c hc => h c (by simp [hc])) deep (n + (layT R t deep n nm).new.length) (layT R t deep n nm).nm with h2 | h2
    ·left; exact h2
    ·right; rw [h2]
theorem layT_ah {R : ByteArray -> Bool} (t : Tr) : ∀ (deep : Int) (n : Nat) (nm : Nm),SameQ (layT R t deep n nm) (layT R (ahT t) deep n (mq nm)) := by
 induction t using tr_ind with
 | h t ih =>
  intro deep n nm
  have e1 : (ahT t).k = t.k := by rw [ahT_eq]; rfl
  have e2 : (ahT t).name = qN t.name := by rw [ahT_eq]; rfl
  have e3 : (ahT t).kids = t.kids.map ahT := by rw [ahT_eq]; rfl
  have e4 : (ahT t).keys = t.keys := by rw [ahT_eq]; rfl
  have e5 : (ahT t).x = t.x := by rw [ahT_eq]; rfl
  rw [layT_eq,layT_eq]
  by_cases hd : deep > 24
  ·have c1 : chkT R t deep n nm = 73 := by unfold chkT; rw [if_pos hd]
   have c2 : chkT R (ahT t) deep n (mq nm) = 73 := by unfold chkT; rw [if_pos hd]
   rw [c1,c2]; right; rfl
  ·cases hs : shapeT R (ahT t) with
   | false =>
    have c2 : chkT R (ahT t) deep n (mq nm) = 93 := by unfold chkT; rw [if_neg hd,if_pos hs]
    rw [c2]; left; rfl
   | true =>
    have hs2 := shape_ah hs
    have c2 : chkT R (ahT t) deep n (mq nm) = chkT R t deep n nm := by
     unfold chkT
     rw [hs,hs2,e4,e1,e2,getS_mq]
    rw [c2]
    split
    ·right; rfl
    ·rw [e1,e2,getS_mq,e3,e4,e5]
     split
     ·right; rfl
     ·have e6 : (if qN t.name = ⟨#[]⟩ then mq nm else putS (mq nm) (qN t.name) n) = mq (if t.name = ⟨#[]⟩ then nm else putS nm t.name n) := by
       by_cases hn : t.name = ⟨#[]⟩
       ·rw [if_pos hn,if_pos (qN_nil.2 hn)]
       ·rw [if_neg hn,if_neg (fun e => hn (qN_nil.1 e)),putS_mq]
      rw [e6]
      rcases layK_ah ih (deep + 1) (n + 1) (if t.name = ⟨#[]⟩ then nm else putS nm t.name n) with h2 | h2
      ·left; exact h2
      ·right; rw [h2]
theorem graph_ah (t : Tr) : (graphT rightS (ahT t)).2 = 93 \/ graphT rightS (ahT t) = graphT rightS t := by
 unfold graphT
 rcases layT_ah (R := rightS) t 1 0 [] with h | h
 ·left
  rw [show mq [] = [] from rfl] at h
  rw [h]; rfl
 ·right
  rw [show mq [] = [] from rfl] at h
  rw [h]
theorem ah_sm (t : Tr) : smT t -> smT (ahT t) := by
 induction t using tr_ind with
 | h t ih =>
  intro h
  obtain ⟨s1,s2,s3⟩ := smT_iff.1 h
  rw [ahT_eq,smT_iff]
  refine ⟨s1,by simp only [Tr.kids,List.length_map]; exact s2,fun c hc => ?_⟩
  simp only [Tr.kids] at hc
  obtain ⟨u,hu,rfl⟩ := List.mem_map.1 hc
  exact ih u hu (s3 u hu)
def shI (i : Int) : Int := i + 1
def shN (x : Nd) : Nd := ⟨x.k,x.x,x.keys,x.kids.map shI⟩
def shM (nm : Nm) : Nm := nm.map fun p => (p.1,p.2 + 1)
mutual
def htT : Tr -> Nat
 | .mk _ _ _ _ kids => 1 + htL kids
def htL : List Tr -> Nat
 | [] => 0
 | t :: l => max (htT t) (htL l)
end
def SameW (n : Nat) (a b : Lr) : Prop := (b.e = a.e /\ (a.e = 0 -> b = ⟨a.is.map shI,0,a.new.map shN,shM a.nm⟩)) \/ (b.e = 71 /\ (a.e = 0 -> n + a.new.length = 200))
section
variable {R : ByteArray -> Bool}
end
end Go.Fw.L07
