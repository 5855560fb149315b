/- EmitItems. -/
import Derived.Test.YtakgmpkfpkmkaaaGreatDoorL07S13
import Derived.Test.YtakgmpkfpkmkaaaGreatDoorNc
set_option linter.all false
namespace Go.Fw.L07
open Go Go.Fw
open Go.Fw.Sh renaming intro -> Kg
open Go.Fw renaming G_reg -> Ka,VO_chk -> Kb,VO_go -> Kc,VO_gx -> Kd,G_cond -> Ke,VO_end -> Kf,G_fin -> Kh,G_ret -> Ki,G_weak -> Kj,G_again -> Kl,G_loop -> Km,Gx -> Kn
open And renaming intro -> Kp
open Go.Proofs.Tryz renaming prog -> QP
open Go.Fw.V.one renaming injEq -> Qs
open Go.Fw.V.agg renaming injEq -> Qt
open Go.Fw.V.tup renaming injEq -> Qu
open Go.Fw.A.d renaming injEq -> Qv
open Go.Fw.D.bool renaming injEq -> Qw
open Go.Fw.D.int renaming injEq -> Qx
open Go.Fw.D.str renaming injEq -> Qy
open Go.Fw.D.sl renaming injEq -> Qz
open List.cons renaming injEq -> Za
set_option maxRecDepth 4000
variable {gp : Heap}
theorem kids_same {g : Gr} {d : Nat} {t met met' : List Int} {q : List Tr} (hg : Tdy g) (h : EmW g d t met q met') (n : Nat) : ∀ hs : List (List UInt8),hs.length = q.length -> (lnK n hs q).length = (q.flatMap flatT).length := by
 induction h generalizing n with
 | nil => intro hs _; rw [lnK_nil]; rfl
 | leaf hy hk h ih =>
  intro hs hl
  cases hs with
  | nil => simp at hl
  | cons h0 hs =>
   rw [lnK_cons,List.length_append,List.flatMap_cons,List.length_append,ih n hs (by simpa using hl),lnT_eq,flatT_eq]
   simp [lnK_nil,Tr.kids]
 | ref hy hk hm ha h ih =>
  intro hs hl
  cases hs with
  | nil => simp at hl
  | cons h0 hs =>
   rw [lnK_cons,List.length_append,List.flatMap_cons,List.length_append,ih n hs (by simpa using hl),lnT_eq,flatT_eq]
   simp [lnK_nil,Tr.kids]
 | @node d i y t met met1 met' q1 q2 hy hk hm hd h1 h2 ih1 ih2 =>
  intro hs hl
  cases hs with
  | nil => simp at hl
  | cons h0 hs =>
   rw [lnK_cons,List.length_append,List.flatMap_cons,List.length_append,ih2 n hs (by simpa using hl),lnT_eq,flatT_eq]
   have e : (heads13 y.k y.keys q1.length).length = q1.length := by rw [h1.len]; exact heads_len hg hy hk
   have := ih1 (n + 2) _ e
   simp only [Tr.kids,Tr.k,Tr.keys,List.length_cons,this]
theorem items_ok {q : Gr} (hg : Tdy q) (hd : deepQ q) : ∃ (x : Nd) (s : List UInt8),q.l[0]? = some x /\ (topL (emT q))[0]? = some s /\
  (((topL (emT q)).length = (flat q).length + 1 /\ (x.kids.length = 0 \/ s = [38,97,49])) \/ ((topL (emT q)).length = (flat q).length /\ ¬ x.kids.length = 0 /\ s ≠ [38,97,49])) := by
 obtain ⟨met,hem,_,hfl⟩ := emT_ok hg hd
 obtain ⟨i,y,p,q2,met1,e0,hy,e1,hr,hc⟩ := hem.inv
 obtain rfl : i = 0 := by omega
 obtain ⟨e2,e3⟩ := List.cons.inj e1
 rw [<- e2] at hc
 refine ⟨y,?_⟩
 generalize emT q = t at *
 rcases hc with ⟨hk,_,rfl⟩ | ⟨_,hm,_⟩ | ⟨hk,_,q1,h1,rfl⟩
 ·refine ⟨bareB (.mk y.k ⟨#[]⟩ y.x y.keys []),hy,?_,.inl ⟨?_,.inl (by rw [hk]; rfl)⟩⟩
  ·unfold topL; rw [if_pos (by rfl)]; rfl
  ·unfold topL; rw [if_pos (by rfl)]
   rw [flatT_eq] at hfl
   simp [Tr.kids] at hfl ⊢
   omega
 ·cases hm
 ·have hq1 : q1 ≠ [] := fun e => hk (List.eq_nil_of_length_eq_zero (by rw [<- h1.len,e]; rfl))
  have hkl : ¬ y.kids.length = 0 := fun e => hk (List.eq_nil_of_length_eq_zero e)
  have eh : (heads13 y.k y.keys q1.length).length = q1.length := by rw [h1.len]; exact heads_len hg hy hk
  have hl := kids_same hg h1 0 _ eh
  rw [flatT_eq] at hfl
  simp only [Tr.kids,List.length_cons] at hfl
  have hw : topL (.mk y.k (aName (anc q 0)) y.x y.keys q1) = (if aName (anc q 0) = ⟨#[]⟩ then [] else [38 :: (aName (anc q 0)).data.toList]) ++ lnK 0 (heads13 y.k y.keys q1.length) q1 := by
   unfold topL; rw [if_neg (show ¬ (Tr.mk y.k (aName (anc q 0)) y.x y.keys q1).kids = [] from hq1)]; rfl
  rw [hw]
  by_cases hn : 0 < anc q 0
  ·have ea := ancC_at (g := q) (m := 0) (List.getElem?_eq_some_iff.1 hy).1 hn
   have ea' : anc q 0 = 1 := by rw [ea]; simp [ancC,ancN]
   rw [ea',if_neg (aName_ne (n := 1) (by omega))]
   refine ⟨[38,97,49],hy,(by rw [show aName 1 = (⟨#[97,49]⟩ : ByteArray) from by kernel_rfl]; rfl),.inl ⟨?_,.inr rfl⟩⟩
   simp only [List.length_append,hl,List.length_cons,List.length_nil]
   omega
  ·rw [aName_nil (by omega),if_pos rfl,List.nil_append]
   cases q1 with
   | nil => exact absurd rfl hq1
   | cons t1 q1 =>
    cases hh : heads13 y.k y.keys (t1 :: q1).length with
    | nil => rw [hh] at eh; simp at eh
    | cons h0 hs =>
     rw [lnK_cons,lnT_eq]
     rw [hh,lnK_cons,lnT_eq] at hl
     refine ⟨_,hy,rfl,.inr ⟨by rw [hl]; omega,hkl,?_⟩⟩
     have hm0 : (45 : UInt8) ∈ h0 \/ (58 : UInt8) ∈ h0 := by
      have hm : h0 ∈ heads13 y.k y.keys (t1 :: q1).length := by rw [hh]; simp
      unfold heads13 at hm
      split at hm
      ·rw [List.mem_replicate] at hm; rw [hm.2]; simp
      ·obtain ⟨z,_,rfl⟩ := List.mem_map.1 hm; simp
     intro e
     have hsub : ∀ b ∈ h0,b ∈ ([38,97,49] : List UInt8) := fun b hb => by rw [<- e]; simp [hb]
     rcases hm0 with h | h <;> (have := hsub _ h; revert this; decide)
set_option maxHeartbeats 1000000 in
theorem emit_items (h : Env13 gp) (g : Gr) : Does QP gp 5 [g.v] (vb true) := by
 have cs := shown13_ok h
 have ct := tidied13 h.e g true
 have hs := tidied_small g true
 have hst := tidied_short g true
 have hl := tidied_len g true
 have c1 := lines13 h hs hst
 have hsz := outE_size (tidied g true)
 generalize tidied g true = q at *
 refine f5_in ?_
 simp only [go_sem]
 by_cases he : (outE q).2 = 0
 ·have ho : ∃ (hg : Tdy q) (hd : deepQ q),outE q = (topL (emT q),0) := by
   by_cases ht : chk q = none /\ q = tidyG q
   ·have hg := tdy_of hs ht
    by_cases hd : deepQ q
    ·by_cases hp : placeL q > 200
     ·rw [outE_many ht hd hp] at he; cases he
     ·by_cases hz : sizeL (topL (emT q)) > 8000
      ·rw [outE_long ht hd hp hz] at he; cases he
      ·exact ⟨hg,hd,outE_ok ht hd hp hz⟩
    ·rw [outE_deep ht hd] at he; cases he
   ·rw [outE_bad ht] at he; cases he
  obtain ⟨hg,hd,ho⟩ := ho
  rw [ho] at c1 hsz
  obtain ⟨x,s,hx,hs0,hc⟩ := items_ok hg hd
  have hfl : ((flat q).length : Int) = sumN (kidN q) q.l.length := flat_len q.l
  have hge := sizeL_ge (topL (emT q))
  generalize topL (emT q) = T at *
  have hTl : ¬ (T.length = 0) := fun e => by rw [List.eq_nil_of_length_eq_zero e] at hs0; cases hs0
  have hTd : ((T.length : Int) == 0) = false := by rw [beq_eq_false_iff_ne]; omega
  have hql : ¬ (q.l.length = 0) := fun e => by rw [List.eq_nil_of_length_eq_zero e] at hx; cases hx
  have hqd : ((q.l.length : Int) == 0) = false := by rw [beq_eq_false_iff_ne]; omega
  have hsz : sizeL T <= 8000 := hsz
  repeat' (first | refine Kn rfl ?_ | ((first | refine Ka ?_ | refine Kb ?_ | refine Kc ?_ | refine Kd ?_ | refine Ke ?_); simp only [hTd,hqd,go_sem]) | refine Kf ?_ | refine Kg ?_ | refine ⟨_,cs,Kg ?_⟩ | refine ⟨_,⟨cs,rfl⟩,Kg ?_⟩ | refine ⟨_,ct,Kg ?_⟩ | refine ⟨_,⟨ct,rfl⟩,Kg ?_⟩ | refine ⟨_,c1,Kg ?_⟩ | refine ⟨_,⟨c1,rfl⟩,Kg ?_⟩ | (refine Kp (fun _ => ?_) (fun _ => ?_) <;> try (exfalso; omega)) | ((first | refine Kh ?_ | refine Ki rfl ?_); simp only [hTd,hqd,or_self,Qs,Qt,Qu,Qv,Qw,Qx,Qy,Qz,Za,go_sem]))
  refine Kj (fr 82 [(1,.one (.ptr 0 0)),(3,vb true),(4,.one (.d (.sl (strD T)))),(6,vi (T.length - sumN (kidN q) (0 : Nat))),(7,vi (0 : Nat))]) (by (simp only [go_sem]; repeat' (first | refine Kp ?_ ?_ | exact Or.inl rfl | exact Or.inr rfl | rfl))) ?_
  refine Km (fun mz sz => ∃ i : Nat,i <= q.l.length /\ mz = q.l.length - i /\ (0 <= i) /\ sz = ⟨fr 82 [(1,.one (.ptr 0 0)),(3,vb true),(4,.one (.d (.sl (strD T)))),(6,vi (T.length - sumN (kidN q) i)),(7,vi i)],[.cells q.as]⟩) (q.l.length) ⟨0,Nat.zero_le _,(Nat.sub_zero _).symm,?_,rfl⟩ ?_
  ·exact Nat.zero_le _
  rintro _ _ ⟨i,hi,rfl,-,rfl⟩
  simp only [go_sem]
  by_cases hil : i < q.l.length
  ·obtain ⟨y,hy⟩ := at_lt hil
   have hT8 : T.length <= 8000 := by omega
   have hk := kidN_at hy
   have hb1 := sumN_bound (n := q.l.length) (fun j _ => kidN_b hs j) i (by omega)
   have hb2 := kidN_b hs i
   have hnx : sumN (kidN q) (i + 1) = sumN (kidN q) i + kidN q i := rfl
   generalize sumN (kidN q) i = n at *
   have hik : inK .i64 ((T.length : Int) - n - y.kids.length) := inK_small (by omega) (by omega)
   repeat' (first | refine Kn rfl ?_ | ((first | refine Ka ?_ | refine Kb ?_ | refine Kc ?_ | refine Kd ?_ | refine Ke ?_); simp only [go_sem]) | refine Kf ?_ | refine Kg ?_ | refine ⟨_,⟨Int.natCast_nonneg _,(by first | exact map_at hy | (rw [Int.toNat_natCast]; exact map_at hy)),rfl⟩,Kg ?_⟩ | refine ⟨hik,?_⟩ | refine ⟨inK_small (by omega) (by omega),?_⟩ | (refine Kp (fun _ => ?_) (fun _ => ?_) <;> try (exfalso; omega)) | ((first | refine Kh ?_ | refine Ki rfl ?_); simp only [or_self,Qs,Qt,Qu,Qv,Qw,Qx,Qy,Qz,Za,go_sem]))
   refine Kj (fr 82 [(1,.one (.ptr 0 0)),(3,vb true),(4,.one (.d (.sl (strD T)))),(6,vi (T.length - n - y.kids.length)),(7,vi (i + 1))]) (by (simp only [go_sem]; repeat' (first | refine Kp ?_ ?_ | exact Or.inl rfl | exact Or.inr rfl | rfl))) ?_
   refine Kl ⟨q.l.length - (i + 1),by omega,i + 1,by omega,rfl,?_,by rw [show (T.length : Int) - n - (y.kids.length : Int) = T.length - sumN (kidN q) (i + 1) from by omega]; rfl⟩
   exact Nat.zero_le _
  ·obtain rfl : q.l.length = i := by omega
   rw [<- hfl]
   generalize (flat q).length = m at *
   rcases hc with ⟨h1,h2⟩ | ⟨h1,h2,h3⟩
   ·have e1 : ((T.length : Int) - m == 1) = true := by rw [beq_iff_eq]; omega
    by_cases hk0 : x.kids.length = 0
    ·have e2 : ((x.kids.length : Int) == 0) = true := by rw [beq_iff_eq]; omega
     repeat' (first | refine Kn rfl ?_ | ((first | refine Ka ?_ | refine Kb ?_ | refine Kc ?_ | refine Kd ?_ | refine Ke ?_); simp only [e1,e2,go_sem]) | refine Kf ?_ | refine Kg ?_ | refine ⟨_,⟨map_at hx,rfl⟩,Kg ?_⟩ | refine ⟨_,⟨map_at hs0,rfl⟩,Kg ?_⟩ | (refine Kp (fun _ => ?_) (fun _ => ?_) <;> try (exfalso; omega)) | ((first | refine Kh ?_ | refine Ki rfl ?_); simp only [e1,e2,or_self,Qs,Qt,Qu,Qv,Qw,Qx,Qy,Qz,Za,go_sem]))
     all_goals trace_state
    ·have e2 : ((x.kids.length : Int) == 0) = false := by rw [beq_eq_false_iff_ne]; omega
     obtain rfl : s = [38,97,49] := h2.resolve_left hk0
     have e3 : decide (bT [38,97,49] = (⟨#[38,97,49]⟩ : ByteArray)) = true := by decide
     repeat' (first | refine Kn rfl ?_ | ((first | refine Ka ?_ | refine Kb ?_ | refine Kc ?_ | refine Kd ?_ | refine Ke ?_); simp only [e1,e2,e3,go_sem]) | refine Kf ?_ | refine Kg ?_ | refine ⟨_,⟨map_at hx,rfl⟩,Kg ?_⟩ | refine ⟨_,⟨map_at hs0,rfl⟩,Kg ?_⟩ | (refine Kp (fun _ => ?_) (fun _ => ?_) <;> try (exfalso; omega)) | ((first | refine Kh ?_ | refine Ki rfl ?_); simp only [e1,e2,e3,or_self,Qs,Qt,Qu,Qv,Qw,Qx,Qy,Qz,Za,go_sem]))
     all_goals trace_state
   ·have e1 : ((T.length : Int) - m == 1) = false := by rw [beq_eq_false_iff_ne]; omega
    have e4 : ((T.length : Int) - m == 0) = true := by rw [beq_iff_eq]; omega
    have e2 : ((x.kids.length : Int) == 0) = false := by rw [beq_eq_false_iff_ne]; omega
    have e3 : decide (bT s = (⟨#[38,97,49]⟩ : ByteArray)) = false := by
     rw [decide_eq_false_iff_not]; intro e; apply h3
     have := congrArg (fun b => b.data.toList) e
     simpa [bT] using this
    repeat' (first | refine Kn rfl ?_ | ((first | refine Ka ?_ | refine Kb ?_ | refine Kc ?_ | refine Kd ?_ | refine Ke ?_); simp only [e1,e2,e3,e4,go_sem]) | refine Kf ?_ | refine Kg ?_ | refine ⟨_,⟨map_at hx,rfl⟩,Kg ?_⟩ | refine ⟨_,⟨map_at hs0,rfl⟩,Kg ?_⟩ | (refine Kp (fun _ => ?_) (fun _ => ?_) <;> try (exfalso; omega)) | ((first | refine Kh ?_ | refine Ki rfl ?_); simp only [e1,e2,e3,e4,or_self,Qs,Qt,Qu,Qv,Qw,Qx,Qy,Qz,Za,go_sem]))
    all_goals trace_state
 ·have he' : ((outE q).2 != 0) = true := by simp [he]
  generalize outE q = o at *
  repeat' (first | refine Kn rfl ?_ | ((first | refine Ka ?_ | refine Kb ?_ | refine Kc ?_ | refine Kd ?_ | refine Ke ?_); simp only [he',go_sem]) | refine Kf ?_ | refine Kg ?_ | refine ⟨_,cs,Kg ?_⟩ | refine ⟨_,⟨cs,rfl⟩,Kg ?_⟩ | refine ⟨_,ct,Kg ?_⟩ | refine ⟨_,⟨ct,rfl⟩,Kg ?_⟩ | refine ⟨_,c1,Kg ?_⟩ | refine ⟨_,⟨c1,rfl⟩,Kg ?_⟩ | (refine Kp (fun _ => ?_) (fun _ => ?_) <;> try (exfalso; omega)) | ((first | refine Kh ?_ | refine Ki rfl ?_); simp only [he',or_self,Qs,Qt,Qu,Qv,Qw,Qx,Qy,Qz,Za,go_sem]))
  all_goals trace_state
end Go.Fw.L07
