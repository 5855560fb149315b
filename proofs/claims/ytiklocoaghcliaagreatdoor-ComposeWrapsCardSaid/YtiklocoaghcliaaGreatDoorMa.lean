/- Chapter 18,part 1: trees; which are shaped as they must be. -/
import Derived.Test.YtiklocoaghcliaaGreatDoorLc
import Derived.Test.YtiklocoaghcliaaGreatDoorEa
set_option linter.all false
namespace Go.Fw.L07
open Go Go.Fw
open Go.Fw.Sh renaming intro -> Kg
open Go.Fw renaming G_reg -> Ka,G_regp -> Ka,VO_chk -> Kb,VO_go -> Kc,VO_gx -> Kd,G_cond -> Ke,VO_end -> Kf,G_fin -> Kh,G_ret -> Ki,G_weak -> Kj,G_again -> Kl,G_loop -> Km,Gx -> Kn
open And renaming intro -> Kp
open Go.Proofs.Tryz renaming prog -> QP
open Go.Fw.V.one renaming injEq -> Qs
open Go.Fw.V.agg renaming injEq -> Qt
open Go.Fw.V.tup renaming injEq -> Qu
open Go.Fw.A.d renaming injEq -> Qv
open Go.Fw.D.bool renaming injEq -> Qw
open Go.Fw.D.int renaming injEq -> Qx
open Go.Fw.D.str renaming injEq -> Qy
open Go.Fw.D.sl renaming injEq -> Qz
open List.cons renaming injEq -> Za
set_option maxRecDepth 4000
variable {gp : Heap}
inductive Tr where
 | mk (k : Int) (name : ByteArray) (x : Sc) (keys : List Sc) (kids : List Tr)
def Tr.k : Tr -> Int | .mk k _ _ _ _ => k
def Tr.name : Tr -> ByteArray | .mk _ n _ _ _ => n
def Tr.x : Tr -> Sc | .mk _ _ x _ _ => x
def Tr.keys : Tr -> List Sc | .mk _ _ _ l _ => l
def Tr.kids : Tr -> List Tr | .mk _ _ _ _ l => l
mutual
def Tr.ds : Tr -> List D
 | .mk k name x keys kids => [.int .i64 k,.str name,.int .i64 x.k,.int .i64 x.n,.str x.s,.sl (scs keys),.sl (trsM kids)]
def trsM : List Tr -> List (List D)
 | [] => []
 | t :: l => t.ds :: trsM l
end
abbrev trs (l : List Tr) : List (List D) := l.map Tr.ds
theorem trsM_eq : ∀ l : List Tr,trsM l = trs l
 | [] => rfl
 | t :: l => by simp only [trsM,trs,List.map_cons,trsM_eq l]
abbrev Tr.dd (t : Tr) : List D := [.int .i64 t.k,.str t.name,.int .i64 t.x.k,.int .i64 t.x.n,.str t.x.s,.sl (scs t.keys),.sl (trs t.kids)]
abbrev Tr.as (t : Tr) : List A := [.d (.int .i64 t.k),.d (.str t.name),.d (.int .i64 t.x.k),.d (.int .i64 t.x.n),.d (.str t.x.s),.d (.sl (scs t.keys)),.d (.sl (trs t.kids))]
abbrev Tr.v (t : Tr) : V := .agg t.as
theorem Tr.ds_eq (t : Tr) : t.ds = t.dd := by
 cases t with
 | mk k name x keys kids => simp only [Tr.ds,trsM_eq]; rfl
theorem trs_at {l : List Tr} {i : Nat} {t : Tr} (h : l[i]? = some t) : (trs l)[i]? = some t.dd := by rw [map_at h,t.ds_eq]
def signI (r : Int) : Bool := (decide (65 <= r) && decide (r <= 90)) || (decide (97 <= r) && decide (r <= 122)) || (decide (48 <= r) && decide (r <= 57)) || decide (r = 95) || decide (r = 45)
theorem is_sign (r : Int) : Does QP gp 131 [.one (.d (.int .i32 r))] (vb (signI r)) := by
 refine f131_in ?_
 simp only [go_sem]
 repeat' (first | refine Kn rfl ?_ | ((first | refine Ka ?_ | refine G_regp rfl rfl ?_ | refine Kb ?_ | refine Kc ?_ | refine Kd ?_ | refine Ke ?_); simp only [go_sem]) | refine Kf ?_ | refine Kg ?_ | refine Kp (fun _ => ?_) (fun _ => ?_) | ((first | refine Kh ?_ | refine Ki rfl ?_); simp only [or_self,Qs,Qt,Qu,Qv,Qw,Qx,Qy,Qz,Za,go_sem]))
 all_goals (unfold signI; grind)
def signsFrom (s : ByteArray) : Nat -> Nat -> Bool
 | 0,_ => true
 | f + 1,p => if p < s.size then signI (Utf8.decode s p).1 && signsFrom s f (p + (Utf8.decode s p).2) else true
def isNameB (s : ByteArray) : Bool := signsFrom s s.size 0 && (decide (s ≠ ⟨#[]⟩) && decide ((s.size : Int) <= 20))
theorem is_name (s : ByteArray) : Does QP gp 110 [vs s] (vb (isNameB s)) := by
 refine f110_in ?_
 simp only [go_sem]
 repeat' (first | refine Kn rfl ?_ | ((first | refine Ka ?_ | refine G_regp rfl rfl ?_ | refine Kb ?_ | refine Kc ?_ | refine Kd ?_ | refine Ke ?_); simp only [go_sem]) | refine Kf ?_ | refine Kg ?_ | refine Kp (fun _ => ?_) (fun _ => ?_) | ((first | refine Kh ?_ | refine Ki rfl ?_); simp only [or_self,Qs,Qt,Qu,Qv,Qw,Qx,Qy,Qz,Za,go_sem]))
 refine Kj (fr 20 [(0,vs s),(6,.one (.own 0 0))]) (by (simp only [go_sem]; repeat' (first | refine Kp ?_ ?_ | exact Or.inl rfl | exact Or.inr rfl | rfl))) ?_
 refine Km (fun mz sz => ∃ p f : Nat,mz = s.size - p /\ s.size - p <= f /\ signsFrom s f p = signsFrom s s.size 0 /\ sz = ⟨fr 20 [(0,vs s),(6,.one (.own 0 0))],[.siter s p]⟩) s.size ⟨0,s.size,rfl,Nat.le_refl _,rfl,rfl⟩ ?_
 rintro _ _ ⟨p,f,rfl,hf,hr,rfl⟩
 simp only [go_sem]
 by_cases hp : p < s.size
 ·obtain ⟨f,rfl⟩ : ∃ g,f = g + 1 := ⟨f - 1,by omega⟩
  have hw := Lib.decode_width_pos s p hp
  simp only [signsFrom,if_pos hp] at hr
  cases hs : signI (Utf8.decode s p).1 with
  | false =>
   have c1 := is_sign (gp := gp) (Utf8.decode s p).1
   rw [hs] at c1 hr
   have hb : isNameB s = false := by unfold isNameB; rw [<- hr]; rfl
   rw [hb]
   repeat' (first | refine Kn rfl ?_ | ((first | refine Ka ?_ | refine G_regp rfl rfl ?_ | refine Kb ?_ | refine Kc ?_ | refine Kd ?_ | refine Ke ?_); simp only [go_sem]) | refine Kf ?_ | refine Kg ?_ | refine ⟨_,c1,Kg ?_⟩ | refine ⟨_,⟨c1,rfl⟩,Kg ?_⟩ | (refine Kp (fun _ => ?_) (fun _ => ?_) <;> try (exfalso; omega)) | ((first | refine Kh ?_ | refine Ki rfl ?_); simp only [or_self,Qs,Qt,Qu,Qv,Qw,Qx,Qy,Qz,Za,go_sem]))
   all_goals trace_state
  | true =>
   have c1 := is_sign (gp := gp) (Utf8.decode s p).1
   rw [hs] at c1 hr
   rw [Bool.true_and] at hr
   repeat' (first | refine Kn rfl ?_ | ((first | refine Ka ?_ | refine G_regp rfl rfl ?_ | refine Kb ?_ | refine Kc ?_ | refine Kd ?_ | refine Ke ?_); simp only [go_sem]) | refine Kf ?_ | refine Kg ?_ | refine ⟨_,c1,Kg ?_⟩ | refine ⟨_,⟨c1,rfl⟩,Kg ?_⟩ | (refine Kp (fun _ => ?_) (fun _ => ?_) <;> try (exfalso; omega)) | ((first | refine Kh ?_ | refine Ki rfl ?_); simp only [or_self,Qs,Qt,Qu,Qv,Qw,Qx,Qy,Qz,Za,go_sem]))
   ·refine Kj (fr 20 [(0,vs s),(6,.one (.own 0 0))]) (by (simp only [go_sem]; repeat' (first | refine Kp ?_ ?_ | exact Or.inl rfl | exact Or.inr rfl | rfl))) ?_
    exact Kl ⟨s.size - (p + (Utf8.decode s p).2),by omega,p + (Utf8.decode s p).2,f,rfl,by omega,hr,rfl⟩
 ·have he : signsFrom s s.size 0 = true := by
   rw [<- hr]
   cases f with
   | zero => rfl
   | succ f => simp only [signsFrom,if_neg hp]
  repeat' (first | refine Kn rfl ?_ | ((first | refine Ka ?_ | refine G_regp rfl rfl ?_ | refine Kb ?_ | refine Kc ?_ | refine Kd ?_ | refine Ke ?_); simp only [go_sem]) | refine Kf ?_ | refine Kg ?_ | (refine Kp (fun _ => ?_) (fun _ => ?_) <;> try (exfalso; omega)) | ((first | refine Kh ?_ | refine Ki rfl ?_); simp only [or_self,Qs,Qt,Qu,Qv,Qw,Qx,Qy,Qz,Za,go_sem]))
  all_goals (first | (rename_i h; exact absurd h hp) | (unfold isNameB; rw [he]; simp; grind) | trace_state)
theorem are_all18 (l : List Bool) : Does QP gp 128 [.one (.d (.sl (bls l)))] (vb (l.all id)) := by
 refine f128_in ?_
 simp only [go_sem]
 repeat' (first | refine Kn rfl ?_ | ((first | refine Ka ?_ | refine G_regp rfl rfl ?_ | refine Kb ?_ | refine Kc ?_ | refine Kd ?_ | refine Ke ?_); simp only [go_sem]) | refine Kf ?_ | refine Kg ?_ | refine ⟨_,contains_bool _ _,Kg ?_⟩ | refine ⟨_,⟨contains_bool _ _,rfl⟩,Kg ?_⟩ | refine Kp (fun _ => ?_) (fun _ => ?_) | ((first | refine Kh ?_ | refine Ki rfl ?_); simp only [or_self,Qs,Qt,Qu,Qv,Qw,Qx,Qy,Qz,Za,go_sem]))
 induction l <;> simp_all
theorem is_null (t : Tr) : Does QP gp 129 [t.v] (vb (isZ t.x)) := by
 refine f129_in ?_
 simp only [go_sem]
 repeat' (first | refine Kn rfl ?_ | ((first | refine Ka ?_ | refine G_regp rfl rfl ?_ | refine Kb ?_ | refine Kc ?_ | refine Kd ?_ | refine Ke ?_); simp only [sc_zero,go_sem]) | refine Kf ?_ | refine Kg ?_ | refine Kp (fun _ => ?_) (fun _ => ?_) | ((first | refine Kh ?_ | refine Ki rfl ?_); simp only [sc_zero,or_self,Qs,Qt,Qu,Qv,Qw,Qx,Qy,Qz,Za,go_sem]))
 all_goals rfl
section
variable (R : ByteArray -> Bool) (hR : ∀ s,Does QP gp 40 [vs s] (vb (R s)))
include hR
theorem other18 (x : Sc) : Does QP gp 146 [x.v] (vb (!prR R x)) := by
 refine f146_in ?_
 simp only [go_sem]
 repeat' (first | refine Kn rfl ?_ | ((first | refine Ka ?_ | refine G_regp rfl rfl ?_ | refine Kb ?_ | refine Kc ?_ | refine Kd ?_ | refine Ke ?_); simp only [go_sem]) | refine Kf ?_ | refine Kg ?_ | refine ⟨_,plain_right R hR _,Kg ?_⟩ | refine ⟨_,⟨plain_right R hR _,rfl⟩,Kg ?_⟩ | refine Kp (fun _ => ?_) (fun _ => ?_) | ((first | refine Kh ?_ | refine Ki rfl ?_); simp only [or_self,Qs,Qt,Qu,Qv,Qw,Qx,Qy,Qz,Za,go_sem]))
 try rfl
theorem are_scalars (t : Tr) : Does QP gp 130 [t.v] (vb (t.keys.all (prR R))) := by
 refine f130_in ?_
 simp only [go_sem]
 repeat' (first | refine Kn rfl ?_ | ((first | refine Ka ?_ | refine G_regp rfl rfl ?_ | refine Kb ?_ | refine Kc ?_ | refine Kd ?_ | refine Ke ?_); simp only [go_sem]) | refine Kf ?_ | refine Kg ?_ | refine ⟨_,contains_scs _ _ _ (other18 R hR),Kg ?_⟩ | refine ⟨_,⟨contains_scs _ _ _ (other18 R hR),rfl⟩,Kg ?_⟩ | refine Kp (fun _ => ?_) (fun _ => ?_) | ((first | refine Kh ?_ | refine Ki rfl ?_); simp only [or_self,Qs,Qt,Qu,Qv,Qw,Qx,Qy,Qz,Za,go_sem]))
 all_goals (try (rw [Bool.eq_iff_iff]; simp; done))
def oneT (R : ByteArray -> Bool) (t : Tr) : Bool := prR R t.x && (decide (t.keys = []) && decide (t.kids = []))
def seqT (t : Tr) : Bool := isZ t.x && decide (t.keys = [])
def mapT (R : ByteArray -> Bool) (t : Tr) : Bool := isZ t.x && (decide (t.keys.length = t.kids.length) && t.keys.all (prR R))
def refT (t : Tr) : Bool := isZ t.x && (decide (t.keys = []) && (decide (t.kids = []) && decide (t.name ≠ ⟨#[]⟩)))
theorem is_one18 (t : Tr) : Does QP gp 106 [t.v] (vb (oneT R t)) := by
 refine f106_in ?_
 simp only [go_sem]
 repeat' (first | refine Kn rfl ?_ | ((first | refine Ka ?_ | refine G_regp rfl rfl ?_ | refine Kb ?_ | refine Kc ?_ | refine Kd ?_ | refine Ke ?_); simp only [go_sem]) | refine Kf ?_ | refine Kg ?_ | refine ⟨_,plain_right R hR _,Kg ?_⟩ | refine ⟨_,⟨plain_right R hR _,rfl⟩,Kg ?_⟩ | refine ⟨_,are_all18 [_,_,_],Kg ?_⟩ | refine ⟨_,⟨are_all18 [_,_,_],rfl⟩,Kg ?_⟩ | refine Kp (fun _ => ?_) (fun _ => ?_) | ((first | refine Kh ?_ | refine Ki rfl ?_); simp only [or_self,Qs,Qt,Qu,Qv,Qw,Qx,Qy,Qz,Za,go_sem]))
 unfold oneT
 cases t.keys <;> cases t.kids <;> simp <;> omega
omit hR in
theorem is_seq18 (t : Tr) : Does QP gp 107 [t.v] (vb (seqT t)) := by
 refine f107_in ?_
 simp only [go_sem]
 repeat' (first | refine Kn rfl ?_ | ((first | refine Ka ?_ | refine G_regp rfl rfl ?_ | refine Kb ?_ | refine Kc ?_ | refine Kd ?_ | refine Ke ?_); simp only [go_sem]) | refine Kf ?_ | refine Kg ?_ | refine ⟨_,is_null t,Kg ?_⟩ | refine ⟨_,⟨is_null t,rfl⟩,Kg ?_⟩ | refine ⟨_,are_all18 [_,_],Kg ?_⟩ | refine ⟨_,⟨are_all18 [_,_],rfl⟩,Kg ?_⟩ | refine Kp (fun _ => ?_) (fun _ => ?_) | ((first | refine Kh ?_ | refine Ki rfl ?_); simp only [or_self,Qs,Qt,Qu,Qv,Qw,Qx,Qy,Qz,Za,go_sem]))
 unfold seqT
 cases t.keys <;> simp <;> omega
theorem is_map18 (t : Tr) : Does QP gp 108 [t.v] (vb (mapT R t)) := by
 refine f108_in ?_
 simp only [go_sem]
 repeat' (first | refine Kn rfl ?_ | ((first | refine Ka ?_ | refine G_regp rfl rfl ?_ | refine Kb ?_ | refine Kc ?_ | refine Kd ?_ | refine Ke ?_); simp only [go_sem]) | refine Kf ?_ | refine Kg ?_ | refine ⟨_,is_null t,Kg ?_⟩ | refine ⟨_,⟨is_null t,rfl⟩,Kg ?_⟩ | refine ⟨_,are_scalars R hR t,Kg ?_⟩ | refine ⟨_,⟨are_scalars R hR t,rfl⟩,Kg ?_⟩ | refine ⟨_,are_all18 [_,_,_],Kg ?_⟩ | refine ⟨_,⟨are_all18 [_,_,_],rfl⟩,Kg ?_⟩ | refine Kp (fun _ => ?_) (fun _ => ?_) | ((first | refine Kh ?_ | refine Ki rfl ?_); simp only [or_self,Qs,Qt,Qu,Qv,Qw,Qx,Qy,Qz,Za,go_sem]))
 unfold mapT
 simp
 congr 2
 rw [Bool.eq_iff_iff]; simp; omega
omit hR in
theorem is_ref18 (t : Tr) : Does QP gp 109 [t.v] (vb (refT t)) := by
 refine f109_in ?_
 simp only [go_sem]
 repeat' (first | refine Kn rfl ?_ | ((first | refine Ka ?_ | refine G_regp rfl rfl ?_ | refine Kb ?_ | refine Kc ?_ | refine Kd ?_ | refine Ke ?_); simp only [go_sem]) | refine Kf ?_ | refine Kg ?_ | refine ⟨_,is_null t,Kg ?_⟩ | refine ⟨_,⟨is_null t,rfl⟩,Kg ?_⟩ | refine ⟨_,are_all18 [_,_,_,_],Kg ?_⟩ | refine ⟨_,⟨are_all18 [_,_,_,_],rfl⟩,Kg ?_⟩ | refine Kp (fun _ => ?_) (fun _ => ?_) | ((first | refine Kh ?_ | refine Ki rfl ?_); simp only [or_self,Qs,Qt,Qu,Qv,Qw,Qx,Qy,Qz,Za,go_sem]))
 unfold refT
 cases t.keys <;> cases t.kids <;> simp <;> omega
def shapeT (R : ByteArray -> Bool) (t : Tr) : Bool :=
 (if t.k = 0 then oneT R t else if t.k = 1 then seqT t else if t.k = 2 then mapT R t else if t.k = 3 then refT t else false) && (decide (t.name = ⟨#[]⟩) || isNameB t.name)
set_option maxHeartbeats 1000000 in
theorem is_shaped (t : Tr) : Does QP gp 79 [t.v] (vb (shapeT R t)) := by
 refine f79_in ?_
 simp only [go_sem]
 by_cases hk : 0 <= t.k /\ t.k < 4
 ·rcases (show t.k = 0 \/ t.k = 1 \/ t.k = 2 \/ t.k = 3 by omega) with h | h | h | h
  ·have c1 := is_one18 R hR t
   have e : shapeT R t = (oneT R t && (decide (t.name = ⟨#[]⟩) || isNameB t.name)) := by simp [shapeT,h]
   rw [e]
   repeat' (first | refine Kn rfl ?_ | ((first | refine Ka ?_ | refine G_regp rfl rfl ?_ | refine Kb ?_ | refine Kc ?_ | refine Kd ?_ | refine Ke ?_); simp only [go_sem]) | refine Kf ?_ | refine Kg ?_ | refine ⟨_,c1,Kg ?_⟩ | refine ⟨_,⟨c1,rfl⟩,Kg ?_⟩ | refine ⟨_,is_name _,Kg ?_⟩ | refine ⟨_,⟨is_name _,rfl⟩,Kg ?_⟩ | refine ⟨0,⟨h,by decide⟩,Kg ?_⟩ | (refine Kp (fun _ => ?_) (fun _ => ?_) <;> try (exfalso; omega)) | ((first | refine Kh ?_ | refine Ki rfl ?_); simp only [or_self,Qs,Qt,Qu,Qv,Qw,Qx,Qy,Qz,Za,go_sem]))
   all_goals simp_all
  ·have c1 := is_seq18 (gp := gp) t
   have e : shapeT R t = (seqT t && (decide (t.name = ⟨#[]⟩) || isNameB t.name)) := by simp [shapeT,h]
   rw [e]
   repeat' (first | refine Kn rfl ?_ | ((first | refine Ka ?_ | refine G_regp rfl rfl ?_ | refine Kb ?_ | refine Kc ?_ | refine Kd ?_ | refine Ke ?_); simp only [go_sem]) | refine Kf ?_ | refine Kg ?_ | refine ⟨_,c1,Kg ?_⟩ | refine ⟨_,⟨c1,rfl⟩,Kg ?_⟩ | refine ⟨_,is_name _,Kg ?_⟩ | refine ⟨_,⟨is_name _,rfl⟩,Kg ?_⟩ | refine ⟨1,⟨h,by decide⟩,Kg ?_⟩ | (refine Kp (fun _ => ?_) (fun _ => ?_) <;> try (exfalso; omega)) | ((first | refine Kh ?_ | refine Ki rfl ?_); simp only [or_self,Qs,Qt,Qu,Qv,Qw,Qx,Qy,Qz,Za,go_sem]))
   all_goals simp_all
  ·have c1 := is_map18 R hR t
   have e : shapeT R t = (mapT R t && (decide (t.name = ⟨#[]⟩) || isNameB t.name)) := by simp [shapeT,h]
   rw [e]
   repeat' (first | refine Kn rfl ?_ | ((first | refine Ka ?_ | refine G_regp rfl rfl ?_ | refine Kb ?_ | refine Kc ?_ | refine Kd ?_ | refine Ke ?_); simp only [go_sem]) | refine Kf ?_ | refine Kg ?_ | refine ⟨_,c1,Kg ?_⟩ | refine ⟨_,⟨c1,rfl⟩,Kg ?_⟩ | refine ⟨_,is_name _,Kg ?_⟩ | refine ⟨_,⟨is_name _,rfl⟩,Kg ?_⟩ | refine ⟨2,⟨h,by decide⟩,Kg ?_⟩ | (refine Kp (fun _ => ?_) (fun _ => ?_) <;> try (exfalso; omega)) | ((first | refine Kh ?_ | refine Ki rfl ?_); simp only [or_self,Qs,Qt,Qu,Qv,Qw,Qx,Qy,Qz,Za,go_sem]))
   all_goals simp_all
  ·have c1 := is_ref18 (gp := gp) t
   have e : shapeT R t = (refT t && (decide (t.name = ⟨#[]⟩) || isNameB t.name)) := by simp [shapeT,h]
   rw [e]
   repeat' (first | refine Kn rfl ?_ | ((first | refine Ka ?_ | refine G_regp rfl rfl ?_ | refine Kb ?_ | refine Kc ?_ | refine Kd ?_ | refine Ke ?_); simp only [go_sem]) | refine Kf ?_ | refine Kg ?_ | refine ⟨_,c1,Kg ?_⟩ | refine ⟨_,⟨c1,rfl⟩,Kg ?_⟩ | refine ⟨_,is_name _,Kg ?_⟩ | refine ⟨_,⟨is_name _,rfl⟩,Kg ?_⟩ | refine ⟨3,⟨h,by decide⟩,Kg ?_⟩ | (refine Kp (fun _ => ?_) (fun _ => ?_) <;> try (exfalso; omega)) | ((first | refine Kh ?_ | refine Ki rfl ?_); simp only [or_self,Qs,Qt,Qu,Qv,Qw,Qx,Qy,Qz,Za,go_sem]))
   all_goals simp_all
 ·have e : shapeT R t = false := by
   unfold shapeT
   rw [if_neg (by omega),if_neg (by omega),if_neg (by omega),if_neg (by omega)]; rfl
  rw [e]
  repeat' (first | refine Kn rfl ?_ | ((first | refine Ka ?_ | refine G_regp rfl rfl ?_ | refine Kb ?_ | refine Kc ?_ | refine Kd ?_ | refine Ke ?_); simp only [go_sem]) | refine Kf ?_ | refine Kg ?_ | (refine Kp (fun _ => ?_) (fun _ => ?_) <;> try (exfalso; omega)) | ((first | refine Kh ?_ | refine Ki rfl ?_); simp only [or_self,Qs,Qt,Qu,Qv,Qw,Qx,Qy,Qz,Za,go_sem]))
  all_goals simp_all
end
abbrev Nm := List (ByteArray × Int)
def getS : Nm -> ByteArray -> Option Int
 | [],_ => none
 | p :: m,a => if a = p.1 then some p.2 else getS m a
def putS : Nm -> ByteArray -> Int -> Nm
 | [],a,b => [(a,b)]
 | p :: m,a,b => if a = p.1 then (a,b) :: m else p :: putS m a b
def mpS (m : Nm) : List (V × V) := m.map fun p => (vs p.1,vi p.2)
theorem eqV_s (a b : ByteArray) : eqV false [.s] (vs a) (vs b) = some (decide (a = b)) := by simp only [go_sem]
theorem mpS_find : ∀ (m : Nm) (a : ByteArray),findV false [.s] (mpS m) (vs a) = some ((getS m a).map vi)
 | [],a => rfl
 | (k,v) :: m,a => by
  simp only [mpS,List.map_cons,findV,eqV_s,getS]
  by_cases h : a = k
  ·simp [h]
  ·simp only [h,decide_false,if_neg,not_false_eq_true]
   exact mpS_find m a
theorem mpS_put : ∀ (m : Nm) (a : ByteArray) (b : Int),putM false [.s] (mpS m) (vs a) (vi b) = some (mpS (putS m a b))
 | [],a,b => rfl
 | (k,v) :: m,a,b => by
  simp only [mpS,List.map_cons,putM,eqV_s,putS]
  by_cases h : a = k
  ·simp [h]
  ·have := mpS_put m a b
   simp only [mpS] at this
   simp only [h,decide_false,if_neg,not_false_eq_true,this]
   rfl
theorem mpS_refs (m : Nm) : (Ch.map (mpS m)).refs = [] := by
 simp only [Ch.refs]
 rw [List.flatMap_eq_nil_iff]
 intro e he
 obtain ⟨a,_,rfl⟩ := List.mem_map.1 he
 rfl
def chkT (R : ByteArray -> Bool) (t : Tr) (deep : Int) (n : Nat) (nm : Nm) : Int :=
 if deep > 24 then 73 else if shapeT R t = false then 93 else if ¬ t.keys.Nodup then 101 else if t.k = 3 /\ getS nm t.name = none then 100 else if t.k ≠ 3 /\ n = 200 then 71 else 0
structure Lr where
 is : List Int
 e : Int
 new : List Nd
 nm : Nm
mutual
def layT (R : ByteArray -> Bool) : Tr -> Int -> Nat -> Nm -> Lr
 | .mk k name x keys kids,deep,n,nm =>
  let e := chkT R (.mk k name x keys kids) deep n nm
  if e ≠ 0 then ⟨[0],e,[],nm⟩ else if k = 3 then ⟨[(getS nm name).getD 0],0,[],nm⟩ else
  let r := layK R kids (deep + 1) (n + 1) (if name = ⟨#[]⟩ then nm else putS nm name n)
  ⟨[if r.e ≠ 0 then 0 else (n : Int)],r.e,⟨k,x,keys,r.is⟩ :: r.new,r.nm⟩
def layK (R : ByteArray -> Bool) : List Tr -> Int -> Nat -> Nm -> Lr
 | [],_,_,nm => ⟨[],0,[],nm⟩
 | t :: l,deep,n,nm =>
  let a := layT R t deep n nm
  if a.e ≠ 0 then a else
  let b := layK R l deep (n + a.new.length) a.nm
  ⟨a.is ++ b.is,b.e,a.new ++ b.new,b.nm⟩
end
theorem layT_eq (R : ByteArray -> Bool) (t : Tr) (deep : Int) (n : Nat) (nm : Nm) : layT R t deep n nm =
  if chkT R t deep n nm ≠ 0 then ⟨[0],chkT R t deep n nm,[],nm⟩ else if t.k = 3 then ⟨[(getS nm t.name).getD 0],0,[],nm⟩ else
  ⟨[if (layK R t.kids (deep + 1) (n + 1) (if t.name = ⟨#[]⟩ then nm else putS nm t.name n)).e ≠ 0 then 0 else (n : Int)],(layK R t.kids (deep + 1) (n + 1) (if t.name = ⟨#[]⟩ then nm else putS nm t.name n)).e,
   ⟨t.k,t.x,t.keys,(layK R t.kids (deep + 1) (n + 1) (if t.name = ⟨#[]⟩ then nm else putS nm t.name n)).is⟩ :: (layK R t.kids (deep + 1) (n + 1) (if t.name = ⟨#[]⟩ then nm else putS nm t.name n)).new,(layK R t.kids (deep + 1) (n + 1) (if t.name = ⟨#[]⟩ then nm else putS nm t.name n)).nm⟩ := by
 cases t with
 | mk k name x keys kids => rw [layT]; rfl
theorem layK_cons (R : ByteArray -> Bool) (t : Tr) (l : List Tr) (deep : Int) (n : Nat) (nm : Nm) : layK R (t :: l) deep n nm =
  if (layT R t deep n nm).e ≠ 0 then layT R t deep n nm else
  ⟨(layT R t deep n nm).is ++ (layK R l deep (n + (layT R t deep n nm).new.length) (layT R t deep n nm).nm).is,(layK R l deep (n + (layT R t deep n nm).new.length) (layT R t deep n nm).nm).e,
   (layT R t deep n nm).new ++ (layK R l deep (n + (layT R t deep n nm).new.length) (layT R t deep n nm).nm).new,(layK R l deep (n + (layT R t deep n nm).new.length) (layT R t deep n nm).nm).nm⟩ := by rw [layK]
theorem layK_snoc (R : ByteArray -> Bool) (t : Tr) (deep : Int) : ∀ (l : List Tr) (n : Nat) (nm : Nm),(layK R l deep n nm).e = 0 ->
  layK R (l ++ [t]) deep n nm = ⟨(layK R l deep n nm).is ++ (layT R t deep (n + (layK R l deep n nm).new.length) (layK R l deep n nm).nm).is,(layT R t deep (n + (layK R l deep n nm).new.length) (layK R l deep n nm).nm).e,
   (layK R l deep n nm).new ++ (layT R t deep (n + (layK R l deep n nm).new.length) (layK R l deep n nm).nm).new,(layT R t deep (n + (layK R l deep n nm).new.length) (layK R l deep n nm).nm).nm⟩
 | [],n,nm,_ => by
  rw [List.nil_append,layK_cons]
  simp only [layK]
  split <;> simp_all
 | a :: l,n,nm,h => by
  rw [layK_cons] at h
  split at h
  ·rename_i h2; exact absurd h h2
  ·rename_i h2
   have ih := layK_snoc R t deep l (n + (layT R a deep n nm).new.length) (layT R a deep n nm).nm h
   rw [List.cons_append,layK_cons,layK_cons,if_neg h2,if_neg h2,ih]
   simp [Nat.add_assoc]
theorem layK_stop (R : ByteArray -> Bool) (deep : Int) : ∀ (l r : List Tr) (n : Nat) (nm : Nm),(layK R l deep n nm).e ≠ 0 -> layK R (l ++ r) deep n nm = layK R l deep n nm
 | [],_,_,_,h => absurd rfl h
 | a :: l,r,n,nm,h => by
  rw [List.cons_append,layK_cons,layK_cons]
  rw [layK_cons] at h
  split
  ·rfl
  ·rename_i h2
   rw [if_neg h2] at h
   rw [layK_stop R deep l r _ _ h]
theorem layT_is (R : ByteArray -> Bool) (t : Tr) (deep : Int) (n : Nat) (nm : Nm) : ∃ i,(layT R t deep n nm).is = [i] := by
 rw [layT_eq]
 split
 ·exact ⟨_,rfl⟩
 ·split <;> exact ⟨_,rfl⟩
abbrev errW (e : Int) : V := .one (.d (if e = 0 then .nilI else .ifc 106 true [.int .i64 e]))
abbrev ndK (x : Nd) : List D × List (List D) := ([.int .i64 x.k,.int .i64 x.x.k,.int .i64 x.x.n,.str x.x.s,.sl (scs x.keys)],ints x.kids)
abbrev cmpC (root : Int) (ver : Nat) : Ch := .cells [.d (.int .i64 root),.own 1 ver,.own 2 0]
abbrev cmpL (L : List Nd) (ver : Nat) : Ch := .nest 6 1 ver (L.map ndK)
theorem check18 (R : ByteArray -> Bool) (hR : ∀ s,Does QP gp 40 [vs s] (vb (R s))) (t : Tr) (deep : Int) (root : Int) (ver : Nat) (L : List Nd) (nm : Nm) :
  Tri QP gp 57 [.one (.ptr 0 0),t.v,vi deep] [cmpC root ver,cmpL L ver,.map (mpS nm)] fun r post => r = errW (chkT R t deep L.length nm) /\ post = [cmpC root ver,cmpL L ver,.map (mpS nm)] := by
 have c1 := is_shaped R hR t
 have c2 := twice (gp := gp) t.keys
 have hf := mpS_find nm t.name
 have hk1 : eqV false [.s] (vs t.name) (vs t.name) ≠ none := by rw [eqV_s]; simp
 refine f57_tri ?_
 simp only [go_sem]
 unfold chkT
 by_cases h1 : deep > 24
 ·rw [if_pos h1]
  repeat' (first | refine Kn rfl ?_ | ((first | refine Ka ?_ | refine G_regp rfl rfl ?_ | refine Kb ?_ | refine Kc ?_ | refine Kd ?_ | refine Ke ?_); simp only [go_sem]) | refine Kf ?_ | refine Kg ?_ | refine ⟨_,c1,Kg ?_⟩ | refine ⟨_,⟨c1,rfl⟩,Kg ?_⟩ | refine ⟨_,c2,Kg ?_⟩ | refine ⟨_,⟨c2,rfl⟩,Kg ?_⟩ | (refine Kp (fun _ => ?_) (fun _ => ?_) <;> try (exfalso; omega)) | ((first | refine Kh ?_ | refine Ki rfl ?_); simp only [or_self,Qs,Qt,Qu,Qv,Qw,Qx,Qy,Qz,Za,go_sem]))
  refine ⟨_,⟨hf,by cases getS nm t.name <;> rfl⟩,Kg ?_⟩
  repeat' (first | refine Kn rfl ?_ | ((first | refine Ka ?_ | refine G_regp rfl rfl ?_ | refine Kb ?_ | refine Kc ?_ | refine Kd ?_ | refine Ke ?_); simp only [go_sem]) | refine Kf ?_ | refine Kg ?_ | refine ⟨_,c1,Kg ?_⟩ | refine ⟨_,⟨c1,rfl⟩,Kg ?_⟩ | refine ⟨_,c2,Kg ?_⟩ | refine ⟨_,⟨c2,rfl⟩,Kg ?_⟩ | (refine Kp (fun _ => ?_) (fun _ => ?_) <;> try (exfalso; omega)) | ((first | refine Kh ?_ | refine Ki rfl ?_); simp only [or_self,Qs,Qt,Qu,Qv,Qw,Qx,Qy,Qz,Za,go_sem]))
 ·rw [if_neg h1]
  repeat' (first | refine Kn rfl ?_ | ((first | refine Ka ?_ | refine G_regp rfl rfl ?_ | refine Kb ?_ | refine Kc ?_ | refine Kd ?_ | refine Ke ?_); simp only [go_sem]) | refine Kf ?_ | refine Kg ?_ | refine ⟨_,c1,Kg ?_⟩ | refine ⟨_,⟨c1,rfl⟩,Kg ?_⟩ | refine ⟨_,c2,Kg ?_⟩ | refine ⟨_,⟨c2,rfl⟩,Kg ?_⟩ | (refine Kp (fun _ => ?_) (fun _ => ?_) <;> try (exfalso; omega)) | ((first | refine Kh ?_ | refine Ki rfl ?_); simp only [or_self,Qs,Qt,Qu,Qv,Qw,Qx,Qy,Qz,Za,go_sem]))
  refine ⟨_,⟨hf,by cases getS nm t.name <;> rfl⟩,Kg ?_⟩
  repeat' (first | refine Kn rfl ?_ | ((first | refine Ka ?_ | refine G_regp rfl rfl ?_ | refine Kb ?_ | refine Kc ?_ | refine Kd ?_ | refine Ke ?_); simp only [go_sem]) | refine Kf ?_ | refine Kg ?_ | refine ⟨_,c1,Kg ?_⟩ | refine ⟨_,⟨c1,rfl⟩,Kg ?_⟩ | refine ⟨_,c2,Kg ?_⟩ | refine ⟨_,⟨c2,rfl⟩,Kg ?_⟩ | (refine Kp (fun _ => ?_) (fun _ => ?_) <;> try (exfalso; omega)) | ((first | refine Kh ?_ | refine Ki rfl ?_); simp only [or_self,Qs,Qt,Qu,Qv,Qw,Qx,Qy,Qz,Za,go_sem]))
  all_goals (cases hgs : getS nm t.name <;> simp_all <;> first | omega | done)
theorem tr_ind {P : Tr -> Prop} (h : ∀ t : Tr,(∀ c ∈ t.kids,P c) -> P t) : ∀ t,P t
 | .mk k n x keys kids => h (.mk k n x keys kids) fun c (hc : c ∈ kids) => tr_ind h c
 termination_by t => SizeOf.sizeOf t
 decreasing_by
 have := List.sizeOf_lt_of_mem hc
 simp; omega
section
variable {R : ByteArray -> Bool}
theorem layK_len {l : List Tr} (h : ∀ c ∈ l,∀ (deep : Int) (n : Nat) (nm : Nm),n <= 200 -> n + (layT R c deep n nm).new.length <= 200) : ∀ (deep : Int) (n : Nat) (nm : Nm),n <= 200 -> n + (layK R l deep n nm).new.length <= 200 := by
 induction l with
 | nil => intro deep n nm hn; simpa [layK] using hn
 | cons t l ih =>
  intro deep n nm hn
  have h1 := h t (by simp) deep n nm hn
  rw [layK_cons]
  split
  ·exact h1
  ·have h2 := ih (fun c hc => h c (by simp [hc])) deep _ (layT R t deep n nm).nm h1
   simp only [List.length_append]
   omega
theorem layT_len (t : Tr) : ∀ (deep : Int) (n : Nat) (nm : Nm),n <= 200 -> n + (layT R t deep n nm).new.length <= 200 := by
 induction t using tr_ind with
 | h t ih =>
  intro deep n nm hn
  rw [layT_eq]
  split
  ·simpa using hn
  ·rename_i hc
   split
   ·simpa using hn
   ·rename_i hk
    have hn2 : n ≠ 200 := by
     intro e
     apply hc
     unfold chkT
     split
     ·omega
     ·split
      ·omega
      ·split
       ·omega
       ·split
        ·omega
        ·rw [if_pos ⟨hk,e⟩]; omega
    have := layK_len ih (deep + 1) (n + 1) (if t.name = ⟨#[]⟩ then nm else putS nm t.name n) (by omega)
    simp only [List.length_cons]
    omega
theorem chk_0 {t : Tr} {deep : Int} {n : Nat} {nm : Nm} (h : chkT R t deep n nm = 0) : deep <= 24 /\ shapeT R t = true /\ t.keys.Nodup /\ (t.k = 3 -> getS nm t.name ≠ none) /\ (t.k ≠ 3 -> n ≠ 200) := by
 unfold chkT at h
 split at h
 ·omega
 ·rename_i h1
  split at h
  ·omega
  ·rename_i h2
   split at h
   ·omega
   ·rename_i h3
    split at h
    ·omega
    ·rename_i h4
     split at h
     ·omega
     ·rename_i h5
      exact ⟨by omega,by simpa using h2,by simpa using h3,fun hk hn => h4 ⟨hk,hn⟩,fun hk hn => h5 ⟨hk,hn⟩⟩
mutual
def ownT : Tr -> Nat
 | .mk k _ _ _ kids => (if k = 3 then 0 else 1) + ownL kids
def ownL : List Tr -> Nat
 | [] => 0
 | t :: l => ownT t + ownL l
end
theorem ownT_eq (t : Tr) : ownT t = (if t.k = 3 then 0 else 1) + ownL t.kids := by cases t; rw [ownT]; rfl
theorem ref_kids {t : Tr} (h : shapeT R t = true) (hk : t.k = 3) : t.kids = [] /\ t.name ≠ ⟨#[]⟩ /\ t.keys = [] := by
 simp [shapeT,hk,refT] at h
 exact ⟨h.1.2.2.1,h.1.2.2.2,h.1.2.1⟩
theorem layK_own {l : List Tr} (h : ∀ c ∈ l,∀ (deep : Int) (n : Nat) (nm : Nm),(layT R c deep n nm).e = 0 -> (layT R c deep n nm).new.length = ownT c) : ∀ (deep : Int) (n : Nat) (nm : Nm),(layK R l deep n nm).e = 0 -> (layK R l deep n nm).new.length = ownL l := by
 induction l with
 | nil => intro deep n nm _; simp [layK,ownL]
 | cons t l ih =>
  intro deep n nm he
  rw [layK_cons] at he ⊢
  split at he
  ·rename_i h1; exact absurd he h1
  ·rename_i h1
   rw [if_neg h1]
   have h2 := h t (by simp) deep n nm (by simpa using h1)
   have h3 := ih (fun c hc => h c (by simp [hc])) deep _ _ he
   simp only [List.length_append,ownL]
   omega
theorem layT_own (t : Tr) : ∀ (deep : Int) (n : Nat) (nm : Nm),(layT R t deep n nm).e = 0 -> (layT R t deep n nm).new.length = ownT t := by
 induction t using tr_ind with
 | h t ih =>
  intro deep n nm he
  rw [layT_eq] at he ⊢
  rw [ownT_eq]
  split at he
  ·rename_i h1; exact absurd he h1
  ·rename_i h1
   rw [if_neg h1]
   split
   ·rename_i hk
    have := (ref_kids (chk_0 (by simpa using h1)).2.1 hk).1
    simp [this,ownL]
   ·rename_i hk
    rw [if_neg hk] at he
    have := layK_own ih (deep + 1) (n + 1) _ he
    simp only [List.length_cons,this]
    omega
mutual
def smT : Tr -> Prop
 | .mk _ _ _ keys kids => keys.length <= 12 /\ kids.length <= 12 /\ smL kids
def smL : List Tr -> Prop
 | [] => True
 | t :: l => smT t /\ smL l
end
theorem smL_iff : ∀ {l : List Tr},smL l ↔ ∀ c ∈ l,smT c
 | [] => by simp [smL]
 | t :: l => by simp only [smL,smL_iff (l := l),List.mem_cons,forall_eq_or_imp]
theorem smT_iff {t : Tr} : smT t ↔ t.keys.length <= 12 /\ t.kids.length <= 12 /\ ∀ c ∈ t.kids,smT c := by
 cases t with
 | mk k n x keys kids => rw [smT,smL_iff]; exact Iff.rfl
def NmOK (nm : Nm) (n : Nat) : Prop := ∀ p ∈ nm,0 <= p.2 /\ p.2 < n
theorem NmOK.mono {nm : Nm} {n m : Nat} (h : NmOK nm n) (hn : n <= m) : NmOK nm m := fun p hp => ⟨(h p hp).1,by have := (h p hp).2; omega⟩
theorem getS_mem : ∀ {nm : Nm} {a : ByteArray} {b : Int},getS nm a = some b -> ∃ p ∈ nm,p.2 = b
 | [],_,_,h => by cases h
 | q :: nm,a,b,h => by
  simp only [getS] at h
  split at h
  ·cases h; exact ⟨q,by simp,rfl⟩
  ·obtain ⟨p,hp,e⟩ := getS_mem h; exact ⟨p,by simp [hp],e⟩
theorem putS_ok : ∀ {nm : Nm} {a : ByteArray} {n : Nat},NmOK nm n -> NmOK (putS nm a n) (n + 1)
 | [],a,n,_ => by intro p hp; simp [putS] at hp; subst hp; simp; omega
 | q :: nm,a,n,h => by
  intro p hp
  simp only [putS] at hp
  split at hp
  ·rcases List.mem_cons.1 hp with rfl | hp
   ·simp; omega
   ·have := h p (by simp [hp]); exact ⟨this.1,by omega⟩
  ·rcases List.mem_cons.1 hp with rfl | hp
   ·have := h p (by simp); exact ⟨this.1,by omega⟩
   ·exact putS_ok (nm := nm) (fun q hq => h q (by simp [hq])) p hp
structure LOK (R : ByteArray -> Bool) (n : Nat) (r : Lr) : Prop where
 nm : NmOK r.nm (n + r.new.length)
 is : ∀ i ∈ r.is,0 <= i /\ i < ((n + r.new.length : Nat) : Int)
 node : ∀ x ∈ r.new,∀ N : Nat,n + r.new.length <= N -> nodeR R x N = true
 par : ∀ j,j < r.new.length -> ((n + j : Nat) : Int) ∈ r.is \/ ∃ p x,p < j /\ r.new[p]? = some x /\ ((n + j : Nat) : Int) ∈ x.kids
theorem layK_islen {R : ByteArray -> Bool} (deep : Int) : ∀ (l : List Tr) (n : Nat) (nm : Nm),(layK R l deep n nm).e = 0 -> (layK R l deep n nm).is.length = l.length
 | [],_,_,_ => by simp [layK]
 | t :: l,n,nm,he => by
  rw [layK_cons] at he ⊢
  split at he
  ·rename_i h1; exact absurd he h1
  ·rename_i h1
   rw [if_neg h1]
   obtain ⟨i,hi⟩ := layT_is R t deep n nm
   simp only [List.length_append,hi,layK_islen deep l _ _ he,List.length_cons,List.length_nil]
   omega
theorem layK_ok {l : List Tr} (h : ∀ c ∈ l,∀ (deep : Int) (n : Nat) (nm : Nm),NmOK nm n -> (layT R c deep n nm).e = 0 -> LOK R n (layT R c deep n nm)) : ∀ (deep : Int) (n : Nat) (nm : Nm),NmOK nm n -> (layK R l deep n nm).e = 0 -> LOK R n (layK R l deep n nm) := by
 induction l with
 | nil =>
  intro deep n nm hn _
  simp only [layK]
  exact ⟨hn,by simp,by simp,by simp⟩
 | cons t l ih =>
  intro deep n nm hn he
  rw [layK_cons] at he ⊢
  split at he
  ·rename_i h1; exact absurd he h1
  ·rename_i h1
   rw [if_neg h1]
   have ha := h t (by simp) deep n nm hn (by simpa using h1)
   have hb := ih (fun c hc => h c (by simp [hc])) deep _ _ ha.nm he
   refine ⟨?_,fun i hi => ?_,fun x hx N hN => ?_,fun j hj => ?_⟩
   ·have := hb.nm; simp only [List.length_append] at this ⊢; rwa [<- Nat.add_assoc]
   ·simp only [List.length_append]
    rcases List.mem_append.1 hi with hi | hi
    ·have := ha.is i hi; omega
    ·have := hb.is i hi; omega
   ·simp only [List.length_append] at hN
    rcases List.mem_append.1 hx with hx | hx
    ·exact ha.node x hx N (by omega)
    ·exact hb.node x hx N (by omega)
   ·simp only [List.length_append] at hj
    rcases Nat.lt_or_ge j (layT R t deep n nm).new.length with hlt | hge
    ·rcases ha.par j hlt with h2 | ⟨p,x,h2,h3,h4⟩
     ·exact .inl (List.mem_append.2 (.inl h2))
     ·exact .inr ⟨p,x,h2,by rw [List.getElem?_append_left (by omega)]; exact h3,h4⟩
    ·obtain ⟨q,rfl⟩ := Nat.exists_eq_add_of_le hge
     rcases hb.par q (by omega) with h2 | ⟨p,x,h2,h3,h4⟩
     ·exact .inl (List.mem_append.2 (.inr (by rw [<- Nat.add_assoc]; exact h2)))
     ·exact .inr ⟨(layT R t deep n nm).new.length + p,x,by omega,by rw [List.getElem?_append_right (by omega),Nat.add_sub_cancel_left]; exact h3,by rw [<- Nat.add_assoc]; exact h4⟩
theorem layT_ok (t : Tr) : ∀ (deep : Int) (n : Nat) (nm : Nm),NmOK nm n -> (layT R t deep n nm).e = 0 -> LOK R n (layT R t deep n nm) := by
 induction t using tr_ind with
 | h t ih =>
  intro deep n nm hn he
  rw [layT_eq] at he ⊢
  split at he
  ·rename_i h1; exact absurd he h1
  ·rename_i h1
   rw [if_neg h1]
   have hc := chk_0 (t := t) (R := R) (deep := deep) (n := n) (nm := nm) (by simpa using h1)
   split
   ·rename_i hk
    obtain ⟨b,hb⟩ : ∃ b,getS nm t.name = some b := by
     cases hg : getS nm t.name with
     | none => exact absurd hg (hc.2.2.2.1 hk)
     | some b => exact ⟨b,rfl⟩
    obtain ⟨p,hp,rfl⟩ := getS_mem hb
    refine ⟨hn,fun i hi => ?_,by simp,by simp⟩
    simp [hb] at hi
    subst hi
    simpa using hn p hp
   ·rename_i hk
    rw [if_neg hk] at he
    have hnm : NmOK (if t.name = ⟨#[]⟩ then nm else putS nm t.name n) (n + 1) := by
     split
     ·exact hn.mono (by omega)
     ·exact putS_ok hn
    have hb := layK_ok ih (deep + 1) (n + 1) _ hnm he
    have hl := layK_islen (R := R) (deep + 1) t.kids (n + 1) _ he
    rw [he]
    generalize layK R t.kids (deep + 1) (n + 1) (if t.name = ⟨#[]⟩ then nm else putS nm t.name n) = r at *
    simp only [ne_eq,not_true,if_false]
    refine ⟨?_,fun i hi => ?_,fun x hx N hN => ?_,fun j hj => ?_⟩
    ·have := hb.nm; simp only [List.length_cons]; rwa [show n + (r.new.length + 1) = n + 1 + r.new.length from by omega]
    ·simp only [List.mem_cons,List.not_mem_nil,or_false] at hi
     subst hi
     simp only [List.length_cons]; omega
    ·simp only [List.length_cons] at hN
     rcases List.mem_cons.1 hx with rfl | hx
     ·have hki : kidsIn r.is N = true := kidsIn_of fun i hi => by have := hb.is i hi; omega
      have hs := hc.2.1
      unfold shapeT at hs
      unfold nodeR
      rw [Bool.and_eq_true] at hs
      obtain ⟨hs,_⟩ := hs
      split at hs
      ·rename_i h0
       rw [if_pos h0]
       simp only [oneT,Bool.and_eq_true,decide_eq_true_eq] at hs
       have : r.is = [] := by
        have h2 := hs.2.2
        rw [h2] at hl
        exact List.length_eq_zero_iff.1 hl
       simp only [oneR,Bool.and_eq_true,decide_eq_true_eq]
       exact ⟨hs.1,hs.2.1,this⟩
      ·rename_i h0
       rw [if_neg h0]
       split at hs
       ·rename_i h1'
        rw [if_pos h1']
        simp only [seqT,Bool.and_eq_true,decide_eq_true_eq] at hs
        simp only [seqR,Bool.and_eq_true,decide_eq_true_eq]
        exact ⟨hs.1,hs.2,hki⟩
       ·rename_i h1'
        rw [if_neg h1']
        split at hs
        ·rename_i h2'
         rw [if_pos h2']
         simp only [mapT,Bool.and_eq_true,decide_eq_true_eq] at hs
         simp only [mapR,keysR,Bool.and_eq_true,decide_eq_true_eq]
         exact ⟨hs.1,by rw [hl]; exact hs.2.1,⟨hs.2.2,hc.2.2.1⟩,hki⟩
        ·first | (cases hs; done) | (exfalso; revert hs; simp [hk])
     ·exact hb.node x hx N (by omega)
    ·cases j with
     | zero => exact .inl (by simp)
     | succ j =>
      simp only [List.length_cons] at hj
      right
      rcases hb.par j (by omega) with h2 | ⟨p,x,h2,h3,h4⟩
      ·exact ⟨0,_,by omega,rfl,by simpa [Nat.add_assoc,Nat.add_comm 1 j] using h2⟩
      ·exact ⟨p + 1,x,by omega,by simpa using h3,by simpa [Nat.add_assoc,Nat.add_comm 1 j] using h4⟩
theorem layK_sm {l : List Tr} (h : ∀ c ∈ l,smT c -> ∀ (deep : Int) (n : Nat) (nm : Nm),∀ x ∈ (layT R c deep n nm).new,x.keys.length <= 12 /\ x.kids.length <= 12) (hl : ∀ c ∈ l,smT c) : ∀ (deep : Int) (n : Nat) (nm : Nm),(∀ x ∈ (layK R l deep n nm).new,x.keys.length <= 12 /\ x.kids.length <= 12) /\ (layK R l deep n nm).is.length <= l.length := by
 induction l with
 | nil => intro deep n nm; simp [layK]
 | cons t l ih =>
  intro deep n nm
  have h1 := h t (by simp) (hl t (by simp)) deep n nm
  obtain ⟨i,hi⟩ := layT_is R t deep n nm
  rw [layK_cons]
  split
  ·exact ⟨h1,by simp [hi]⟩
  ·obtain ⟨h2,h3⟩ := ih (fun c hc => h c (by simp [hc])) (fun c hc => hl c (by simp [hc])) deep (n + (layT R t deep n nm).new.length) (layT R t deep n nm).nm
   refine ⟨fun x hx => ?_,by simp [hi]; omega⟩
   rcases List.mem_append.1 hx with hx | hx
   ·exact h1 x hx
   ·exact h2 x hx
theorem layT_sm (t : Tr) : smT t -> ∀ (deep : Int) (n : Nat) (nm : Nm),∀ x ∈ (layT R t deep n nm).new,x.keys.length <= 12 /\ x.kids.length <= 12 := by
 induction t using tr_ind with
 | h t ih =>
  intro hs deep n nm
  obtain ⟨s1,s2,s3⟩ := smT_iff.1 hs
  rw [layT_eq]
  split
  ·simp
  ·split
   ·simp
   ·obtain ⟨h2,h3⟩ := layK_sm (R := R) (fun c hc hs => ih c hc hs) s3 (deep + 1) (n + 1) (if t.name = ⟨#[]⟩ then nm else putS nm t.name n)
    intro x hx
    rcases List.mem_cons.1 hx with rfl | hx
    ·exact ⟨s1,by simp only; omega⟩
    ·exact h2 x hx
end
end Go.Fw.L07
