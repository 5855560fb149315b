/- Chapter 18,part 4: a tree is laid. -/
import Derived.Test.YtiklocoaghcliaaGreatDoorMb
import Derived.Test.YtiklocoaghcliaaGreatDoorMa
set_option linter.all false
namespace Go.Fw.L07
open Go Go.Fw
open Go.Fw.Sh renaming intro -> Kg
open Go.Fw renaming G_reg -> Ka,G_regp -> Ka,VO_chk -> Kb,VO_go -> Kc,VO_gx -> Kd,G_cond -> Ke,VO_end -> Kf,G_fin -> Kh,G_ret -> Ki,G_weak -> Kj,G_drop -> Kk,G_again -> Kl,G_loop -> Km,Gx -> Kn,Gw -> Ko
open Int renaming natCast_nonneg -> Kq
open And renaming intro -> Kp
open Go.Proofs.Tryz renaming prog -> QP
open Nat renaming reduceAdd -> Qa,reduceSub -> Qb,reduceMul -> Qc,reduceLeDiff -> Qd,reduceLT -> Qe,reduceEqDiff -> Qf
open Int renaming reduceToNat -> Qg,reduceLT -> Qh,reduceLE -> Qi,reduceGT -> Qj,reduceGE -> Qk,reduceEq -> Ql,reduceNe -> Qm,reduceBEq -> Qn,reduceBNe -> Qo,reduceAdd -> Qp,reduceSub -> Qq,reduceNeg -> Qr
open Go.Fw.V.one renaming injEq -> Qs
open Go.Fw.V.agg renaming injEq -> Qt
open Go.Fw.V.tup renaming injEq -> Qu
open Go.Fw.A.d renaming injEq -> Qv
open Go.Fw.D.bool renaming injEq -> Qw
open Go.Fw.D.int renaming injEq -> Qx
open Go.Fw.D.str renaming injEq -> Qy
open Go.Fw.D.sl renaming injEq -> Qz
open List.cons renaming injEq -> Za
set_option maxRecDepth 4000
variable {gp : Heap}
/- left folded: \f32_r18 \f12_r11 \f29_r32 \f29_r22 \f11_r35 \f13_r13 \f61_r16 \f61_r8 \f61_r9 -/
theorem clone_scs (l : List Sc) (hl : l.length < 100000) : Does QP gp 30 [.one (.d (.sl (scs l)))] (.one (.d (.sl (scs l)))) := by
 refine f30_in ?_
 simp only [go_sem]
 cases l with
 | nil =>
  refine G_sl0 0 rfl fun q c => ?_
  cases q with
  | none =>
   simp only [go_sem]
   repeat' (first | refine Kn rfl ?_ | ((first | refine Ka ?_ | refine G_regp rfl rfl ?_ | refine Kb ?_ | refine Kc ?_ | refine Kd ?_ | refine Ke ?_); simp only [f30_r0,f30_r1,f30_r2,f30_r8,go_sem]) | refine Kf ?_ | refine Kg ?_ | refine Kp (fun _ => ?_) (fun _ => ?_) | ((first | refine Kh ?_ | refine Ki rfl ?_); simp only [f30_r0,f30_r1,f30_r2,f30_r8,or_self,Qs,Qt,Qu,Qv,Qw,Qx,Qy,Qz,Za,go_sem]))
  | some q =>
   simp only [go_sem]
   refine G_seq ?_
   repeat' (first | refine Kn rfl ?_ | ((first | refine Ka ?_ | refine G_regp rfl rfl ?_ | refine Kb ?_ | refine Kc ?_ | refine Kd ?_ | refine Ke ?_); simp only [f30_r0,f30_r1,go_sem]) | refine Kf ?_ | refine Kg ?_ | refine Kp (fun _ => ?_) (fun _ => ?_) | ((first | refine Kh ?_ | refine Ki rfl ?_); simp only [f30_r0,f30_r1,or_self,Qs,Qt,Qu,Qv,Qw,Qx,Qy,Qz,Za,go_sem]))
   refine G_unraw 0 rfl ?_
   simp only [go_sem]
   repeat' (first | refine Kn rfl ?_ | ((first | refine Ka ?_ | refine G_regp rfl rfl ?_ | refine Kb ?_ | refine Kc ?_ | refine Kd ?_ | refine Ke ?_); simp only [f30_r0,f30_r1,f30_r2,f30_r8,go_sem]) | refine Kf ?_ | refine Kg ?_ | refine Kp (fun _ => ?_) (fun _ => ?_) | ((first | refine Kh ?_ | refine Ki rfl ?_); simp only [f30_r0,f30_r1,f30_r2,f30_r8,or_self,Qs,Qt,Qu,Qv,Qw,Qx,Qy,Qz,Za,go_sem]))
   refine ⟨by simp,by simp [lenMax],?_⟩
   refine G_freeze 0 ?_
   simp only [go_sem]
   repeat' (first | refine Kn rfl ?_ | ((first | refine Ka ?_ | refine G_regp rfl rfl ?_ | refine Kb ?_ | refine Kc ?_ | refine Kd ?_ | refine Ke ?_); simp only [f30_r0,f30_r1,f30_r2,f30_r8,go_sem]) | refine Kf ?_ | refine Kg ?_ | refine Kp (fun _ => ?_) (fun _ => ?_) | ((first | refine Kh ?_ | refine Ki rfl ?_); simp only [f30_r0,f30_r1,f30_r2,f30_r8,or_self,Qs,Qt,Qu,Qv,Qw,Qx,Qy,Qz,Za,go_sem]))
 | cons x l =>
  simp only [go_sem]
  repeat' (first | refine Kn rfl ?_ | ((first | refine Ka ?_ | refine G_regp rfl rfl ?_ | refine Kb ?_ | refine Kc ?_ | refine Kd ?_ | refine Ke ?_); simp only [f30_r0,f30_r1,f30_r2,f30_r8,go_sem]) | refine Kf ?_ | refine Kg ?_ | refine Kp (fun _ => ?_) (fun _ => ?_) | ((first | refine Kh ?_ | refine Ki rfl ?_); simp only [f30_r0,f30_r1,f30_r2,f30_r8,or_self,Qs,Qt,Qu,Qv,Qw,Qx,Qy,Qz,Za,go_sem]))
  refine ⟨by simp,by simp at hl; omega,by simp [lenMax] at hl ⊢; omega,?_⟩
  refine G_freeze 0 ?_
  simp only [go_sem]
  repeat' (first | refine Kn rfl ?_ | ((first | refine Ka ?_ | refine G_regp rfl rfl ?_ | refine Kb ?_ | refine Kc ?_ | refine Kd ?_ | refine Ke ?_); simp only [f30_r0,f30_r1,f30_r2,f30_r8,go_sem]) | refine Kf ?_ | refine Kg ?_ | refine Kp (fun _ => ?_) (fun _ => ?_) | ((first | refine Kh ?_ | refine Ki rfl ?_); simp only [f30_r0,f30_r1,f30_r2,f30_r8,or_self,Qs,Qt,Qu,Qv,Qw,Qx,Qy,Qz,Za,go_sem]))
theorem G_cutK {S : Sx} {m : MI} {l K : List MI} {s : St} (hl : l = K) (h : ∀ K',K' = K -> G S (m :: K') s) : G S (m :: l) s := h l hl
def addKid (L : List Nd) (p : Nat) (i : Int) : List Nd := match L[p]? with
 | some x => L.set p ⟨x.k,x.x,x.keys,x.kids ++ [i]⟩
 | none => L
theorem nRowA_len (ts : Ts) (e : Nat) (ds : List D) (a : A) : (nRowA ts e ds a).length = ts.length := by simp
theorem nRowA_at {ts : Ts} {e : Nat} {ds : List D} {a : A} (h : e < ts.length) : (nRowA ts e ds a)[e]? = some (ds.map A.d ++ [a]) := by
 simp [h]
theorem nRowA_set {ts : Ts} {e : Nat} {ds : List D} {a b : A} : (nRowA ts e ds a).set e (ds.map A.d ++ [b]) = nRowA ts e ds b := by
 simp [nRowA,List.set_set]
theorem nOf_len {ts : Ts} {xs : List (List D × List (List D))} (h : nOf ts = xs) : ts.length = xs.length := by rw [<- h]; simp
theorem lay1_c {k : Tr} {deep root : Int} {ver p m : Nat} {L L' : List Nd} {nm nm' : Nm} {x : Nd} {i e : Int} (hd : inK .i64 (deep + 1)) (hx : L'[p]? = some x) (hk : x.kids.length <= 100)
  (IH : Tri QP gp 32 [.one (.ptr 0 0),k.v,vi (deep + 1)] [cmpC root ver,cmpL L ver,.map (mpS nm)] fun r post => r = .tup [vi i,errW e] /\ post = [cmpC root (ver + m),cmpL L' (ver + m),.map (mpS nm')]) :
  Tri QP gp 58 [k.v,.one (.ptr 3 0),.one (.ptr 4 0),.one (.ptr 5 0)] [cmpC root ver,cmpL L ver,.map (mpS nm),.cells [.ptr 0 0],.cells [.d (.int .i64 deep)],.cells [.d (.int .i64 p)]] fun r post =>
   r = errW e /\ post = [cmpC root (ver + m),cmpL (addKid L' p i) (ver + m),.map (mpS nm'),.cells [.ptr 0 0],.cells [.d (.int .i64 deep)],.cells [.d (.int .i64 p)]] := by
 refine f58_tri ?_
 simp only [go_sem]
 repeat' (first | refine Kn rfl ?_ | ((first | refine Ka ?_ | refine G_regp rfl rfl ?_ | refine Kb ?_ | refine Kc ?_ | refine Kd ?_ | refine Ke ?_); simp only [f58_r2,go_sem]) | refine Kf ?_ | refine Kg ?_ | refine ⟨hd,?_⟩ | (refine Kp (fun _ => ?_) (fun _ => ?_) <;> try (exfalso; omega)) | ((first | refine Kh ?_ | refine Ki rfl ?_); simp only [f58_r2,or_self,Qs,Qt,Qu,Qv,Qw,Qx,Qy,Qz,Za,go_sem]))
 refine Or.inr (Or.inr ⟨[0,1,2],.tup [vi i,errW e],[cmpC root (ver + m),cmpL L' (ver + m),.map (mpS nm')],(by simp only [CallR,rnVs,rnV,rnA,rnAs,rn0,rn0s,posN,rnCs,rnC,getC,List.isEmpty_nil,mpS_refs,reduceCtorEq,↓reduceIte,Qa,Qb,Qc,Qd,Qe,Qf,Qg,Qh,Qi,Qj,Qk,Ql,Qm,Qn,Qo,Qp,Qq,Qr]; simp only [go_sem]; exact ⟨f32_ok,IH⟩),Kg ?_⟩)
 simp only [bkO,bkC,mpS_refs]
 simp only [go_sem]
 repeat' (first | refine Kn rfl ?_ | ((first | refine Ka ?_ | refine G_regp rfl rfl ?_ | refine Kb ?_ | refine Kc ?_ | refine Kd ?_ | refine Ke ?_); simp only [go_sem]) | refine Kf ?_ | refine Kg ?_ | (refine Kp (fun _ => ?_) (fun _ => ?_) <;> try (exfalso; omega)) | ((first | refine Kh ?_ | refine Ki rfl ?_); simp only [or_self,Qs,Qt,Qu,Qv,Qw,Qx,Qy,Qz,Za,go_sem]))
 have hxK : (L'.map ndK)[p]? = some (ndK x) := map_at hx
 refine G_nout 1 p rfl hxK fun ts hts => ?_
 have hpl : p < ts.length := by rw [nOf_len hts,List.length_map]; exact (List.getElem?_eq_some_iff.1 hx).1
 have hA := fun a : A => nRowA_at (ts := ts) (ds := (ndK x).1) (a := a) hpl
 simp only [go_sem]
 repeat' (first | refine Kn rfl ?_ | ((first | refine Ka ?_ | refine G_regp rfl rfl ?_ | refine Kb ?_ | refine Kc ?_ | refine Kd ?_ | refine Ke ?_); simp only [f58_r2,go_sem]) | refine Kf ?_ | refine Kg ?_ | (refine Kp (fun _ => ?_) (fun _ => ?_) <;> try (exfalso; omega)) | ((first | refine Kh ?_ | refine Ki rfl ?_); simp only [f58_r2,or_self,Qs,Qt,Qu,Qv,Qw,Qx,Qy,Qz,Za,go_sem]))
 refine ⟨Kq _,by rw [nRowA_len]; exact hpl,_,⟨hA _,by simp⟩,Kg ?_⟩
 simp only [go_sem]
 repeat' (first | refine Kn rfl ?_ | ((first | refine Ka ?_ | refine G_regp rfl rfl ?_ | refine Kb ?_ | refine Kc ?_ | refine Kd ?_ | refine Ke ?_); simp only [f58_r2,go_sem]) | refine Kf ?_ | refine Kg ?_ | (refine Kp (fun _ => ?_) (fun _ => ?_) <;> try (exfalso; omega)) | ((first | refine Kh ?_ | refine Ki rfl ?_); simp only [f58_r2,or_self,Qs,Qt,Qu,Qv,Qw,Qx,Qy,Qz,Za,go_sem]))
 refine ⟨by simp,by omega,by unfold lenMax; omega,Kq _,by rw [nRowA_len]; exact hpl,_,⟨hA _,by simp⟩,Kg ?_⟩
 refine Kf ?_
 obtain ⟨v,hv⟩ : ∃ v,ts[p]? = some ((ndK x).1,v,ints x.kids) := by
  have := hxK
  rw [<- hts,List.getElem?_map] at this
  cases ht : ts[p]? with
  | none => rw [ht] at this; cases this
  | some t =>
   obtain ⟨a,b,c⟩ := t
   rw [ht] at this
   simp only [Option.map_some,Option.some.injEq,Prod.mk.injEq] at this
   exact ⟨b,by rw [this.1,this.2]⟩
 refine G_nback 1 8 9 p ts (ds := (ndK x).1) (ks := ints x.kids) (ks' := ints (x.kids ++ [i])) (v := v) (u := 1) (sz := 6) (kz := 1) (ver := ver + m) hv ?_ rfl ?_ ?_
 ·show Ch.rowA 6 (ver + m) ((nRowA ts p (ndK x).1 (.own 9 0)).set p _) = _
  rw [<- nRowA_set (a := A.own 9 0)]
  simp [nRowA]
 ·show Ch.row 1 1 (ints x.kids ++ [[D.int .i64 i]]) = _
  simp [ints]
 ·have hfin : (nOf ts).set p ((ndK x).1,ints (x.kids ++ [i])) = (addKid L' p i).map ndK := by
   rw [hts]
   unfold addKid
   rw [hx]
   simp only [List.map_set]
  rw [hfin]
  simp only [go_sem]
  refine Kj (fr 38 [(7,errW e)]) (by (simp only [go_sem]; repeat' (first | refine Kp ?_ ?_ | exact Or.inl rfl | exact Or.inr rfl | rfl))) ?_
  refine Kk 6 (by simp only [List.length_nil,List.length_cons]; decide) (by simp only [go_sem]) (by simp only [List.take_succ_cons,List.take_zero,List.all_cons,List.all_nil,mpS_refs]; simp only [go_sem]) ?_
  simp only [go_sem]
  repeat' (first | refine Kn rfl ?_ | ((first | refine Ka ?_ | refine G_regp rfl rfl ?_ | refine Kb ?_ | refine Kc ?_ | refine Kd ?_ | refine Ke ?_); simp only [f58_r2,go_sem]) | refine Kf ?_ | refine Kg ?_ | (refine Kp (fun _ => ?_) (fun _ => ?_) <;> try (exfalso; omega)) | ((first | refine Kh ?_ | refine Ki rfl ?_); simp only [f58_r2,or_self,Qs,Qt,Qu,Qv,Qw,Qx,Qy,Qz,Za,go_sem]))
abbrev LayC (R : ByteArray -> Bool) (gp : Heap) (t : Tr) (deep root : Int) (ver : Nat) (L : List Nd) (nm : Nm) : Prop :=
 Tri QP gp 32 [.one (.ptr 0 0),t.v,vi deep] [cmpC root ver,cmpL L ver,.map (mpS nm)] fun r post =>
  r = .tup [vi ((layT R t deep L.length nm).is.headD 0),errW (layT R t deep L.length nm).e] /\
   post = [cmpC root (ver + (layT R t deep L.length nm).new.length),cmpL (L ++ (layT R t deep L.length nm).new) (ver + (layT R t deep L.length nm).new.length),.map (mpS (layT R t deep L.length nm).nm)]
theorem lay_err (R : ByteArray -> Bool) (hR : ∀ s,Does QP gp 40 [vs s] (vb (R s))) (t : Tr) (deep root : Int) (ver : Nat) (L : List Nd) (nm : Nm) (he : chkT R t deep L.length nm ≠ 0) : LayC R gp t deep root ver L nm := by
 have c1 := check18 R hR t deep root ver L nm
 unfold LayC
 rw [layT_eq,if_pos he]
 generalize chkT R t deep L.length nm = e at *
 refine f32_tri ?_
 simp only [go_sem]
 repeat' (first | refine Kn rfl ?_ | ((first | refine Ka ?_ | refine G_regp rfl rfl ?_ | refine Kb ?_ | refine Kc ?_ | refine Kd ?_ | refine Ke ?_); simp only [go_sem]) | refine Kf ?_ | refine Kg ?_ | (refine Kp (fun _ => ?_) (fun _ => ?_) <;> try (exfalso; omega)) | ((first | refine Kh ?_ | refine Ki rfl ?_); simp only [or_self,Qs,Qt,Qu,Qv,Qw,Qx,Qy,Qz,Za,go_sem]))
 refine Or.inr (Or.inr ⟨[0,1,2],errW e,[cmpC root ver,cmpL L ver,.map (mpS nm)],(by simp only [CallR,rnVs,rnV,rnA,rnAs,rn0,rn0s,posN,rnCs,rnC,getC,List.isEmpty_nil,mpS_refs,reduceCtorEq,↓reduceIte,Qa,Qb,Qc,Qd,Qe,Qf,Qg,Qh,Qi,Qj,Qk,Ql,Qm,Qn,Qo,Qp,Qq,Qr]; simp only [go_sem]; exact ⟨f57_ok,c1⟩),Kg ?_⟩)
 simp only [bkO,bkC,mpS_refs,if_neg he]
 simp only [go_sem]
 repeat' (first | refine Kn rfl ?_ | ((first | refine Ka ?_ | refine G_regp rfl rfl ?_ | refine Kb ?_ | refine Kc ?_ | refine Kd ?_ | refine Ke ?_); simp only [go_sem]) | refine Kf ?_ | refine Kg ?_ | (refine Kp (fun _ => ?_) (fun _ => ?_) <;> try (exfalso; omega)))
 refine Kj (fr 90 [(6,vi 0),(7,.one (.d (.ifc 106 true [.int .i64 e])))]) (by (simp only [go_sem]; repeat' (first | refine Kp ?_ ?_ | exact Or.inl rfl | exact Or.inr rfl | rfl))) ?_
 refine Kk 3 (by simp only [List.length_nil,List.length_cons]; decide) (by simp only [go_sem]) (by simp only [List.take_succ_cons,List.take_zero,List.all_cons,List.all_nil,mpS_refs]; simp only [go_sem]) ?_
 simp only [go_sem]
 repeat' (first | refine Kn rfl ?_ | ((first | refine Ka ?_ | refine G_regp rfl rfl ?_ | refine Kb ?_ | refine Kc ?_ | refine Kd ?_ | refine Ke ?_); simp only [f32_r18,go_sem]) | refine Kf ?_ | refine Kg ?_ | (refine Kp (fun _ => ?_) (fun _ => ?_) <;> try (exfalso; omega)) | ((first | refine Kh ?_ | refine Ki rfl ?_); simp only [f32_r18,or_self,Qs,Qt,Qu,Qv,Qw,Qx,Qy,Qz,Za,go_sem]))
 exact ⟨rfl,by rw [if_neg he]⟩
theorem lay_ref (R : ByteArray -> Bool) (hR : ∀ s,Does QP gp 40 [vs s] (vb (R s))) (t : Tr) (deep root : Int) (ver : Nat) (L : List Nd) (nm : Nm) (he : chkT R t deep L.length nm = 0) (hk : t.k = 3) : LayC R gp t deep root ver L nm := by
 have c1 := check18 R hR t deep root ver L nm
 have hf := mpS_find nm t.name
 unfold LayC
 obtain ⟨b,hb⟩ : ∃ b,getS nm t.name = some b := by
  cases hg : getS nm t.name with
  | none =>
   exfalso
   unfold chkT at he
   split at he
   ·omega
   ·split at he
    ·omega
    ·split at he
     ·omega
     ·rw [if_pos ⟨hk,hg⟩] at he; omega
  | some b => exact ⟨b,rfl⟩
 rw [hb,Option.map_some] at hf
 have h3 : (t.k == 3) = true := by simp [hk]
 rw [layT_eq,if_neg (by simp [he]),if_pos hk,hb]
 rw [he] at c1
 refine f32_tri ?_
 simp only [go_sem]
 repeat' (first | refine Kn rfl ?_ | ((first | refine Ka ?_ | refine G_regp rfl rfl ?_ | refine Kb ?_ | refine Kc ?_ | refine Kd ?_ | refine Ke ?_); simp only [go_sem]) | refine Kf ?_ | refine Kg ?_ | (refine Kp (fun _ => ?_) (fun _ => ?_) <;> try (exfalso; omega)) | ((first | refine Kh ?_ | refine Ki rfl ?_); simp only [or_self,Qs,Qt,Qu,Qv,Qw,Qx,Qy,Qz,Za,go_sem]))
 refine Or.inr (Or.inr ⟨[0,1,2],errW 0,[cmpC root ver,cmpL L ver,.map (mpS nm)],(by simp only [CallR,rnVs,rnV,rnA,rnAs,rn0,rn0s,posN,rnCs,rnC,getC,List.isEmpty_nil,mpS_refs,reduceCtorEq,↓reduceIte,Qa,Qb,Qc,Qd,Qe,Qf,Qg,Qh,Qi,Qj,Qk,Ql,Qm,Qn,Qo,Qp,Qq,Qr]; simp only [go_sem]; exact ⟨f57_ok,c1⟩),Kg ?_⟩)
 simp only [bkO,bkC,mpS_refs]
 simp only [go_sem]
 repeat' (first | refine Kn rfl ?_ | ((first | refine Ka ?_ | refine G_regp rfl rfl ?_ | refine Kb ?_ | refine Kc ?_ | refine Kd ?_ | refine Ke ?_); simp only [h3,go_sem]) | refine Kf ?_ | refine Kg ?_ | refine ⟨_,⟨hf,rfl⟩,Kg ?_⟩ | (refine Kp (fun _ => ?_) (fun _ => ?_) <;> try (exfalso; omega)))
 refine Kj (fr 90 [(6,vi b),(7,.one (.d .nilI))]) (by (simp only [go_sem]; repeat' (first | refine Kp ?_ ?_ | exact Or.inl rfl | exact Or.inr rfl | rfl))) ?_
 refine Kk 3 (by simp only [List.length_nil,List.length_cons]; decide) (by simp only [go_sem]) (by simp only [List.take_succ_cons,List.take_zero,List.all_cons,List.all_nil,mpS_refs]; simp only [go_sem]) ?_
 simp only [go_sem]
 repeat' (first | refine Kn rfl ?_ | ((first | refine Ka ?_ | refine G_regp rfl rfl ?_ | refine Kb ?_ | refine Kc ?_ | refine Kd ?_ | refine Ke ?_); simp only [f32_r18,go_sem]) | refine Kf ?_ | refine Kg ?_ | (refine Kp (fun _ => ?_) (fun _ => ?_) <;> try (exfalso; omega)) | ((first | refine Kh ?_ | refine Ki rfl ?_); simp only [f32_r18,or_self,Qs,Qt,Qu,Qv,Qw,Qx,Qy,Qz,Za,go_sem]))
 exact rfl
abbrev nd0 (t : Tr) (is : List Int) : Nd := ⟨t.k,t.x,t.keys,is⟩
theorem lay_c (R : ByteArray -> Bool) (hR : ∀ s,Does QP gp 40 [vs s] (vb (R s))) : ∀ (N : Nat) (t : Tr),SizeOf.sizeOf t <= N -> smT t -> ∀ (deep root : Int) (ver : Nat) (L : List Nd) (nm : Nm),0 <= deep -> L.length <= 200 -> LayC R gp t deep root ver L nm := by
 intro N
 induction N with
 | zero => intro t ht; cases t; simp at ht
 | succ N ih =>
 intro t ht hs deep root ver L nm hd0 hL
 by_cases he : chkT R t deep L.length nm = 0
 case neg => exact lay_err R hR t deep root ver L nm he
 by_cases hk : t.k = 3
 ·exact lay_ref R hR t deep root ver L nm he hk
 have c1 := check18 R hR t deep root ver L nm
 rw [he] at c1
 have h3 : (t.k == 3) = false := by simp [hk]
 obtain ⟨g1,g2,g3,g4,g5⟩ := chk_0 he
 obtain ⟨s1,s2,s3⟩ := smT_iff.1 hs
 have hn : L.length < 200 := by have := g5 hk; omega
 have c2 := clone_scs (gp := gp) t.keys (by omega)
 have hsz : ∀ c ∈ t.kids,SizeOf.sizeOf c <= N := fun c hc => by
  cases t with
  | mk k n x keys kids =>
   have := List.sizeOf_lt_of_mem (show c ∈ kids from hc)
   simp at ht; omega
 unfold LayC
 rw [layT_eq,if_neg (by simp [he]),if_neg hk]
 refine f32_tri ?_
 simp only [go_sem]
 repeat' (first | refine Kn rfl ?_ | ((first | refine Ka ?_ | refine G_regp rfl rfl ?_ | refine Kb ?_ | refine Kc ?_ | refine Kd ?_ | refine Ke ?_); simp only [go_sem]) | refine Kf ?_ | refine Kg ?_ | (refine Kp (fun _ => ?_) (fun _ => ?_) <;> try (exfalso; omega)) | ((first | refine Kh ?_ | refine Ki rfl ?_); simp only [or_self,Qs,Qt,Qu,Qv,Qw,Qx,Qy,Qz,Za,go_sem]))
 refine Or.inr (Or.inr ⟨[0,1,2],errW 0,[cmpC root ver,cmpL L ver,.map (mpS nm)],(by simp only [CallR,rnVs,rnV,rnA,rnAs,rn0,rn0s,posN,rnCs,rnC,getC,List.isEmpty_nil,mpS_refs,reduceCtorEq,↓reduceIte,Qa,Qb,Qc,Qd,Qe,Qf,Qg,Qh,Qi,Qj,Qk,Ql,Qm,Qn,Qo,Qp,Qq,Qr]; simp only [go_sem]; exact ⟨f57_ok,c1⟩),Kg ?_⟩)
 simp only [bkO,bkC,mpS_refs]
 simp only [go_sem]
 repeat' (first | refine Kn rfl ?_ | ((first | refine Ka ?_ | refine G_regp rfl rfl ?_ | refine Kb ?_ | refine Kc ?_ | refine Kd ?_ | refine Ke ?_); simp only [h3,List.length_map,go_sem]) | refine Kf ?_ | refine Kg ?_ | (refine Kp (fun _ => ?_) (fun _ => ?_) <;> try (exfalso; omega)))
 refine G_nopen 1 rfl fun ts hts => ?_
 have hl := nOf_len hts
 rw [List.length_map] at hl
 have hb1 : (ts.length + 1) * 88 <= 140737488355328 := by omega
 have hb2 : ts.length + 1 < lenMax := by unfold lenMax; omega
 simp only [go_sem]
 refine G_cutK rfl fun K hK => ?_
 repeat' (first | refine Kn rfl ?_ | ((first | refine Ka ?_ | refine G_regp rfl rfl ?_ | refine Kb ?_ | refine Kc ?_ | refine Kd ?_ | refine Ke ?_); simp only [f32_r18,List.length_map,go_sem]) | refine Kf ?_ | refine Kg ?_ | refine ⟨_,c2,Kg ?_⟩ | refine ⟨_,⟨c2,rfl⟩,Kg ?_⟩ | refine ⟨by simp,hb1,hb2,?_⟩ | (refine Kp (fun _ => ?_) (fun _ => ?_) <;> try (exfalso; omega)))
 subst hK
 refine G_pinN 7 rfl (by decide) ?_
 refine G_nshut 1 7 (sz := 6) (kz := 1) (ver := ver + 1) (ts ++ [((ndK (nd0 t [])).1,.slice none 0 0,[])]) ?_ ?_ ?_
 ·show Ch.row 6 (ver + 1) (nRow ts ++ [_]) = _
  simp [nRow]
 ·show Ch.pool 1 (nPool ts ++ [_]) = _
  simp [nPool]
 have hnest : nOf (ts ++ [((ndK (nd0 t [])).1,Value.slice none 0 0,([] : List (List D)))]) = (L ++ [nd0 t []]).map ndK := by
  simp only [nOf,List.map_append] at hts ⊢
  rw [hts]; rfl
 rw [hnest]
 generalize hnm : (if t.name = ⟨#[]⟩ then nm else putS nm t.name L.length) = nm1
 simp only [go_sem]
 refine G_seq ?_
 refine G_cutK rfl fun K hK => ?_
 by_cases hn0 : t.name = ⟨#[]⟩
 case' pos =>
  rw [if_pos hn0] at hnm
  have hq : decide (t.name = ⟨#[]⟩) = true := by simp [hn0]
  repeat' (first | refine Kn rfl ?_ | ((first | refine Ka ?_ | refine G_regp rfl rfl ?_ | refine Kb ?_ | refine Kc ?_ | refine Kd ?_ | refine Ke ?_); simp only [f32_r18,hq,go_sem]) | refine Kf ?_ | refine Kg ?_ | (refine Kp (fun _ => ?_) (fun _ => ?_) <;> try (exfalso; omega)))
  rw [hnm]
  refine Kj (fr 90 [(3,.one (.ptr 3 0)),(4,.one (.d (.bx t.dd))),(5,.one (.ptr 4 0)),(6,vi 0),(7,.one (.d .nilI)),(9,.one (.ptr 6 0))]) (by (simp only [go_sem]; repeat' (first | refine Kp ?_ ?_ | exact Or.inl rfl | exact Or.inr rfl | rfl))) ?_
 case' neg =>
  rw [if_neg hn0] at hnm
  have hq : decide (t.name = ⟨#[]⟩) = false := by simp [hn0]
  repeat' (first | refine Kn rfl ?_ | ((first | refine Ka ?_ | refine G_regp rfl rfl ?_ | refine Kb ?_ | refine Kc ?_ | refine Kd ?_ | refine Ke ?_); simp only [f32_r18,hq,go_sem]) | refine Kf ?_ | refine Kg ?_ | refine ⟨_,mpS_put _ _ _,Kg ?_⟩ | (refine Kp (fun _ => ?_) (fun _ => ?_) <;> try (exfalso; omega)))
  rw [hnm]
  refine Kj (fr 90 [(3,.one (.ptr 3 0)),(4,.one (.d (.bx t.dd))),(5,.one (.ptr 4 0)),(6,vi 0),(7,.one (.d .nilI)),(9,.one (.ptr 6 0))]) (by (simp only [go_sem]; repeat' (first | refine Kp ?_ ?_ | exact Or.inl rfl | exact Or.inr rfl | rfl))) ?_
 all_goals
  clear hnm
  subst hK
  simp only [go_sem]
  repeat' (first | refine Kn rfl ?_ | ((first | refine Ka ?_ | refine G_regp rfl rfl ?_ | refine Kb ?_ | refine Kc ?_ | refine Kd ?_ | refine Ke ?_); simp only [f32_r18,go_sem]) | refine Kf ?_ | refine Kg ?_ | (refine Kp (fun _ => ?_) (fun _ => ?_) <;> try (exfalso; omega)))
  refine Kj (fr 90 [(6,vi 0),(7,.one (.d .nilI)),(9,.one (.ptr 6 0)),(10,.one (.clo (.func 58) [.ptr 3 0,.ptr 4 0,.ptr 6 0])),(76,.one (.d (.sl (trs t.kids)))),(77,vi t.kids.length),(78,vi (0 : Nat))]) (by (simp only [go_sem]; repeat' (first | refine Kp ?_ ?_ | exact Or.inl rfl | exact Or.inr rfl | rfl))) ?_
  refine Km (fun mz sz => ∃ i : Nat,i <= t.kids.length /\ mz = t.kids.length - i /\ ((layK R (t.kids.take i) (deep + 1) (L.length + 1) nm1).e = 0) /\ sz = ⟨fr 90 [(6,vi 0),(7,.one (.d .nilI)),(9,.one (.ptr 6 0)),(10,.one (.clo (.func 58) [.ptr 3 0,.ptr 4 0,.ptr 6 0])),(76,.one (.d (.sl (trs t.kids)))),(77,vi t.kids.length),(78,vi i)],[cmpC root (ver + 1 + (layK R (t.kids.take i) (deep + 1) (L.length + 1) nm1).new.length),cmpL (L ++ nd0 t (layK R (t.kids.take i) (deep + 1) (L.length + 1) nm1).is :: (layK R (t.kids.take i) (deep + 1) (L.length + 1) nm1).new) (ver + 1 + (layK R (t.kids.take i) (deep + 1) (L.length + 1) nm1).new.length),.map (mpS (layK R (t.kids.take i) (deep + 1) (L.length + 1) nm1).nm),.cells [.ptr 0 0],.cells [.d (.int .i64 deep)],.dead,.cells [.d (.int .i64 L.length)],.dead]⟩) (t.kids.length) ⟨0,Nat.zero_le _,(Nat.sub_zero _).symm,?_,rfl⟩ ?_
  ·simp [layK]
  rintro _ _ ⟨i,hi,rfl,hz,rfl⟩
  simp only [go_sem]
  by_cases hil : i < t.kids.length
  ·obtain ⟨c,hc⟩ := at_lt hil
   have hcm := List.mem_of_getElem? hc
   have hsn := layK_snoc R c (deep + 1) (t.kids.take i) (L.length + 1) nm1 hz
   have h200 := layK_len (R := R) (l := t.kids.take i) (fun c _ => layT_len c) (deep + 1) (L.length + 1) nm1 (by omega)
   have hisl := layK_islen (R := R) (deep + 1) (t.kids.take i) (L.length + 1) nm1 hz
   rw [take_snoc hc] at hsn
   generalize hr : layK R (t.kids.take i) (deep + 1) (L.length + 1) nm1 = r at *
   have hlen : (L ++ nd0 t r.is :: r.new).length = L.length + 1 + r.new.length := by simp; omega
   have hlay := ih c (hsz c hcm) (s3 c hcm) (deep + 1) root (ver + 1 + r.new.length) (L ++ nd0 t r.is :: r.new) r.nm (by omega) (by omega)
   unfold LayC at hlay
   rw [hlen] at hlay
   obtain ⟨b,hb⟩ := layT_is R c (deep + 1) (L.length + 1 + r.new.length) r.nm
   generalize ha : layT R c (deep + 1) (L.length + 1 + r.new.length) r.nm = a at *
   have hkid : addKid ((L ++ nd0 t r.is :: r.new) ++ a.new) L.length (a.is.headD 0) = L ++ nd0 t (r.is ++ a.is) :: (r.new ++ a.new) := by
    unfold addKid
    have e1 : ((L ++ nd0 t r.is :: r.new) ++ a.new)[L.length]? = some (nd0 t r.is) := by simp
    rw [e1,hb]
    simp
   have h1 := lay1_c (p := L.length) (x := nd0 t r.is) (by simp [inK,IntKind.min,IntKind.max,IntKind.signed,IntKind.bits]; omega) (by simp) (by simp only [nd0,hisl,List.length_take]; omega) hlay
   rw [hkid] at h1
   have hct := trs_at hc
   repeat' (first | refine Kn rfl ?_ | ((first | refine Ka ?_ | refine G_regp rfl rfl ?_ | refine Kb ?_ | refine Kc ?_ | refine Kd ?_ | refine Ke ?_); simp only [f32_r18,go_sem]) | refine Kf ?_ | refine Kg ?_ | refine ⟨_,⟨Kq _,hct,rfl⟩,Kg ?_⟩ | (refine Kp (fun _ => ?_) (fun _ => ?_) <;> try (exfalso; omega)))
   refine Or.inr (Or.inr ⟨[0,1,2,3,4,6],errW a.e,[cmpC root (ver + 1 + r.new.length + a.new.length),cmpL (L ++ nd0 t (r.is ++ a.is) :: (r.new ++ a.new)) (ver + 1 + r.new.length + a.new.length),.map (mpS a.nm),.cells [.ptr 0 0],.cells [.d (.int .i64 deep)],.cells [.d (.int .i64 L.length)]],(by simp only [CallR,rnVs,rnV,rnA,rnAs,rn0,rn0s,posN,rnCs,rnC,getC,List.isEmpty_nil,mpS_refs,reduceCtorEq,↓reduceIte,Qa,Qb,Qc,Qd,Qe,Qf,Qg,Qh,Qi,Qj,Qk,Ql,Qm,Qn,Qo,Qp,Qq,Qr]; simp only [go_sem]; exact ⟨f58_ok,h1⟩),Kg ?_⟩)
   simp only [bkO,bkC,mpS_refs]
   simp only [go_sem]
   have hik : inK .i64 ((i : Int) + 1) := by simp [inK,IntKind.min,IntKind.max,IntKind.signed,IntKind.bits]; omega
   by_cases hae : a.e = 0
   ·repeat' (first | refine Kn rfl ?_ | ((first | refine Ka ?_ | refine G_regp rfl rfl ?_ | refine Kb ?_ | refine Kc ?_ | refine Kd ?_ | refine Ke ?_); simp only [f32_r18,hae,go_sem]) | refine Kf ?_ | refine Kg ?_ | refine ⟨hik,?_⟩ | (refine Kp (fun _ => ?_) (fun _ => ?_) <;> try (exfalso; omega)))
    refine Kj (fr 90 [(6,vi 0),(7,.one (.d .nilI)),(9,.one (.ptr 6 0)),(10,.one (.clo (.func 58) [.ptr 3 0,.ptr 4 0,.ptr 6 0])),(76,.one (.d (.sl (trs t.kids)))),(77,vi t.kids.length),(78,vi (i + 1))]) (by (simp only [go_sem]; repeat' (first | refine Kp ?_ ?_ | exact Or.inl rfl | exact Or.inr rfl | rfl))) ?_
    refine Kk 8 (by simp only [List.length_nil,List.length_cons]; decide) (by simp only [go_sem]) (by simp only [List.take_succ_cons,List.take_zero,List.all_cons,List.all_nil,mpS_refs]; try simp only [go_sem]) ?_
    simp only [go_sem]
    refine Kl ⟨t.kids.length - (i + 1),by omega,i + 1,by omega,rfl,?_,(by rw [hsn]; simp [Nat.add_assoc])⟩
    rw [hsn]; exact hae
   ·have hst : layK R t.kids (deep + 1) (L.length + 1) nm1 = ⟨r.is ++ a.is,a.e,r.new ++ a.new,a.nm⟩ := by
     have := layK_stop R (deep + 1) (t.kids.take (i + 1)) (t.kids.drop (i + 1)) (L.length + 1) nm1 (by rw [hsn]; exact hae)
     rw [List.take_append_drop] at this
     rw [this,hsn]
    rw [hst]
    repeat' (first | refine Kn rfl ?_ | ((first | refine Ka ?_ | refine G_regp rfl rfl ?_ | refine Kb ?_ | refine Kc ?_ | refine Kd ?_ | refine Ke ?_); simp only [f32_r18,if_neg hae,go_sem]) | refine Kf ?_ | refine Kg ?_ | (refine Kp (fun _ => ?_) (fun _ => ?_) <;> try (exfalso; omega)))
    refine Kj (fr 90 [(6,vi 0),(7,.one (.d (.ifc 106 true [.int .i64 a.e])))]) (by (simp only [go_sem]; repeat' (first | refine Kp ?_ ?_ | exact Or.inl rfl | exact Or.inr rfl | rfl))) ?_
    refine Kk 3 (by simp only [List.length_nil,List.length_cons]; decide) (by simp only [go_sem]) (by simp only [List.take_succ_cons,List.take_zero,List.all_cons,List.all_nil,mpS_refs]; simp only [go_sem]) ?_
    simp only [go_sem]
    repeat' (first | refine Kn rfl ?_ | ((first | refine Ka ?_ | refine G_regp rfl rfl ?_ | refine Kb ?_ | refine Kc ?_ | refine Kd ?_ | refine Ke ?_); simp only [f32_r18,go_sem]) | refine Kf ?_ | refine Kg ?_ | (refine Kp (fun _ => ?_) (fun _ => ?_) <;> try (exfalso; omega)) | ((first | refine Kh ?_ | refine Ki rfl ?_); simp only [f32_r18,or_self,Qs,Qt,Qu,Qv,Qw,Qx,Qy,Qz,Za,go_sem]))
    have ev : ver + ((r.new ++ a.new).length + 1) = ver + 1 + r.new.length + a.new.length := by simp; omega
    exact ⟨⟨by simp [hae],by rw [if_neg hae]⟩,by rw [ev],by rw [ev]⟩
  ·obtain rfl : t.kids.length = i := by omega
   rw [List.take_length] at hz ⊢
   repeat' (first | refine Kn rfl ?_ | ((first | refine Ka ?_ | refine G_regp rfl rfl ?_ | refine Kb ?_ | refine Kc ?_ | refine Kd ?_ | refine Ke ?_); simp only [f32_r18,go_sem]) | refine Kf ?_ | refine Kg ?_ | (refine Kp (fun _ => ?_) (fun _ => ?_) <;> try (exfalso; omega)))
   refine Kj (fr 90 [(6,vi L.length),(7,.one (.d .nilI))]) (by (simp only [go_sem]; repeat' (first | refine Kp ?_ ?_ | exact Or.inl rfl | exact Or.inr rfl | rfl))) ?_
   refine Kk 3 (by simp only [List.length_nil,List.length_cons]; decide) (by simp only [go_sem]) (by simp only [List.take_succ_cons,List.take_zero,List.all_cons,List.all_nil,mpS_refs]; simp only [go_sem]) ?_
   simp only [go_sem]
   repeat' (first | refine Kn rfl ?_ | ((first | refine Ka ?_ | refine G_regp rfl rfl ?_ | refine Kb ?_ | refine Kc ?_ | refine Kd ?_ | refine Ke ?_); simp only [f32_r18,go_sem]) | refine Kf ?_ | refine Kg ?_ | (refine Kp (fun _ => ?_) (fun _ => ?_) <;> try (exfalso; omega)) | ((first | refine Kh ?_ | refine Ki rfl ?_); simp only [f32_r18,or_self,Qs,Qt,Qu,Qv,Qw,Qx,Qy,Qz,Za,go_sem]))
   have ev : ver + ((layK R t.kids (deep + 1) (L.length + 1) nm1).new.length + 1) = ver + 1 + (layK R t.kids (deep + 1) (L.length + 1) nm1).new.length := by omega
   exact ⟨⟨by simp [hz],by rw [if_pos hz]⟩,by rw [ev],by rw [ev]⟩
theorem G_gen3 {S : Sx} {k : List MI} {fr : List V} {a b c : Ch} {l : List Ch} (h : ∀ a' b' c' : Ch,a' = a -> b' = b -> c' = c -> G S k ⟨fr,a' :: b' :: c' :: l⟩) : G S k ⟨fr,a :: b :: c :: l⟩ := h a b c rfl rfl rfl
abbrev zTr : List D := [D.int .i64 0,D.str ⟨#[]⟩,D.int .i64 0,D.int .i64 0,D.str ⟨#[]⟩,D.sl [],D.sl []]
mutual
def flatT : Tr -> List Tr
 | .mk k n x keys kids => .mk k n x keys kids :: flatL kids
def flatL : List Tr -> List Tr
 | [] => []
 | t :: l => flatT t ++ flatL l
end
theorem flatL_eq : ∀ l : List Tr,flatL l = l.flatMap flatT
 | [] => rfl
 | t :: l => by rw [flatL,flatL_eq l]; rfl
theorem flatT_eq (t : Tr) : flatT t = t :: t.kids.flatMap flatT := by
 cases t with
 | mk k n x keys kids => rw [flatT,flatL_eq]; rfl
def namedB (t : Tr) : Bool := (t.k != 3) && !decide (t.name = ⟨#[]⟩)
def namesOf (l : List Tr) : List ByteArray := (l.filter namedB).map Tr.name
def namesT (t : Tr) : List ByteArray := namesOf (flatT t)
abbrev strs (l : List ByteArray) : List (List D) := l.map fun s => [.str s]
theorem namesOf_snoc (l : List Tr) (x : Tr) : namesOf (l ++ [x]) = namesOf l ++ if namedB x then [x.name] else [] := by
 unfold namesOf
 rw [List.filter_append,List.map_append]
 cases h : namedB x <;> simp [List.filter,h]
theorem namesOf_len (l : List Tr) : (namesOf l).length <= l.length := by
 unfold namesOf; rw [List.length_map]; exact List.length_filter_le _ _
theorem flat_len18 (l : List Tr) : l.length <= (l.flatMap flatT).length := by
 induction l with
 | nil => simp
 | cons t l ih => rw [List.flatMap_cons,flatT_eq]; simp only [List.length_cons,List.cons_append,List.length_append]; omega
theorem flat_rev18 (l : List Tr) : (l.reverse.flatMap flatT).length = (l.flatMap flatT).length := by
 induction l with
 | nil => rfl
 | cons t l ih => simp only [List.reverse_cons,List.flatMap_append,List.flatMap_cons,List.flatMap_nil,List.append_nil,List.length_append,ih]; omega
theorem trees_c (t : Tr) : Does QP gp 34 [t.v] (.one (.d (.fn (.func 61) [.bx t.dd]))) := by
 refine f34_in ?_
 simp only [go_sem]
 repeat' (first | refine Kn rfl ?_ | ((first | refine Ka ?_ | refine G_regp rfl rfl ?_ | refine Kb ?_ | refine Kc ?_ | refine Kd ?_ | refine Ke ?_); simp only [go_sem]) | refine Kf ?_ | refine Kg ?_ | refine Kp (fun _ => ?_) (fun _ => ?_) | ((first | refine Kh ?_ | refine Ki rfl ?_); simp only [or_self,Qs,Qt,Qu,Qv,Qw,Qx,Qy,Qz,Za,go_sem]))
theorem backward_c (l : List Tr) : Does QP gp 62 [.one (.d (.sl (trs l)))] (.one (.d (.fn (.func 87) [.bx [.sl (trs l)]]))) := by
 refine f62_in ?_
 simp only [go_sem]
 repeat' (first | refine Kn rfl ?_ | ((first | refine Ka ?_ | refine G_regp rfl rfl ?_ | refine Kb ?_ | refine Kc ?_ | refine Kd ?_ | refine Ke ?_); simp only [go_sem]) | refine Kf ?_ | refine Kg ?_ | refine Kp (fun _ => ?_) (fun _ => ?_) | ((first | refine Kh ?_ | refine Ki rfl ?_); simp only [or_self,Qs,Qt,Qu,Qv,Qw,Qx,Qy,Qz,Za,go_sem]))
theorem names18 (t : Tr) (hf : (flatT t).length <= 1000000) : Does QP gp 13 [t.v] (.one (.d (.sl (strs (namesT t))))) := by
 refine f13_in ?_
 simp only [go_sem]
 refine G_seq ?_
 refine G_cutK rfl fun K hK => ?_
 repeat' (first | refine Kn rfl ?_ | ((first | refine Ka ?_ | refine G_regp rfl rfl ?_ | refine Kb ?_ | refine Kc ?_ | refine Kd ?_ | refine Ke ?_); simp only [f13_r13,go_sem]) | refine Kf ?_ | refine Kg ?_ | (refine Kp (fun _ => ?_) (fun _ => ?_) <;> try (exfalso; omega)))
 subst hK
 refine G_seq ?_
 refine G_cutK rfl fun K hK => ?_
 repeat' (first | refine Kn rfl ?_ | ((first | refine Ka ?_ | refine G_regp rfl rfl ?_ | refine Kb ?_ | refine Kc ?_ | refine Kd ?_ | refine Ke ?_); simp only [f13_r13,go_sem]) | refine Kf ?_ | refine Kg ?_ | (refine Kp (fun _ => ?_) (fun _ => ?_) <;> try (exfalso; omega)))
 subst hK
 refine G_row0c 0 0 1 (by decide) rfl rfl ?_
 simp only [go_sem]
 repeat' (first | refine Kn rfl ?_ | ((first | refine Ka ?_ | refine G_regp rfl rfl ?_ | refine Kb ?_ | refine Kc ?_ | refine Kd ?_ | refine Ke ?_); simp only [f13_r13,go_sem]) | refine Kf ?_ | refine Kg ?_ | refine ⟨_,trees_c t,Kg ?_⟩ | refine ⟨_,⟨trees_c t,rfl⟩,Kg ?_⟩ | (refine Kp (fun _ => ?_) (fun _ => ?_) <;> try (exfalso; omega)))
 refine G_rf (f2 := 61) (caps := [.one (.d (.bx t.dd))]) (fun pd own' => pd = none /\ ∃ rest,own' = .cells [.own 1 (namesT t).length] :: .row 1 (namesT t).length (strs (namesT t)) :: rest) rfl ?_ f61_ok ?_ ?_ ?_
 ·intro y; simp only [go_sem]
 ·rintro b rc hps ⟨hs,hta,htb⟩
  refine f61_tri ?_
  simp only [go_sem]
  repeat' (first | refine Kn rfl ?_ | ((first | refine Ka ?_ | refine G_regp rfl rfl ?_ | refine Kb ?_ | refine Kc ?_ | refine Kd ?_ | refine Ke ?_); simp only [f61_r8,f61_r9,f61_r16,go_sem]) | refine Kf ?_ | refine Kg ?_ | (refine Kp (fun _ => ?_) (fun _ => ?_) <;> try (exfalso; omega)))
  show G _ _ ⟨_,[_,_,_,.row 7 0 [t.dd],_]⟩
  have e0 : [t.dd] = trs [t] := by simp [trs,Tr.ds_eq]
  rw [e0]
  refine Kj (fr 38 [(0,.one (.d (.raw (.func (.yield b) #[] #[])))),(1,.one (.d (.bx t.dd))),(3,.one (.ptr 4 0))]) (by (simp only [go_sem]; repeat' (first | refine Kp ?_ ?_ | exact Or.inl rfl | exact Or.inr rfl | rfl))) ?_
  refine Km (fun mz sz => ∃ (st vis : List Tr) (v : Nat),mz = (st.flatMap flatT).length /\ (flatT t = vis ++ st.reverse.flatMap flatT) /\ sz = ⟨fr 38 [(0,.one (.d (.raw (.func (.yield b) #[] #[])))),(1,.one (.d (.bx t.dd))),(3,.one (.ptr 4 0))],[.cells [.own 1 (namesOf vis).length],.row 1 (namesOf vis).length (strs (namesOf vis)),.lp b _ rc .ready none,.row 7 v (trs st),.cells [.own 3 v]]⟩) (([t].flatMap flatT).length) ⟨[t],[],0,rfl,by simp,rfl⟩ ?_
  rintro _ _ ⟨st,vis,v,rfl,hfl,rfl⟩
  simp only [go_sem]
  by_cases hst : st = []
  ·subst hst
   simp only [List.reverse_nil,List.flatMap_nil,List.append_nil] at hfl
   rw [show namesOf vis = namesT t from by unfold namesT; rw [hfl]]
   repeat' (first | refine Kn rfl ?_ | ((first | refine Ka ?_ | refine G_regp rfl rfl ?_ | refine Kb ?_ | refine Kc ?_ | refine Kd ?_ | refine Ke ?_); simp only [f61_r8,f61_r9,f61_r16,go_sem]) | refine Kf ?_ | refine Kg ?_ | (refine Kp (fun _ => ?_) (fun _ => ?_) <;> try (exfalso; omega)) | ((first | refine Kh ?_ | refine Ki rfl ?_); simp only [f61_r8,f61_r9,f61_r16,or_self,Qs,Qt,Qu,Qv,Qw,Qx,Qy,Qz,Za,go_sem]))
   exact ⟨.ready,none,rfl,by simp,rfl,_,rfl⟩
  ·obtain ⟨st,x,rfl⟩ : ∃ st' x,st = st' ++ [x] := ⟨_,_,(List.dropLast_concat_getLast hst).symm⟩
   have hpos : 0 < (st ++ [x]).length := by simp
   have hq : ((st ++ [x]).length : Int) - 1 = (st.length : Int) := by simp
   have hfl2 : flatT t = vis ++ x :: ((st ++ x.kids.reverse).reverse.flatMap flatT) := by rw [hfl]; simp [flatT_eq x]
   have hlen := congrArg List.length hfl2
   simp only [List.length_append,List.length_cons] at hlen
   have hsl := flat_len18 ((st ++ x.kids.reverse).reverse)
   simp only [List.length_append,List.length_reverse] at hsl
   have hnl := namesOf_len vis
   have hik : inK .i64 (st.length : Int) := by simp [inK,IntKind.min,IntKind.max,IntKind.signed,IntKind.bits]; omega
   have hlt : st.length < (trs (st ++ [x])).length := by simp
   have hlt2 : st.length < (st ++ [x]).length := by simp
   have hxa : (trs (st ++ [x]))[st.length]? = some x.dd := by rw [<- x.ds_eq]; simp
   repeat' (first | refine Kn rfl ?_ | ((first | refine Ka ?_ | refine G_regp rfl rfl ?_ | refine Kb ?_ | refine Kc ?_ | refine Kd ?_ | refine Ke ?_); simp only [f61_r8,f61_r9,f61_r16,hq,go_sem]) | refine Kf ?_ | refine Kg ?_ | refine ⟨hik,?_⟩ | refine ⟨Kq _,hlt,?_⟩ | refine ⟨Kq _,hlt2,?_⟩ | refine ⟨_,⟨hxa,of_decide_eq_true rfl⟩,Kg ?_⟩ | refine ⟨0,st.length,⟨rfl,rfl,Nat.zero_le _,Nat.le_of_lt hlt⟩,Kg ?_⟩ | refine ⟨0,st.length,⟨rfl,rfl,Nat.zero_le _,Nat.le_of_lt hlt2⟩,Kg ?_⟩ | (refine Kp (fun _ => ?_) (fun _ => ?_) <;> try (exfalso; omega)))
   have htk : List.take st.length (trs (st ++ [x])) = trs st := by simp [trs]
   rw [htk]
   refine ⟨[.cells [.own 1 (namesOf (vis ++ [x])).length],.row 1 (namesOf (vis ++ [x])).length (strs (namesOf (vis ++ [x]))),.lp b _ rc .ready none,.row 7 (v + 1) (trs st),.cells [.own 3 (v + 1)],.cells x.as,.cells x.as],true,by simp,⟨2,_,rc,hs,_,_,[.cells [.own 1 (namesOf (vis ++ [x])).length],.row 1 (namesOf (vis ++ [x])).length (strs (namesOf (vis ++ [x]))),.dead,.row 7 (v + 1) (trs st),.cells [.own 3 (v + 1)],.cells x.as,.cells x.as],none,rfl,by rw [<- Array.length_toList,hps]; rfl,hta,htb,?_,rfl,rfl⟩,Kg ?_⟩
   ·rw [hps]
    simp only [go_sem]
    repeat' (first | refine Kn rfl ?_ | ((first | refine Ka ?_ | refine G_regp rfl rfl ?_ | refine Kb ?_ | refine Kc ?_ | refine Kd ?_ | refine Ke ?_); simp only [f13_r13,go_sem]) | refine Kf ?_ | refine Kg ?_ | (refine Kp (fun _ => ?_) (fun _ => ?_) <;> try (exfalso; omega)))
    refine G_rnd ⟨rfl,?_⟩
    have hvis := namesOf_snoc vis x
    have hn1 : ((namesOf vis).length + 1) * 16 <= 140737488355328 := by omega
    have hn2 : (namesOf vis).length + 1 < lenMax := by unfold lenMax; omega
    by_cases hb1 : x.k = 3
    ·have hk1 : (x.k != 3) = false := by simp [hb1]
     have hb : namedB x = false := by simp [namedB,hb1]
     rw [hb] at hvis
     simp only [Bool.false_eq_true,if_false,List.append_nil] at hvis
     rw [hvis]
     repeat' (first | refine Kn rfl ?_ | ((first | refine Ka ?_ | refine G_regp rfl rfl ?_ | refine Kb ?_ | refine Kc ?_ | refine Kd ?_ | refine Ke ?_); simp only [f13_r13,hk1,go_sem]) | refine Kf ?_ | refine Kg ?_ | (refine Kp (fun _ => ?_) (fun _ => ?_) <;> try (exfalso; omega)))
     exact G_rnd ⟨⟨rfl,rfl⟩,rfl⟩
    ·have hk1 : (x.k != 3) = true := by simp [hb1]
     by_cases hb2 : x.name = ⟨#[]⟩
     ·have hk2 : decide (x.name = ⟨#[]⟩) = true := by simp [hb2]
      have hb : namedB x = false := by simp [namedB,hb2]
      rw [hb] at hvis
      simp only [Bool.false_eq_true,if_false,List.append_nil] at hvis
      rw [hvis]
      repeat' (first | refine Kn rfl ?_ | ((first | refine Ka ?_ | refine G_regp rfl rfl ?_ | refine Kb ?_ | refine Kc ?_ | refine Kd ?_ | refine Ke ?_); simp only [f13_r13,hk1,hk2,go_sem]) | refine Kf ?_ | refine Kg ?_ | (refine Kp (fun _ => ?_) (fun _ => ?_) <;> try (exfalso; omega)))
      exact G_rnd ⟨⟨rfl,rfl⟩,rfl⟩
     ·have hk2 : decide (x.name = ⟨#[]⟩) = false := by simp [hb2]
      have hb : namedB x = true := by simp [namedB,hb1,hb2]
      rw [hb] at hvis
      simp only [if_true] at hvis
      rw [hvis]
      repeat' (first | refine Kn rfl ?_ | ((first | refine Ka ?_ | refine G_regp rfl rfl ?_ | refine Kb ?_ | refine Kc ?_ | refine Kd ?_ | refine Ke ?_); simp only [f13_r13,hk1,hk2,go_sem]) | refine Kf ?_ | refine Kg ?_ | refine ⟨by simp,hn1,hn2,?_⟩ | (refine Kp (fun _ => ?_) (fun _ => ?_) <;> try (exfalso; omega)))
      exact G_rnd ⟨⟨rfl,rfl⟩,by simp [strs]⟩
   ·simp only [go_sem]
    repeat' (first | refine Kn rfl ?_ | ((first | refine Ka ?_ | refine G_regp rfl rfl ?_ | refine Kb ?_ | refine Kc ?_ | refine Kd ?_ | refine Ke ?_); simp only [f61_r8,f61_r9,f61_r16,go_sem]) | refine Kf ?_ | refine Kg ?_ | refine ⟨_,backward_c x.kids,Kg ?_⟩ | refine ⟨_,⟨backward_c x.kids,rfl⟩,Kg ?_⟩ | (refine Kp (fun _ => ?_) (fun _ => ?_) <;> try (exfalso; omega)) | ((first | refine Kh ?_ | refine Ki rfl ?_); simp only [f61_r8,f61_r9,f61_r16,or_self,Qs,Qt,Qu,Qv,Qw,Qx,Qy,Qz,Za,go_sem]))
    refine G_gen3 fun C0 C1 LP0 hC0 hC1 hLP => ?_
    refine G_rf (f2 := 87) (caps := [.one (.d (.bx [.sl (trs x.kids)]))]) (fun pd own' => pd = none /\ ∃ rest,own' = C0 :: C1 :: LP0 :: .row 7 (v + 1 + x.kids.length) (trs (st ++ x.kids.reverse)) :: .cells [.own 3 (v + 1 + x.kids.length)] :: rest) rfl ?_ f87_ok ?_ ?_ ?_
    ·intro y; simp only [go_sem]
    ·rintro b2 rc2 hps2 ⟨hs2,hta2,htb2⟩
     refine f87_tri ?_
     simp only [go_sem]
     have hkl : x.kids.length <= 1000000 := by omega
     have hik2 : inK .i64 ((x.kids.length : Int) - 1) := by simp [inK,IntKind.min,IntKind.max,IntKind.signed,IntKind.bits]; omega
     repeat' (first | refine Kn rfl ?_ | ((first | refine Ka ?_ | refine G_regp rfl rfl ?_ | refine Kb ?_ | refine Kc ?_ | refine Kd ?_ | refine Ke ?_); simp only [go_sem]) | refine Kf ?_ | refine Kg ?_ | refine ⟨hik2,?_⟩ | (refine Kp (fun _ => ?_) (fun _ => ?_) <;> try (exfalso; omega)))
     rw [show trs st = trs (st ++ x.kids.reverse.take 0) from by simp]
     refine Kj (fr 19 [(0,.one (.d (.raw (.func (.yield b2) #[] #[])))),(1,.one (.d (.bx [.sl (trs x.kids)]))),(3,.one (.d (.int .i64 ((x.kids.length : Int) - 1))))]) (by (simp only [go_sem]; repeat' (first | refine Kp ?_ ?_ | exact Or.inl rfl | exact Or.inr rfl | rfl))) ?_
     rw [show (x.kids.length : Int) - 1 = (x.kids.length : Int) - 1 - ((0 : Nat) : Int) from by simp]
     refine Km (fun mz sz => ∃ i : Nat,i <= x.kids.length /\ mz = x.kids.length - i /\ sz = ⟨fr 19 [(0,.one (.d (.raw (.func (.yield b2) #[] #[])))),(1,.one (.d (.bx [.sl (trs x.kids)]))),(3,.one (.d (.int .i64 ((x.kids.length : Int) - 1 - (i : Int)))))],[C0,C1,LP0,.row 7 (v + 1 + i) (trs (st ++ x.kids.reverse.take i)),.cells [.own 3 (v + 1 + i)],.cells x.as,.cells x.as,.dead,.lp b2 _ rc2 .ready none]⟩) x.kids.length ⟨0,Nat.zero_le _,rfl,rfl⟩ ?_
     rintro _ _ ⟨i,hi,rfl,rfl⟩
     simp only [go_sem]
     by_cases hil : i < x.kids.length
     ·obtain ⟨c,hc⟩ := at_lt (l := x.kids) (i := x.kids.length - 1 - i) (by omega)
      have hq2 : (x.kids.length : Int) - 1 - (i : Int) = ((x.kids.length - 1 - i : Nat) : Int) := by omega
      have hik3 : inK .i64 (((x.kids.length - 1 - i : Nat) : Int) - 1) := by simp [inK,IntKind.min,IntKind.max,IntKind.signed,IntKind.bits]; omega
      have hq3 : ((x.kids.length - 1 - i : Nat) : Int) - 1 = (x.kids.length : Int) - 1 - ((i + 1 : Nat) : Int) := by omega
      have hct := trs_at hc
      have hnext : x.kids.reverse.take (i + 1) = x.kids.reverse.take i ++ [c] := by
       rw [List.take_succ,List.getElem?_reverse hil,hc]; rfl
      have htl : (st ++ x.kids.reverse.take i).length <= 1000000 := by simp; omega
      have ha1 : ((st ++ x.kids.reverse.take i).length + 1) * 104 <= 140737488355328 := by omega
      have ha2 : (st ++ x.kids.reverse.take i).length + 1 < lenMax := by unfold lenMax; omega
      have hlt4 : (st ++ x.kids.reverse.take i).length < (trs (st ++ x.kids.reverse.take i) ++ [zTr]).length := by simp
      have hset : (trs (st ++ x.kids.reverse.take i) ++ [zTr]).set (st ++ x.kids.reverse.take i).length c.dd = trs (st ++ (x.kids.reverse.take i ++ [c])) := by
       rw [List.set_append_right _ _ (by simp),<- c.ds_eq,<- List.append_assoc]
       simp [trs]
      have hz1 : (trs (st ++ x.kids.reverse.take i) ++ [zTr])[(st ++ x.kids.reverse.take i).length]? = some zTr := by simp [trs]
      repeat' (first | refine Kn rfl ?_ | ((first | refine Ka ?_ | refine G_regp rfl rfl ?_ | refine Kb ?_ | refine Kc ?_ | refine Kd ?_ | refine Ke ?_); simp only [hq2,go_sem]) | refine Kf ?_ | refine Kg ?_ | refine ⟨_,⟨Kq _,hct,rfl⟩,Kg ?_⟩ | (refine Kp (fun _ => ?_) (fun _ => ?_) <;> try (exfalso; omega)) | ((first | refine Kh ?_ | refine Ki rfl ?_); simp only [hq2,or_self,Qs,Qt,Qu,Qv,Qw,Qx,Qy,Qz,Za,go_sem]))
      refine ⟨[C0,C1,LP0,.row 7 (v + 1 + (i + 1)) (trs (st ++ x.kids.reverse.take (i + 1))),.cells [.own 3 (v + 1 + (i + 1))],.cells x.as,.cells x.as,.dead,.lp b2 _ rc2 .ready none,.cells c.as],true,by simp,⟨8,_,rc2,hs2,_,_,[C0,C1,LP0,.row 7 (v + 1 + (i + 1)) (trs (st ++ x.kids.reverse.take (i + 1))),.cells [.own 3 (v + 1 + (i + 1))],.cells x.as,.cells x.as,.dead,.dead,.cells c.as],none,rfl,by rw [<- Array.length_toList,hps2]; rfl,hta2,htb2,?_,rfl,rfl⟩,Kg ?_⟩
      ·rw [hps2]
       simp only [go_sem]
       repeat' (first | refine Kn rfl ?_ | ((first | refine Ka ?_ | refine G_regp rfl rfl ?_ | refine Kb ?_ | refine Kc ?_ | refine Kd ?_ | refine Ke ?_); simp only [f61_r8,f61_r9,f61_r16,go_sem]) | refine Kf ?_ | refine Kg ?_ | (refine Kp (fun _ => ?_) (fun _ => ?_) <;> try (exfalso; omega)))
       refine G_rnd ⟨rfl,?_⟩
       rw [hnext]
       repeat' (first | refine Kn rfl ?_ | ((first | refine Ka ?_ | refine G_regp rfl rfl ?_ | refine Kb ?_ | refine Kc ?_ | refine Kd ?_ | refine Ke ?_); simp only [f61_r8,f61_r9,f61_r16,go_sem]) | refine Kf ?_ | refine Kg ?_ | refine ⟨by simp,ha1,ha2,?_⟩ | refine ⟨_,⟨hz1,of_decide_eq_true rfl⟩,Kg ?_⟩ | refine ⟨Kq _,hlt4,?_⟩ | (refine Kp (fun _ => ?_) (fun _ => ?_) <;> try (exfalso; omega)))
       exact G_rnd ⟨⟨rfl,rfl⟩,by rw [<- hset]; rfl⟩
      ·simp only [go_sem]
       repeat' (first | refine Kn rfl ?_ | ((first | refine Ka ?_ | refine G_regp rfl rfl ?_ | refine Kb ?_ | refine Kc ?_ | refine Kd ?_ | refine Ke ?_); simp only [go_sem]) | refine Kf ?_ | refine Kg ?_ | refine ⟨hik3,?_⟩ | (refine Kp (fun _ => ?_) (fun _ => ?_) <;> try (exfalso; omega)))
       rw [hq3]
       refine Kj (fr 19 [(0,.one (.d (.raw (.func (.yield b2) #[] #[])))),(1,.one (.d (.bx [.sl (trs x.kids)]))),(3,.one (.d (.int .i64 ((x.kids.length : Int) - 1 - ((i + 1 : Nat) : Int)))))]) (by (simp only [go_sem]; repeat' (first | refine Kp ?_ ?_ | exact Or.inl rfl | exact Or.inr rfl | rfl))) ?_
       subst hC0 hC1 hLP
       refine Kk 9 (by simp only [List.length_nil,List.length_cons]; decide) (by simp only [go_sem]) (by simp only [List.take_succ_cons,List.take_zero,List.all_cons,List.all_nil]; simp only [go_sem]) ?_
       simp only [go_sem]
       exact Kl ⟨x.kids.length - (i + 1),by omega,i + 1,by omega,rfl,rfl⟩
     ·obtain rfl : x.kids.length = i := by omega
      rw [show x.kids.reverse.take x.kids.length = x.kids.reverse from List.take_of_length_le (by simp)]
      repeat' (first | refine Kn rfl ?_ | ((first | refine Ka ?_ | refine G_regp rfl rfl ?_ | refine Kb ?_ | refine Kc ?_ | refine Kd ?_ | refine Ke ?_); simp only [go_sem]) | refine Kf ?_ | refine Kg ?_ | (refine Kp (fun _ => ?_) (fun _ => ?_) <;> try (exfalso; omega)) | ((first | refine Kh ?_ | refine Ki rfl ?_); simp only [or_self,Qs,Qt,Qu,Qv,Qw,Qx,Qy,Qz,Za,go_sem]))
      exact ⟨.ready,none,rfl,by simp,rfl,_,rfl⟩
    ·rintro own' ⟨_,rest,rfl⟩
     subst hC0 hC1 hLP
     simp only [go_sem]
     repeat refine Ko rfl ?_
     refine Kj (fr 38 [(0,.one (.d (.raw (.func (.yield b) #[] #[])))),(1,.one (.d (.bx t.dd))),(3,.one (.ptr 4 0))]) (by (simp only [go_sem]; repeat' (first | refine Kp ?_ ?_ | exact Or.inl rfl | exact Or.inr rfl | rfl))) ?_
     refine Kk 5 (by simp only [List.length_nil,List.length_cons]; omega) (by simp only [go_sem]) (by simp only [go_sem]) ?_
     simp only [go_sem]
     refine Kl ⟨((st ++ x.kids.reverse).flatMap flatT).length,?_,st ++ x.kids.reverse,vis ++ [x],v + 1 + x.kids.length,rfl,?_,rfl⟩
     ·simp [flatT_eq x,flat_rev18]
     ·rw [hfl2]; simp
    ·rintro _ _ ⟨h,_⟩; cases h
 ·rintro own' ⟨_,rest,rfl⟩
  simp only [go_sem]
  repeat refine Ko rfl ?_
  refine Kj (fr 22 [(3,.one (.ptr 0 0))]) (by (simp only [go_sem]; repeat' (first | refine Kp ?_ ?_ | exact Or.inl rfl | exact Or.inr rfl | rfl))) ?_
  refine Kk 2 (by simp only [List.length_nil,List.length_cons]; omega) (by simp only [go_sem]) (by simp only [go_sem]) ?_
  refine G_freeze 1 ?_
  simp only [go_sem]
  repeat' (first | refine Kn rfl ?_ | ((first | refine Ka ?_ | refine G_regp rfl rfl ?_ | refine Kb ?_ | refine Kc ?_ | refine Kd ?_ | refine Ke ?_); simp only [f13_r13,go_sem]) | refine Kf ?_ | refine Kg ?_ | (refine Kp (fun _ => ?_) (fun _ => ?_) <;> try (exfalso; omega)) | ((first | refine Kh ?_ | refine Ki rfl ?_); simp only [f13_r13,or_self,Qs,Qt,Qu,Qv,Qw,Qx,Qy,Qz,Za,go_sem]))
  all_goals trace_state
 ·rintro _ _ ⟨h,_⟩; cases h
variable {gp : Heap} {ua : Addr}
def graphT (R : ByteArray -> Bool) (t : Tr) : Gr × Int := if (layT R t 1 0 []).e = 0 then (⟨0,(layT R t 1 0 []).new⟩,0) else (⟨0,[]⟩,(layT R t 1 0 []).e)
theorem graph18 (h : Env18 gp ua) (t : Tr) (hs : smT t) : Does QP gp 12 [t.v] (.tup [(graphT rightS t).1.v,vi (graphT rightS t).2]) := by
 have hlay := lay_c (gp := gp) rightS (right_str h.e.u) _ t (Nat.le_refl _) hs 1 0 0 [] [] (by omega) (by simp)
 unfold LayC at hlay
 unfold graphT
 simp only [List.length_nil,Nat.zero_add,List.nil_append] at hlay
 generalize layT rightS t 1 0 [] = r at *
 refine f12_in ?_
 simp only [go_sem]
 refine G_seq ?_
 refine G_cutK rfl fun K hK => ?_
 repeat' (first | refine Kn rfl ?_ | ((first | refine Ka ?_ | refine G_regp rfl rfl ?_ | refine Kb ?_ | refine Kc ?_ | refine Kd ?_ | refine Ke ?_); simp only [f12_r11,go_sem]) | refine Kf ?_ | refine Kg ?_ | (refine Kp (fun _ => ?_) (fun _ => ?_) <;> try (exfalso; omega)))
 subst hK
 refine G_seq ?_
 refine G_cutK rfl fun K hK => ?_
 repeat' (first | refine Kn rfl ?_ | ((first | refine Ka ?_ | refine G_regp rfl rfl ?_ | refine Kb ?_ | refine Kc ?_ | refine Kd ?_ | refine Ke ?_); simp only [f12_r11,go_sem]) | refine Kf ?_ | refine Kg ?_ | (refine Kp (fun _ => ?_) (fun _ => ?_) <;> try (exfalso; omega)))
 subst hK
 refine G_row0c 2 1 6 (by decide) rfl rfl ?_
 refine G_pool0 1 ?_
 refine G_nshut 3 4 (sz := 6) (kz := 1) (ver := 0) [] rfl rfl ?_
 simp only [go_sem]
 repeat' (first | refine Kn rfl ?_ | ((first | refine Ka ?_ | refine G_regp rfl rfl ?_ | refine Kb ?_ | refine Kc ?_ | refine Kd ?_ | refine Ke ?_); simp only [go_sem]) | refine Kf ?_ | refine Kg ?_ | (refine Kp (fun _ => ?_) (fun _ => ?_) <;> try (exfalso; omega)))
 refine Or.inr (Or.inr ⟨[2,3,1],.tup [vi (r.is.headD 0),errW r.e],[cmpC 0 r.new.length,cmpL r.new r.new.length,.map (mpS r.nm)],(by simp only [CallR,rnVs,rnV,rnA,rnAs,rn0,rn0s,posN,rnCs,rnC,getC,List.isEmpty_nil,reduceCtorEq,↓reduceIte,Qa,Qb,Qc,Qd,Qe,Qf,Qg,Qh,Qi,Qj,Qk,Ql,Qm,Qn,Qo,Qp,Qq,Qr]; simp only [go_sem]; exact ⟨f32_ok,hlay⟩),Kg ?_⟩)
 simp only [bkO,bkC,mpS_refs]
 simp only [go_sem]
 by_cases he : r.e = 0
 ·rw [if_pos he]
  repeat' (first | refine Kn rfl ?_ | ((first | refine Ka ?_ | refine G_regp rfl rfl ?_ | refine Kb ?_ | refine Kc ?_ | refine Kd ?_ | refine Ke ?_); simp only [if_pos he,go_sem]) | refine Kf ?_ | refine Kg ?_ | (refine Kp (fun _ => ?_) (fun _ => ?_) <;> try (exfalso; omega)))
  refine G_nripe 3 rfl ?_
  refine G_freeze 3 ?_
  simp only [go_sem]
  repeat' (first | refine Kn rfl ?_ | ((first | refine Ka ?_ | refine G_regp rfl rfl ?_ | refine Kb ?_ | refine Kc ?_ | refine Kd ?_ | refine Ke ?_); simp only [f12_r11,go_sem]) | refine Kf ?_ | refine Kg ?_ | (refine Kp (fun _ => ?_) (fun _ => ?_) <;> try (exfalso; omega)) | ((first | refine Kh ?_ | refine Ki rfl ?_); simp only [f12_r11,or_self,Qs,Qt,Qu,Qv,Qw,Qx,Qy,Qz,Za,go_sem]))
  rw [List.map_map]; rfl
 ·rw [if_neg he]
  have c1 := told18 h r.e he
  rw [show errW r.e = .one (.d (.ifc 106 true [.int .i64 r.e])) from by rw [errW,if_neg he]] at c1
  repeat' (first | refine Kn rfl ?_ | ((first | refine Ka ?_ | refine G_regp rfl rfl ?_ | refine Kb ?_ | refine Kc ?_ | refine Kd ?_ | refine Ke ?_); simp only [f12_r11,if_neg he,go_sem]) | refine Kf ?_ | refine Kg ?_ | refine ⟨_,c1,Kg ?_⟩ | refine ⟨_,⟨c1,rfl⟩,Kg ?_⟩ | (refine Kp (fun _ => ?_) (fun _ => ?_) <;> try (exfalso; omega)) | ((first | refine Kh ?_ | refine Ki rfl ?_); simp only [f12_r11,if_neg he,or_self,Qs,Qt,Qu,Qv,Qw,Qx,Qy,Qz,Za,go_sem]))
end Go.Fw.L07
