/- Chapter 18,part 8: a graph's tree. -/
import Derived.Test.YtiklocoaghcliaaGreatDoorMc
import Derived.Test.YtiklocoaghcliaaGreatDoorEb
import Derived.Test.YtiklocoaghcliaaGreatDoorL07L09Mini
set_option linter.all false
namespace Go.Fw.L07
open Go Go.Fw
open Go.Fw.Sh renaming intro -> Kg
open Go.Fw renaming G_reg -> Ka,G_regp -> Ka,VO_chk -> Kb,VO_go -> Kc,VO_gx -> Kd,G_cond -> Ke,VO_end -> Kf,G_fin -> Kh,G_ret -> Ki,G_weak -> Kj,G_drop -> Kk,G_again -> Kl,G_loop -> Km,Gx -> Kn
open Int renaming natCast_nonneg -> Kq
open And renaming intro -> Kp
open Go.Proofs.Tryz renaming prog -> QP
open Nat renaming reduceAdd -> Qa,reduceSub -> Qb,reduceMul -> Qc,reduceLeDiff -> Qd,reduceLT -> Qe,reduceEqDiff -> Qf
open Int renaming reduceToNat -> Qg,reduceLT -> Qh,reduceLE -> Qi,reduceGT -> Qj,reduceGE -> Qk,reduceEq -> Ql,reduceNe -> Qm,reduceBEq -> Qn,reduceBNe -> Qo,reduceAdd -> Qp,reduceSub -> Qq,reduceNeg -> Qr
open Go.Fw.V.one renaming injEq -> Qs
open Go.Fw.V.agg renaming injEq -> Qt
open Go.Fw.V.tup renaming injEq -> Qu
open Go.Fw.A.d renaming injEq -> Qv
open Go.Fw.D.bool renaming injEq -> Qw
open Go.Fw.D.int renaming injEq -> Qx
open Go.Fw.D.str renaming injEq -> Qy
open Go.Fw.D.sl renaming injEq -> Qz
open List.cons renaming injEq -> Za
set_option maxRecDepth 4000
variable {gp : Heap} {ua : Addr}
def aName (n : Int) : ByteArray := if n > 0 then ⟨#[97]⟩ ++ ⟨(Lib.itoa n).toArray⟩ else ⟨#[]⟩
def metP (met : List Int) (i : Int) : List Int := if i ∈ met then met else met ++ [i]
def ofL (F : Int -> List Int -> Option (Tr × List Int)) : List Int -> List Int -> Option (List Tr × List Int)
 | [],m => some ([],m)
 | k :: l,m => (F k m).bind fun p => (ofL F l p.2).map fun q => (p.1 :: q.1,q.2)
def ofF (g : Gr) (a : List Int) : Nat -> Int -> List Int -> Option (Tr × List Int)
 | 0,_,_ => none
 | f + 1,i,met => (if 0 <= i then g.l[i.toNat]? else none).bind fun x => (a[i.toNat]?).bind fun n =>
  if aName n ≠ ⟨#[]⟩ /\ i ∈ met then some (.mk 3 (aName n) ⟨0,0,⟨#[]⟩⟩ [] [],met)
  else (ofL (ofF g a f) x.kids (metP met i)).map fun q => (.mk x.k (aName n) x.x x.keys q.1,q.2)
theorem ofL_snoc (F : Int -> List Int -> Option (Tr × List Int)) (k : Int) : ∀ (l : List Int) (m : List Int),ofL F (l ++ [k]) m = (ofL F l m).bind fun q => (F k q.2).map fun p => (q.1 ++ [p.1],p.2)
 | [],m => by simp [ofL]; cases F k m <;> rfl
 | i :: l,m => by
  simp only [List.cons_append,ofL]
  cases h : F i m with
  | none => rfl
  | some p =>
   simp only [Option.bind_some,ofL_snoc F k l p.2]
   cases h2 : ofL F l p.2 with
   | none => rfl
   | some q =>
    simp only [Option.bind_some,Option.map_some]
    cases F k q.2 <;> rfl
theorem ofL_take {F : Int -> List Int -> Option (Tr × List Int)} : ∀ {l : List Int} {m : List Int} {q : List Tr × List Int},ofL F l m = some q -> ∀ j,∃ r,ofL F (l.take j) m = some r
 | [],m,q,h,j => ⟨([],m),by simp [ofL]⟩
 | k :: l,m,q,h,0 => ⟨_,rfl⟩
 | k :: l,m,q,h,j + 1 => by
  simp only [ofL] at h
  cases h1 : F k m with
  | none => rw [h1] at h; cases h
  | some p =>
   rw [h1] at h
   simp only [Option.bind_some] at h
   obtain ⟨q2,h2,_⟩ := Option.map_eq_some_iff.1 h
   obtain ⟨r,hr⟩ := ofL_take h2 j
   exact ⟨(p.1 :: r.1,r.2),by simp only [List.take_succ_cons,ofL,h1,Option.bind_some,hr,Option.map_some]⟩
theorem ofL_len {F : Int -> List Int -> Option (Tr × List Int)} : ∀ {l : List Int} {m : List Int} {q : List Tr × List Int},ofL F l m = some q -> q.1.length = l.length
 | [],m,q,h => by simp [ofL] at h; subst h; rfl
 | k :: l,m,q,h => by
  simp only [ofL] at h
  cases h1 : F k m with
  | none => rw [h1] at h; cases h
  | some p =>
   rw [h1] at h
   simp only [Option.bind_some] at h
   obtain ⟨q2,h2,rfl⟩ := Option.map_eq_some_iff.1 h
   simp [ofL_len h2]
def metM (met : List Int) : List (V × V) := met.map fun i => (vi i,vb true)
theorem metM_find (met : List Int) (i : Int) : findV false [.i] (metM met) (vi i) = some (if i ∈ met then some (vb true) else none) := findV_set (kv := vi) (v := vb true) eqV_int met i
theorem metM_put : ∀ (met : List Int) (i : Int),putM false [.i] (metM met) (vi i) (vb true) = some (metM (metP met i))
 | [],i => rfl
 | k :: met,i => by
  have ih := metM_put met i
  simp only [metM,List.map_cons,putM,eqV_int,metP] at ih ⊢
  by_cases h : i = k
  ·simp [h]
  ·simp only [h,decide_false,ih,List.mem_cons,false_or]
   split <;> simp
theorem metM_refs (met : List Int) : (Ch.map (metM met)).refs = [] := by
 simp only [Ch.refs]
 rw [List.flatMap_eq_nil_iff]
 intro e he
 obtain ⟨a,_,rfl⟩ := List.mem_map.1 he
 rfl
theorem metM_froz (met : List Int) (j : Nat) (c : Ch) : subC j c (.map (metM met)) = .map (metM met) := by
 simp only [subC,Ch.map.injEq]
 simp only [metM,List.map_map]
 rfl
theorem aName_ne {n : Int} (h : n > 0) : aName n ≠ ⟨#[]⟩ := by
 unfold aName
 rw [if_pos h]
 intro e
 have := congrArg ByteArray.size e
 rw [ByteArray.size_append] at this
 have e1 : (⟨#[97]⟩ : ByteArray).size = 1 := rfl
 have e2 : (⟨#[]⟩ : ByteArray).size = 0 := rfl
 omega
theorem aName_nil {n : Int} (h : ¬ n > 0) : aName n = ⟨#[]⟩ := by unfold aName; rw [if_neg h]
def unnil : A -> A
 | .nil => .d (.sl [])
 | a => a
theorem unnil_den {H : Heap} {an : Anc} {a : A} {v : Value} (h : DenA H an a v) : DenA H an (unnil a) v := by
 cases a <;> first | exact h | (obtain ⟨q,rfl⟩ := h; exact Den.slE q 0)
theorem G_unnil {S : Sx} {k : List MI} {s : St} (i : Nat) {cs : List A} (hc : getC s.own i = .cells cs) (h : G S k ⟨s.fr,setC s.own i (.cells (cs.map unnil))⟩) : G S k s := by
 rintro Y a w ⟨H,an,F,ms,hs⟩
 refine h Y a w ⟨H,an,F,ms,hs.recast hc (by simp) fun p hsc => ?_⟩
 obtain ⟨h0,b0,T,vs,e1,e2,e3,e4⟩ := hsc
 refine ⟨h0,b0,T,vs,e1,e2,e3,?_⟩
 have := All2.map (R := DenA H an) (f := unnil) (g := id) (fun a b hab => unnil_den hab) e4
 simpa using this
abbrev tAn (a : List Int) : Ch := .cells [.d (.sl (ints a))]
abbrev tMb : Ch := .cells [.own 2 0]
abbrev gBx (g : Gr) : D := .bx [.int .i64 g.root,.sl (nds g.l)]
abbrev tClo (g : Gr) : A := .clo (.func 29) [.d (gBx g),.ptr 0 0,.ptr 1 0,.ptr 3 0]
theorem tree1_c (h : Env18 gp ua) {g : Gr} (hs : Small g) {a : List Int} (ha : ∀ n ∈ a,n <= 1000) : ∀ (f : Nat) (i : Int) (met met' : List Int) (t : Tr),ofF g a f i met = some (t,met') ->
  Tri QP gp 29 [vi i,.one (.d (gBx g)),.one (.ptr 0 0),.one (.ptr 1 0),.one (.ptr 3 0)] [tAn a,tMb,.map (metM met),.cells [tClo g]] fun r post =>
   r = t.v /\ post = [tAn a,tMb,.map (metM met'),.cells [tClo g],.cells t.as] := by
 intro f
 induction f with
 | zero => intro i met met' t h; cases h
 | succ f ih =>
  intro i met met' t hof
  simp only [ofF] at hof
  obtain ⟨x,hx,hof⟩ := Option.bind_eq_some_iff.1 hof
  obtain ⟨n,hn,hof⟩ := Option.bind_eq_some_iff.1 hof
  split at hx
  case isFalse => cases hx
  rename_i hi
  obtain ⟨m,rfl⟩ := Int.eq_ofNat_of_zero_le hi
  rw [Int.toNat_natCast] at hx hn
  have hsx := hs x (List.mem_of_getElem? hx)
  have hn1 := ha n (List.mem_of_getElem? hn)
  have c1 := clone_scs (gp := gp) x.keys (by omega)
  refine f29_tri ?_
  simp only [go_sem]
  have hmf := metM_find met m
  have hrun : ∀ nm : ByteArray,(ofL (ofF g a f) x.kids (metP met m)).map (fun q => (Tr.mk x.k nm x.x x.keys q.1,q.2)) = some (t,met') -> ∃ q,ofL (ofF g a f) x.kids (metP met m) = some q /\ t = .mk x.k nm x.x x.keys q.1 /\ met' = q.2 := fun nm hh => by
   obtain ⟨q,h1,h2⟩ := Option.map_eq_some_iff.1 hh
   simp only [Prod.mk.injEq] at h2
   exact ⟨q,h1,h2.1.symm,h2.2.symm⟩
  by_cases hnp : n > 0
  ·have c2 := itoa10 h.p n (by omega) (by omega)
   have hszN : ((#[(97 : UInt8)].size + (Lib.itoa n).toArray.size : Nat) : Int) <= 9223372036854775807 := by
    have := Lib.itoa_length_le n (by omega) (by omega)
    simp; omega
   have hae := aName_ne hnp
   have hnm : (⟨#[97]⟩ : ByteArray) ++ ⟨(Lib.itoa n).toArray⟩ = aName n := by unfold aName; rw [if_pos hnp]
   have hae2 : decide (aName n = ⟨#[]⟩) = false := by simp [hae]
   by_cases hmem : (m : Int) ∈ met
   ·rw [if_pos hmem] at hmf
    rw [if_pos ⟨hae,hmem⟩] at hof
    cases hof
    repeat' (first | refine Kn rfl ?_ | ((first | refine Ka ?_ | refine G_regp rfl rfl ?_ | refine Kb ?_ | refine Kc ?_ | refine Kd ?_ | refine Ke ?_); simp only [f29_r22,f29_r32,hnm,hae2,go_sem]) | refine Kf ?_ | refine Kg ?_ | refine ⟨_,c1,Kg ?_⟩ | refine ⟨_,⟨c1,rfl⟩,Kg ?_⟩ | refine ⟨_,c2,Kg ?_⟩ | refine ⟨_,⟨c2,rfl⟩,Kg ?_⟩ | refine ⟨_,⟨Kq _,(by first | exact map_at hx | (rw [Int.toNat_natCast]; exact map_at hx)),rfl⟩,Kg ?_⟩ | refine ⟨_,⟨Kq _,(by first | exact map_at hn | (rw [Int.toNat_natCast]; exact map_at hn)),rfl⟩,Kg ?_⟩ | refine ⟨hszN,?_⟩ | refine ⟨_,⟨hmf,rfl⟩,Kg ?_⟩ | (refine Kp (fun _ => ?_) (fun _ => ?_) <;> try (exfalso; omega)))
    refine G_unnil 4 rfl ?_
    simp only [unnil,go_sem]
    refine Kj (fr 66 [(6,.one (.ptr 4 0))]) (by (simp only [go_sem]; repeat' (first | refine Kp ?_ ?_ | exact Or.inl rfl | exact Or.inr rfl | rfl))) ?_
    refine Kk 5 (by simp only [List.length_nil,List.length_cons]; decide) (by simp only [go_sem]) (by simp only [List.take_succ_cons,List.take_zero,List.all_cons,List.all_nil,metM_refs]; simp only [go_sem]) ?_
    simp only [go_sem]
    repeat' (first | refine Kn rfl ?_ | ((first | refine Ka ?_ | refine G_regp rfl rfl ?_ | refine Kb ?_ | refine Kc ?_ | refine Kd ?_ | refine Ke ?_); simp only [f29_r22,f29_r32,go_sem]) | refine Kf ?_ | refine Kg ?_ | (refine Kp (fun _ => ?_) (fun _ => ?_) <;> try (exfalso; omega)) | ((first | refine Kh ?_ | refine Ki rfl ?_); simp only [f29_r22,f29_r32,or_self,Qs,Qt,Qu,Qv,Qw,Qx,Qy,Qz,Za,go_sem]))
    exact ⟨⟨rfl,rfl,rfl,rfl,rfl,rfl,rfl⟩,rfl⟩
   ·rw [if_neg hmem] at hmf
    rw [if_neg (fun hh => hmem hh.2)] at hof
    obtain ⟨q,hq,rfl,rfl⟩ := hrun _ hof
    repeat' (first | refine Kn rfl ?_ | ((first | refine Ka ?_ | refine G_regp rfl rfl ?_ | refine Kb ?_ | refine Kc ?_ | refine Kd ?_ | refine Ke ?_); simp only [f29_r22,f29_r32,hnm,hae2,go_sem]) | refine Kf ?_ | refine Kg ?_ | refine ⟨_,c1,Kg ?_⟩ | refine ⟨_,⟨c1,rfl⟩,Kg ?_⟩ | refine ⟨_,c2,Kg ?_⟩ | refine ⟨_,⟨c2,rfl⟩,Kg ?_⟩ | refine ⟨_,⟨Kq _,(by first | exact map_at hx | (rw [Int.toNat_natCast]; exact map_at hx)),rfl⟩,Kg ?_⟩ | refine ⟨_,⟨Kq _,(by first | exact map_at hn | (rw [Int.toNat_natCast]; exact map_at hn)),rfl⟩,Kg ?_⟩ | refine ⟨hszN,?_⟩ | refine ⟨_,⟨hmf,rfl⟩,Kg ?_⟩ | refine ⟨_,metM_put met m,Kg ?_⟩ | (refine Kp (fun _ => ?_) (fun _ => ?_) <;> try (exfalso; omega)))
    refine G_row0c 6 6 7 (by decide) rfl rfl ?_
    simp only [go_sem]
    refine Kj (fr 66 [(1,.one (.d (gBx g))),(4,.one (.ptr 3 0)),(6,.one (.ptr 4 0)),(8,.one (.ptr 6 0)),(50,.one (.d (.sl (ints x.kids)))),(51,vi x.kids.length),(52,vi (0 : Nat))]) (by (simp only [go_sem]; repeat' (first | refine Kp ?_ ?_ | exact Or.inl rfl | exact Or.inr rfl | rfl))) ?_
    refine Km (fun mz sz => ∃ j : Nat,j <= x.kids.length /\ mz = x.kids.length - j /\ (0 <= j) /\ sz = ⟨fr 66 [(1,.one (.d (gBx g))),(4,.one (.ptr 3 0)),(6,.one (.ptr 4 0)),(8,.one (.ptr 6 0)),(50,.one (.d (.sl (ints x.kids)))),(51,vi x.kids.length),(52,vi j)],[tAn a,tMb,.map (metM ((ofL (ofF g a f) (x.kids.take j) (metP met m)).getD ([],[])).2),.cells [tClo g],_,_,.cells [.d (.int .i64 x.k),.d (.str _),.d (.int .i64 x.x.k),.d (.int .i64 x.x.n),.d (.str x.x.s),.d (.sl (scs x.keys)),.own 7 j],.row 7 j (trs ((ofL (ofF g a f) (x.kids.take j) (metP met m)).getD ([],[])).1)]⟩) (x.kids.length) ⟨0,Nat.zero_le _,(Nat.sub_zero _).symm,?_,rfl⟩ ?_
    ·exact Nat.zero_le _
    rintro _ _ ⟨j,hj,rfl,-,rfl⟩
    simp only [go_sem]
    by_cases hjl : j < x.kids.length
    ·obtain ⟨c,hc⟩ := at_lt hjl
     obtain ⟨r,hr⟩ := ofL_take hq j
     obtain ⟨r2,hr2⟩ := ofL_take hq (j + 1)
     have hsn := hr2
     rw [<- take_snoc hc,ofL_snoc,hr,Option.bind_some] at hsn
     obtain ⟨p,hp,rfl⟩ := Option.map_eq_some_iff.1 hsn
     rw [hr,Option.getD_some]
     have hlen := ofL_len hr
     have hcall := ih c r.2 p.2 p.1 hp
     repeat' (first | refine Kn rfl ?_ | ((first | refine Ka ?_ | refine G_regp rfl rfl ?_ | refine Kb ?_ | refine Kc ?_ | refine Kd ?_ | refine Ke ?_); simp only [f29_r22,f29_r32,go_sem]) | refine Kf ?_ | refine Kg ?_ | refine ⟨_,⟨Kq _,(by first | exact map_at hc | (rw [Int.toNat_natCast]; exact map_at hc)),rfl⟩,Kg ?_⟩ | (refine Kp (fun _ => ?_) (fun _ => ?_) <;> try (exfalso; omega)))
     refine ⟨[0,1,2,3],p.1.v,[tAn a,tMb,.map (metM p.2),.cells [tClo g],.cells p.1.as],⟨(by simp only [CallR,rnVs,rnV,rnA,rnAs,rn0,rn0s,posN,rnCs,rnC,getC,List.isEmpty_nil,metM_refs,reduceCtorEq,↓reduceIte,Qa,Qb,Qc,Qd,Qe,Qf,Qg,Qh,Qi,Qj,Qk,Ql,Qm,Qn,Qo,Qp,Qq,Qr]; simp only [go_sem]; exact ⟨f29_ok,hcall⟩),?_⟩,Kg ?_⟩
     ·simp only [bkO,bkC,metM_refs]
      simp only [keepsFirm,Ch.firm,go_sem]
      all_goals trace_state
     simp only [bkO,bkC,metM_refs]
     simp only [go_sem]
     have hp1 : (r.1.length + 1) * 104 <= 140737488355328 := by rw [hlen,List.length_take]; omega
     have hp2 : r.1.length + 1 < lenMax := by rw [hlen,List.length_take]; unfold lenMax; omega
     have hik : inK .i64 ((j : Int) + 1) := by simp [inK,IntKind.min,IntKind.max,IntKind.signed,IntKind.bits]; omega
     repeat' (first | refine Kn rfl ?_ | ((first | refine Ka ?_ | refine G_regp rfl rfl ?_ | refine Kb ?_ | refine Kc ?_ | refine Kd ?_ | refine Ke ?_); simp only [f29_r22,f29_r32,List.length_map,go_sem]) | refine Kf ?_ | refine Kg ?_ | refine ⟨by simp,hp1,hp2,?_⟩ | refine ⟨hik,?_⟩ | (refine Kp (fun _ => ?_) (fun _ => ?_) <;> try (exfalso; omega)))
     refine Kj (fr 66 [(1,.one (.d (gBx g))),(4,.one (.ptr 3 0)),(6,.one (.ptr 4 0)),(8,.one (.ptr 6 0)),(50,.one (.d (.sl (ints x.kids)))),(51,vi x.kids.length),(52,vi (j + 1))]) (by (simp only [go_sem]; repeat' (first | refine Kp ?_ ?_ | exact Or.inl rfl | exact Or.inr rfl | rfl))) ?_
     refine Kk 8 (by simp only [List.length_nil,List.length_cons]; decide) (by simp only [go_sem]) (by simp only [List.take_succ_cons,List.take_zero,List.all_cons,List.all_nil,metM_refs]; try simp only [go_sem]) ?_
     simp only [go_sem]
     refine Kl ⟨x.kids.length - (j + 1),by omega,j + 1,by omega,rfl,?_,(by rw [hr2,Option.getD_some]; simp [trs,Tr.ds_eq])⟩
     exact Nat.zero_le _
    ·obtain rfl : x.kids.length = j := by omega
     rw [List.take_length,hq,Option.getD_some]
     repeat' (first | refine Kn rfl ?_ | ((first | refine Ka ?_ | refine G_regp rfl rfl ?_ | refine Kb ?_ | refine Kc ?_ | refine Kd ?_ | refine Ke ?_); simp only [f29_r22,f29_r32,go_sem]) | refine Kf ?_ | refine Kg ?_ | (refine Kp (fun _ => ?_) (fun _ => ?_) <;> try (exfalso; omega)))
     refine G_freeze 7 ?_
     simp only [frzS,getC,List.map_cons,List.map_nil,metM_froz]
     simp only [go_sem]
     refine Kj (fr 66 [(6,.one (.ptr 4 0))]) (by (simp only [go_sem]; repeat' (first | refine Kp ?_ ?_ | exact Or.inl rfl | exact Or.inr rfl | rfl))) ?_
     refine Kk 5 (by simp only [List.length_nil,List.length_cons]; decide) (by simp only [go_sem]) (by simp only [List.take_succ_cons,List.take_zero,List.all_cons,List.all_nil,metM_refs]; simp only [go_sem]) ?_
     simp only [go_sem]
     repeat' (first | refine Kn rfl ?_ | ((first | refine Ka ?_ | refine G_regp rfl rfl ?_ | refine Kb ?_ | refine Kc ?_ | refine Kd ?_ | refine Ke ?_); simp only [f29_r22,f29_r32,go_sem]) | refine Kf ?_ | refine Kg ?_ | (refine Kp (fun _ => ?_) (fun _ => ?_) <;> try (exfalso; omega)) | ((first | refine Kh ?_ | refine Ki rfl ?_); simp only [f29_r22,f29_r32,or_self,Qs,Qt,Qu,Qv,Qw,Qx,Qy,Qz,Za,go_sem]))
     all_goals exact ⟨⟨rfl,rfl,rfl,rfl,rfl,rfl,rfl⟩,rfl⟩
  ·rw [if_neg (fun hh => hh.1 (aName_nil hnp))] at hof
   rw [aName_nil hnp] at hof
   obtain ⟨q,hq,rfl,rfl⟩ := hrun _ hof
   repeat' (first | refine Kn rfl ?_ | ((first | refine Ka ?_ | refine G_regp rfl rfl ?_ | refine Kb ?_ | refine Kc ?_ | refine Kd ?_ | refine Ke ?_); simp only [f29_r22,f29_r32,go_sem]) | refine Kf ?_ | refine Kg ?_ | refine ⟨_,c1,Kg ?_⟩ | refine ⟨_,⟨c1,rfl⟩,Kg ?_⟩ | refine ⟨_,⟨Kq _,(by first | exact map_at hx | (rw [Int.toNat_natCast]; exact map_at hx)),rfl⟩,Kg ?_⟩ | refine ⟨_,⟨Kq _,(by first | exact map_at hn | (rw [Int.toNat_natCast]; exact map_at hn)),rfl⟩,Kg ?_⟩ | refine ⟨_,metM_put met m,Kg ?_⟩ | (refine Kp (fun _ => ?_) (fun _ => ?_) <;> try (exfalso; omega)))
   refine G_row0c 6 6 7 (by decide) rfl rfl ?_
   simp only [go_sem]
   refine Kj (fr 66 [(1,.one (.d (gBx g))),(4,.one (.ptr 3 0)),(6,.one (.ptr 4 0)),(8,.one (.ptr 6 0)),(50,.one (.d (.sl (ints x.kids)))),(51,vi x.kids.length),(52,vi (0 : Nat))]) (by (simp only [go_sem]; repeat' (first | refine Kp ?_ ?_ | exact Or.inl rfl | exact Or.inr rfl | rfl))) ?_
   refine Km (fun mz sz => ∃ j : Nat,j <= x.kids.length /\ mz = x.kids.length - j /\ (0 <= j) /\ sz = ⟨fr 66 [(1,.one (.d (gBx g))),(4,.one (.ptr 3 0)),(6,.one (.ptr 4 0)),(8,.one (.ptr 6 0)),(50,.one (.d (.sl (ints x.kids)))),(51,vi x.kids.length),(52,vi j)],[tAn a,tMb,.map (metM ((ofL (ofF g a f) (x.kids.take j) (metP met m)).getD ([],[])).2),.cells [tClo g],_,_,.cells [.d (.int .i64 x.k),.d (.str _),.d (.int .i64 x.x.k),.d (.int .i64 x.x.n),.d (.str x.x.s),.d (.sl (scs x.keys)),.own 7 j],.row 7 j (trs ((ofL (ofF g a f) (x.kids.take j) (metP met m)).getD ([],[])).1)]⟩) (x.kids.length) ⟨0,Nat.zero_le _,(Nat.sub_zero _).symm,?_,rfl⟩ ?_
   ·exact Nat.zero_le _
   rintro _ _ ⟨j,hj,rfl,-,rfl⟩
   simp only [go_sem]
   by_cases hjl : j < x.kids.length
   ·obtain ⟨c,hc⟩ := at_lt hjl
    obtain ⟨r,hr⟩ := ofL_take hq j
    obtain ⟨r2,hr2⟩ := ofL_take hq (j + 1)
    have hsn := hr2
    rw [<- take_snoc hc,ofL_snoc,hr,Option.bind_some] at hsn
    obtain ⟨p,hp,rfl⟩ := Option.map_eq_some_iff.1 hsn
    rw [hr,Option.getD_some]
    have hlen := ofL_len hr
    have hcall := ih c r.2 p.2 p.1 hp
    repeat' (first | refine Kn rfl ?_ | ((first | refine Ka ?_ | refine G_regp rfl rfl ?_ | refine Kb ?_ | refine Kc ?_ | refine Kd ?_ | refine Ke ?_); simp only [f29_r22,f29_r32,go_sem]) | refine Kf ?_ | refine Kg ?_ | refine ⟨_,⟨Kq _,(by first | exact map_at hc | (rw [Int.toNat_natCast]; exact map_at hc)),rfl⟩,Kg ?_⟩ | (refine Kp (fun _ => ?_) (fun _ => ?_) <;> try (exfalso; omega)))
    refine ⟨[0,1,2,3],p.1.v,[tAn a,tMb,.map (metM p.2),.cells [tClo g],.cells p.1.as],⟨(by simp only [CallR,rnVs,rnV,rnA,rnAs,rn0,rn0s,posN,rnCs,rnC,getC,List.isEmpty_nil,metM_refs,reduceCtorEq,↓reduceIte,Qa,Qb,Qc,Qd,Qe,Qf,Qg,Qh,Qi,Qj,Qk,Ql,Qm,Qn,Qo,Qp,Qq,Qr]; simp only [go_sem]; exact ⟨f29_ok,hcall⟩),?_⟩,Kg ?_⟩
    ·simp only [bkO,bkC,metM_refs]
     simp only [keepsFirm,Ch.firm,go_sem]
     all_goals trace_state
    simp only [bkO,bkC,metM_refs]
    simp only [go_sem]
    have hp1 : (r.1.length + 1) * 104 <= 140737488355328 := by rw [hlen,List.length_take]; omega
    have hp2 : r.1.length + 1 < lenMax := by rw [hlen,List.length_take]; unfold lenMax; omega
    have hik : inK .i64 ((j : Int) + 1) := by simp [inK,IntKind.min,IntKind.max,IntKind.signed,IntKind.bits]; omega
    repeat' (first | refine Kn rfl ?_ | ((first | refine Ka ?_ | refine G_regp rfl rfl ?_ | refine Kb ?_ | refine Kc ?_ | refine Kd ?_ | refine Ke ?_); simp only [f29_r22,f29_r32,List.length_map,go_sem]) | refine Kf ?_ | refine Kg ?_ | refine ⟨by simp,hp1,hp2,?_⟩ | refine ⟨hik,?_⟩ | (refine Kp (fun _ => ?_) (fun _ => ?_) <;> try (exfalso; omega)))
    refine Kj (fr 66 [(1,.one (.d (gBx g))),(4,.one (.ptr 3 0)),(6,.one (.ptr 4 0)),(8,.one (.ptr 6 0)),(50,.one (.d (.sl (ints x.kids)))),(51,vi x.kids.length),(52,vi (j + 1))]) (by (simp only [go_sem]; repeat' (first | refine Kp ?_ ?_ | exact Or.inl rfl | exact Or.inr rfl | rfl))) ?_
    refine Kk 8 (by simp only [List.length_nil,List.length_cons]; decide) (by simp only [go_sem]) (by simp only [List.take_succ_cons,List.take_zero,List.all_cons,List.all_nil,metM_refs]; try simp only [go_sem]) ?_
    simp only [go_sem]
    refine Kl ⟨x.kids.length - (j + 1),by omega,j + 1,by omega,rfl,?_,(by rw [hr2,Option.getD_some]; simp [trs,Tr.ds_eq])⟩
    exact Nat.zero_le _
   ·obtain rfl : x.kids.length = j := by omega
    rw [List.take_length,hq,Option.getD_some]
    repeat' (first | refine Kn rfl ?_ | ((first | refine Ka ?_ | refine G_regp rfl rfl ?_ | refine Kb ?_ | refine Kc ?_ | refine Kd ?_ | refine Ke ?_); simp only [f29_r22,f29_r32,go_sem]) | refine Kf ?_ | refine Kg ?_ | (refine Kp (fun _ => ?_) (fun _ => ?_) <;> try (exfalso; omega)))
    refine G_freeze 7 ?_
    simp only [frzS,getC,List.map_cons,List.map_nil,metM_froz]
    simp only [go_sem]
    refine Kj (fr 66 [(6,.one (.ptr 4 0))]) (by (simp only [go_sem]; repeat' (first | refine Kp ?_ ?_ | exact Or.inl rfl | exact Or.inr rfl | rfl))) ?_
    refine Kk 5 (by simp only [List.length_nil,List.length_cons]; decide) (by simp only [go_sem]) (by simp only [List.take_succ_cons,List.take_zero,List.all_cons,List.all_nil,metM_refs]; simp only [go_sem]) ?_
    simp only [go_sem]
    repeat' (first | refine Kn rfl ?_ | ((first | refine Ka ?_ | refine G_regp rfl rfl ?_ | refine Kb ?_ | refine Kc ?_ | refine Kd ?_ | refine Ke ?_); simp only [f29_r22,f29_r32,go_sem]) | refine Kf ?_ | refine Kg ?_ | (refine Kp (fun _ => ?_) (fun _ => ?_) <;> try (exfalso; omega)) | ((first | refine Kh ?_ | refine Ki rfl ?_); simp only [f29_r22,f29_r32,or_self,Qs,Qt,Qu,Qv,Qw,Qx,Qy,Qz,Za,go_sem]))
    all_goals exact ⟨⟨rfl,rfl,rfl,rfl,rfl,rfl,rfl⟩,rfl⟩
abbrev Tr0 : Tr := .mk 0 ⟨#[]⟩ ⟨0,0,⟨#[]⟩⟩ [] []
theorem tree_bad (h : Env gp) {g : Gr} (hs : Small g) (hn : ¬ (chk g = none /\ g = tidyG g)) : Does QP gp 11 [g.v] (.tup [Tr0.v,vi 72]) := by
 have c1 := tidy_is h g hs
 rw [decide_eq_false hn] at c1
 refine f11_in ?_
 simp only [go_sem]
 repeat' (first | refine Kn rfl ?_ | ((first | refine Ka ?_ | refine G_regp rfl rfl ?_ | refine Kb ?_ | refine Kc ?_ | refine Kd ?_ | refine Ke ?_); simp only [f11_r35,go_sem]) | refine Kf ?_ | refine Kg ?_ | refine ⟨_,c1,Kg ?_⟩ | refine ⟨_,⟨c1,rfl⟩,Kg ?_⟩ | (refine Kp (fun _ => ?_) (fun _ => ?_) <;> try (exfalso; omega)) | ((first | refine Kh ?_ | refine Ki rfl ?_); simp only [f11_r35,or_self,Qs,Qt,Qu,Qv,Qw,Qx,Qy,Qz,Za,go_sem]))
 exact ⟨rfl,rfl,rfl,rfl,rfl,rfl,rfl⟩
theorem ancN_le {g : Gr} {us : List Int} : ∀ i,(ancN g us i).2 <= i /\ ∀ n ∈ (ancN g us i).1,n <= (i : Int)
 | 0 => by simp [ancN]
 | i + 1 => by
  obtain ⟨h1,h2⟩ := ancN_le (g := g) (us := us) i
  simp only [ancN]
  split
  ·split
   ·refine ⟨by simp only; omega,fun n hn => ?_⟩
    rcases List.mem_append.1 hn with hn | hn
    ·have := h2 n hn; omega
    ·simp at hn; subst hn; omega
   ·refine ⟨by simp only; omega,fun n hn => ?_⟩
    rcases List.mem_append.1 hn with hn | hn
    ·have := h2 n hn; omega
    ·simp at hn; subst hn; omega
  ·exact ⟨by omega,fun n hn => by have := h2 n hn; omega⟩
def deepOK (g : Gr) : Prop := ∀ (i : Nat) (x : Nd) (d : Int),g.l[i]? = some x -> (depL g)[i]? = some d -> d <= 24 /\ (d = 24 -> x.kids = [])
theorem tree_ok (h : Env18 gp ua) {g : Gr} (hg : Tdy g) (hd : deepOK g) {f : Nat} {t : Tr} {met : List Int} (hof : ofF g (ancL g) f 0 [] = some (t,met)) : Does QP gp 11 [g.v] (.tup [t.v,vi 0]) := by
 have c1 := tidy_is h.e g hg.good.s
 rw [decide_eq_true ⟨hg.good.c,hg.self⟩] at c1
 have c2 := depths_g h.e hg
 have c3 := anchors_g h.e hg
 have hdl := hg.dep_len
 have hlen := hg.good.len
 have hanc : ∀ n ∈ ancL g,n <= 1000 := fun n hn => by have := (ancN_le (g := g) (us := usesL g) g.l.length).2 n hn; omega
 refine f11_in ?_
 simp only [go_sem]
 repeat' (first | refine Kn rfl ?_ | ((first | refine Ka ?_ | refine G_regp rfl rfl ?_ | refine Kb ?_ | refine Kc ?_ | refine Kd ?_ | refine Ke ?_); simp only [f11_r35,go_sem]) | refine Kf ?_ | refine Kg ?_ | refine ⟨_,c1,Kg ?_⟩ | refine ⟨_,⟨c1,rfl⟩,Kg ?_⟩ | refine ⟨_,c2,Kg ?_⟩ | refine ⟨_,⟨c2,rfl⟩,Kg ?_⟩ | refine ⟨_,c3,Kg ?_⟩ | refine ⟨_,⟨c3,rfl⟩,Kg ?_⟩ | (refine Kp (fun _ => ?_) (fun _ => ?_) <;> try (exfalso; omega)))
 refine Kj (fr 57 [(1,.one (.d (gBx g))),(2,.one (.ptr 0 0)),(3,vi 0),(21,.one (.d (.sl (ints (depL g))))),(22,vi (depL g).length),(23,vi (0 : Nat))]) (by (simp only [go_sem]; repeat' (first | refine Kp ?_ ?_ | exact Or.inl rfl | exact Or.inr rfl | rfl))) ?_
 refine Km (fun mz sz => ∃ i : Nat,i <= (depL g).length /\ mz = (depL g).length - i /\ (0 <= i) /\ sz = ⟨fr 57 [(1,.one (.d (gBx g))),(2,.one (.ptr 0 0)),(3,vi 0),(21,.one (.d (.sl (ints (depL g))))),(22,vi (depL g).length),(23,vi i)],[_]⟩) ((depL g).length) ⟨0,Nat.zero_le _,(Nat.sub_zero _).symm,?_,rfl⟩ ?_
 ·exact Nat.zero_le _
 rintro _ _ ⟨i,hi,rfl,-,rfl⟩
 simp only [go_sem]
 by_cases hil : i < (depL g).length
 ·obtain ⟨d,hdi⟩ := at_lt hil
  obtain ⟨x,hx⟩ := at_lt (l := g.l) (i := i) (by omega)
  obtain ⟨d1,d2⟩ := hd i x d hx hdi
  have hik : inK .i64 ((i : Int) + 1) := by simp [inK,IntKind.min,IntKind.max,IntKind.signed,IntKind.bits]; omega
  have e0 : decide (d > 24) = false := by simp; omega
  by_cases h24 : d = 24
  case' pos =>
   have e1 : (d == 24) = true := by simp [h24]
   have e2 : decide ((x.kids.length : Int) > 0) = false := by simp [d2 h24]
   repeat' (first | refine Kn rfl ?_ | ((first | refine Ka ?_ | refine G_regp rfl rfl ?_ | refine Kb ?_ | refine Kc ?_ | refine Kd ?_ | refine Ke ?_); simp only [f11_r35,e0,e1,e2,go_sem]) | refine Kf ?_ | refine Kg ?_ | refine ⟨_,⟨Kq _,(by first | exact map_at hdi | (rw [Int.toNat_natCast]; exact map_at hdi)),rfl⟩,Kg ?_⟩ | refine ⟨_,⟨Kq _,(by first | exact map_at hx | (rw [Int.toNat_natCast]; exact map_at hx)),rfl⟩,Kg ?_⟩ | refine ⟨hik,?_⟩ | (refine Kp (fun _ => ?_) (fun _ => ?_) <;> try (exfalso; omega)))
  case' neg =>
   have e1 : (d == 24) = false := by simp [h24]
   repeat' (first | refine Kn rfl ?_ | ((first | refine Ka ?_ | refine G_regp rfl rfl ?_ | refine Kb ?_ | refine Kc ?_ | refine Kd ?_ | refine Ke ?_); simp only [f11_r35,e0,e1,go_sem]) | refine Kf ?_ | refine Kg ?_ | refine ⟨_,⟨Kq _,(by first | exact map_at hdi | (rw [Int.toNat_natCast]; exact map_at hdi)),rfl⟩,Kg ?_⟩ | refine ⟨_,⟨Kq _,(by first | exact map_at hx | (rw [Int.toNat_natCast]; exact map_at hx)),rfl⟩,Kg ?_⟩ | refine ⟨hik,?_⟩ | (refine Kp (fun _ => ?_) (fun _ => ?_) <;> try (exfalso; omega)))
  all_goals
   refine Kj (fr 57 [(1,.one (.d (gBx g))),(2,.one (.ptr 0 0)),(3,vi 0),(21,.one (.d (.sl (ints (depL g))))),(22,vi (depL g).length),(23,vi (i + 1))]) (by (simp only [go_sem]; repeat' (first | refine Kp ?_ ?_ | exact Or.inl rfl | exact Or.inr rfl | rfl))) ?_
   refine Kl ⟨(depL g).length - (i + 1),by omega,i + 1,by omega,rfl,?_,rfl⟩
   exact Nat.zero_le _
 ·obtain rfl : (depL g).length = i := by omega
  have hcall := tree1_c h hg.good.s hanc f g.root [] met t (by rw [hg.root]; exact hof)
  repeat' (first | refine Kn rfl ?_ | ((first | refine Ka ?_ | refine G_regp rfl rfl ?_ | refine Kb ?_ | refine Kc ?_ | refine Kd ?_ | refine Ke ?_); simp only [f11_r35,go_sem]) | refine Kf ?_ | refine Kg ?_ | refine ⟨_,c3,Kg ?_⟩ | refine ⟨_,⟨c3,rfl⟩,Kg ?_⟩ | (refine Kp (fun _ => ?_) (fun _ => ?_) <;> try (exfalso; omega)))
  refine Or.inr (Or.inr ⟨[1,3,2,4],t.v,[tAn (ancL g),tMb,.map (metM met),.cells [tClo g],.cells t.as],(by simp only [CallR,rnVs,rnV,rnA,rnAs,rn0,rn0s,posN,rnCs,rnC,getC,List.isEmpty_nil,reduceCtorEq,↓reduceIte,Qa,Qb,Qc,Qd,Qe,Qf,Qg,Qh,Qi,Qj,Qk,Ql,Qm,Qn,Qo,Qp,Qq,Qr]; simp only [go_sem]; exact ⟨f29_ok,hcall⟩),Kg ?_⟩)
  simp only [bkO,bkC,metM_refs]
  simp only [go_sem]
  repeat' (first | refine Kn rfl ?_ | ((first | refine Ka ?_ | refine G_regp rfl rfl ?_ | refine Kb ?_ | refine Kc ?_ | refine Kd ?_ | refine Ke ?_); simp only [f11_r35,go_sem]) | refine Kf ?_ | refine Kg ?_ | (refine Kp (fun _ => ?_) (fun _ => ?_) <;> try (exfalso; omega)) | ((first | refine Kh ?_ | refine Ki rfl ?_); simp only [f11_r35,or_self,Qs,Qt,Qu,Qv,Qw,Qx,Qy,Qz,Za,go_sem]))
  all_goals trace_state
variable {gp : Heap}
def cutTr : Nat -> Tr -> Tr
 | 0,t => .mk t.k (cut1 t.name) t.x.cut ((t.keys.take 8).map Sc.cut) []
 | d + 1,t => .mk t.k (cut1 t.name) t.x.cut ((t.keys.take 8).map Sc.cut) ((t.kids.take 8).map (cutTr d))
def cutK : Nat -> Tr -> List Tr
 | 0,_ => []
 | d + 1,t => (t.kids.take 8).map (cutTr d)
def qN (s : ByteArray) : ByteArray := if s = ⟨#[]⟩ then s else ⟨#[113]⟩ ++ s
mutual
def ahT : Tr -> Tr
 | .mk k n x keys kids => .mk k (qN n) x keys (ahL kids)
def ahL : List Tr -> List Tr
 | [] => []
 | t :: l => ahT t :: ahL l
end
theorem texts18 (l m : List ByteArray) : Does QP gp 23 [.one (.d (.sl (strs l))),.one (.d (.sl (strs m)))] (vb (decide (l = m))) := by
 refine f23_in ?_
 simp only [go_sem]
 repeat' (first | refine Kn rfl ?_ | ((first | refine Ka ?_ | refine G_regp rfl rfl ?_ | refine Kb ?_ | refine Kc ?_ | refine Kd ?_ | refine Ke ?_); simp only [go_sem]) | refine Kf ?_ | refine Kg ?_ | refine Kp (fun _ => ?_) (fun _ => ?_) | ((first | refine Kh ?_ | refine Ki rfl ?_); simp only [or_self,Qs,Qt,Qu,Qv,Qw,Qx,Qy,Qz,Za,go_sem]))
 ·rename_i h; simp [ne_len h]
 ·rename_i h
  have hlen : l.length = m.length := by simp at h; omega
  refine G_len 0 rfl fun hl => ?_
  refine Kj (fr 26 [(0,.one (.d (.sl (strs l)))),(1,.one (.d (.sl (strs m)))),(5,vi (0 : Nat))]) (by (simp only [go_sem]; repeat' (first | refine Kp ?_ ?_ | exact Or.inl rfl | exact Or.inr rfl | rfl))) ?_
  refine Km (fun mz sz => ∃ i : Nat,i <= l.length /\ mz = l.length - i /\ (l.take i = m.take i) /\ sz = ⟨fr 26 [(0,.one (.d (.sl (strs l)))),(1,.one (.d (.sl (strs m)))),(5,vi i)],[]⟩) (l.length) ⟨0,Nat.zero_le _,(Nat.sub_zero _).symm,?_,rfl⟩ ?_
  ·simp
  rintro _ _ ⟨i,hi,rfl,hz,rfl⟩
  simp only [List.length_map] at hl
  simp only [go_sem]
  by_cases hil : i < l.length
  ·obtain ⟨x,hx⟩ := at_lt hil
   obtain ⟨y,hy⟩ := at_lt (l := m) (i := i) (by omega)
   repeat' (first | refine Kn rfl ?_ | ((first | refine Ka ?_ | refine G_regp rfl rfl ?_ | refine Kb ?_ | refine Kc ?_ | refine Kd ?_ | refine Ke ?_); simp only [go_sem]) | refine Kf ?_ | refine Kg ?_ | refine ⟨_,⟨Kq _,(by first | exact map_at hx | (rw [Int.toNat_natCast]; exact map_at hx)),rfl⟩,Kg ?_⟩ | refine ⟨_,⟨Kq _,(by first | exact map_at hy | (rw [Int.toNat_natCast]; exact map_at hy)),rfl⟩,Kg ?_⟩ | refine Kp (fun _ => ?_) (fun _ => ?_) | ((first | refine Kh ?_ | refine Ki rfl ?_); simp only [or_self,Qs,Qt,Qu,Qv,Qw,Qx,Qy,Qz,Za,go_sem]))
   ·rename_i h; simp [ne_at hx hy (by simpa using h)]
   ·refine ⟨inK_nat hil hl,?_⟩
    rename_i h
    refine Kj (fr 26 [(0,.one (.d (.sl (strs l)))),(1,.one (.d (.sl (strs m)))),(5,vi (i + 1))]) (by (simp only [go_sem]; repeat' (first | refine Kp ?_ ?_ | exact Or.inl rfl | exact Or.inr rfl | rfl))) ?_
    refine Kl ⟨l.length - (i + 1),by omega,i + 1,by omega,rfl,?_,rfl⟩
    exact take_eq hz hx hy (by simpa using h)
   ·omega
  ·repeat' (first | refine Kn rfl ?_ | ((first | refine Ka ?_ | refine G_regp rfl rfl ?_ | refine Kb ?_ | refine Kc ?_ | refine Kd ?_ | refine Ke ?_); simp only [go_sem]) | refine Kf ?_ | refine Kg ?_ | refine Kp (fun _ => ?_) (fun _ => ?_) | ((first | refine Kh ?_ | refine Ki rfl ?_); simp only [or_self,Qs,Qt,Qu,Qv,Qw,Qx,Qy,Qz,Za,go_sem]))
   ·omega
   ·rw [List.take_of_length_le (by omega),List.take_of_length_le (by omega)] at hz
    simp [hz]
def smallG18 (g : Gr) (n : Int) : Gr := if g.l.length > n then ⟨-1,[]⟩ else g.cut
theorem small18 (g : Gr) (n : Int) : Does QP gp 24 [g.v,vi n] (smallG18 g n).v := by
 refine f24_in ?_
 simp only [go_sem]
 by_cases h : (g.l.length : Int) > n
 ·have e : smallG18 g n = ⟨-1,[]⟩ := by unfold smallG18; rw [if_pos h]
  rw [e]
  repeat' (first | refine Kn rfl ?_ | ((first | refine Ka ?_ | refine G_regp rfl rfl ?_ | refine Kb ?_ | refine Kc ?_ | refine Kd ?_ | refine Ke ?_); simp only [go_sem]) | refine Kf ?_ | refine Kg ?_ | (refine Kp (fun _ => ?_) (fun _ => ?_) <;> try (exfalso; omega)) | ((first | refine Kh ?_ | refine Ki rfl ?_); simp only [or_self,Qs,Qt,Qu,Qv,Qw,Qx,Qy,Qz,Za,go_sem]))
  all_goals exact ⟨rfl,rfl⟩
 ·have e : smallG18 g n = g.cut := by unfold smallG18; rw [if_neg h]
  rw [e]
  repeat' (first | refine Kn rfl ?_ | ((first | refine Ka ?_ | refine G_regp rfl rfl ?_ | refine Kb ?_ | refine Kc ?_ | refine Kd ?_ | refine Ke ?_); simp only [go_sem]) | refine Kf ?_ | refine Kg ?_ | refine ⟨_,cut_gr g,Kg ?_⟩ | refine ⟨_,⟨cut_gr g,rfl⟩,Kg ?_⟩ | (refine Kp (fun _ => ?_) (fun _ => ?_) <;> try (exfalso; omega)) | ((first | refine Kh ?_ | refine Ki rfl ?_); simp only [or_self,Qs,Qt,Qu,Qv,Qw,Qx,Qy,Qz,Za,go_sem]))
abbrev five : Sc := ⟨2,5,⟨#[]⟩⟩
abbrev g18 : Gr := ⟨0,[⟨1,⟨0,0,⟨#[]⟩⟩,[],[0,1]⟩,⟨0,five,[],[]⟩]⟩
abbrev tRef (n : ByteArray) : Tr := .mk 3 n ⟨0,0,⟨#[]⟩⟩ [] []
abbrev tOne (x : Sc) : Tr := .mk 0 ⟨#[]⟩ x [] []
abbrev tSeq (n : ByteArray) (l : List Tr) : Tr := .mk 1 n ⟨0,0,⟨#[]⟩⟩ [] l
abbrev tMap (keys : List Sc) (l : List Tr) : Tr := .mk 2 ⟨#[]⟩ ⟨0,0,⟨#[]⟩⟩ keys l
abbrev t18 : Tr := tSeq ⟨#[120]⟩ [tRef ⟨#[120]⟩,tOne five]
abbrev u18 : Tr := tSeq ⟨#[97,49]⟩ [tRef ⟨#[97,49]⟩,tOne five]
theorem small_of18 {g : Gr} (h : (g.l.all fun x => decide (x.keys.length <= 12 /\ x.kids.length <= 12)) = true) : Small g := by
 intro x hx
 have := List.all_eq_true.1 h x hx
 simpa using this
theorem g18_good : Good g18 := ⟨by kernel_rfl,small_of18 (by kernel_rfl)⟩
theorem g18_0 : kd g18 0 = [0,1] := by kernel_rfl
theorem g18_1 : kd g18 1 = [] := by kernel_rfl
theorem g18_walk : walkL g18 = [0,1] := by
 have : Walks (kd g18) [0] [] [0,1] := by
  refine .step (by simp) ?_
  rw [g18_0]
  refine .skip (by simp) (.step (by simp) ?_)
  rw [g18_1]
  exact .nil _
 exact this.eq
theorem g18_tidy' : (⟨0,[0,1].map fun i => tidyN [0,1] (ndAt g18.l i)⟩ : Gr) = g18 := by kernel_rfl
theorem g18_tidy : tidyG g18 = g18 := by
 have : tidyG g18 = ⟨0,[0,1].map fun i => tidyN [0,1] (ndAt g18.l i)⟩ := by rw [<- g18_walk]; rfl
 rw [this,g18_tidy']
theorem g18_tdy : Tdy g18 := by have := g18_good.tdy; rwa [g18_tidy] at this
theorem g18_anc : ancL g18 = [1,0] := by kernel_rfl
theorem g18_dep : depL g18 = [1,2] := by
 have h0 : DepW (kd g18) 1 [((0 : Nat) : Int)] [0,0] [1,2] := by
  refine .step (x := 0) rfl (by omega) (b := [1,2]) ?_ (.nil _ _)
  rw [show kd g18 ((0 : Nat) : Int) = [((0 : Nat) : Int),((1 : Nat) : Int)] from g18_0]
  refine .skip (x := 1) rfl (by omega) (.step (x := 0) rfl (by omega) (b := [1,2]) ?_ (.nil _ _))
  rw [show kd g18 ((1 : Nat) : Int) = [] from g18_1]
  exact .nil _ _
 exact h0.eq
theorem g18_deep : deepOK g18 := by
 intro i x d hx hd
 rw [g18_dep] at hd
 match i,hd with
 | 0,h => simp at h; subst h; omega
 | 1,h => simp at h; subst h; omega
theorem aName_1 : aName 1 = ⟨#[97,49]⟩ := by
 unfold aName
 rw [if_pos (by omega),show Lib.itoa 1 = [49] from by unfold Lib.itoa; rw [if_neg (by omega)]; show Lib.decDigits 1 = [49]; unfold Lib.decDigits; simp]
 rfl
theorem g18_of : ofF g18 (ancL g18) 4 0 [] = some (u18,[0,1]) := by
 rw [g18_anc]
 have a0 : aName 0 = ⟨#[]⟩ := by unfold aName; rw [if_neg (by omega)]
 simp [ofF,ofL,aName_1,metP,a0]
theorem t18_graph : graphT rightS t18 = (g18,0) := by kernel_rfl
theorem ref_graph : graphT rightS (tRef ⟨#[120]⟩) = (⟨0,[]⟩,100) := by kernel_rfl
theorem map_graph : graphT rightS (tMap [five,five] [Tr0,Tr0]) = (⟨0,[]⟩,101) := by kernel_rfl
theorem t18_names : namesT t18 = [⟨#[120]⟩] := by kernel_rfl
theorem shown18_ok (h : Env18 gp ua) : Does QP gp 9 [] (vb true) := by
 have c1 := graph18 h t18 (by simp [smT,smL])
 have c2 := graph18 h (tRef ⟨#[120]⟩) (by simp [smT,smL])
 have c3 := graph18 h (tMap [five,five] [Tr0,Tr0]) (by simp [smT,smL])
 have c4 := tree_ok h g18_tdy g18_deep g18_of
 have c5 := tree_bad h.e (g := ⟨0,[]⟩) (by intro x hx; cases hx) (fun hh => by have := hh.1; revert this; decide)
 have c6 := same_gr (gp := gp) g18 g18
 have c7 := names18 (gp := gp) t18 (by simp [flatT,flatL])
 have c8 := texts18 (gp := gp) [⟨#[120]⟩] [⟨#[120]⟩]
 rw [t18_graph] at c1
 rw [ref_graph] at c2
 rw [map_graph] at c3
 rw [t18_names] at c7
 simp only [decide_true] at c6 c8
 refine f9_in ?_
 simp only [go_sem]
 have hl1 : (2 : Int) * ((104 : Nat) : Int) <= 140737488355328 := by decide
 have hl2 : (2 : Int) < (lenMax : Int) := by unfold lenMax; decide
 have e1 : u18.name = ⟨#[97,49]⟩ := rfl
 have e2 : u18.kids = [tRef ⟨#[97,49]⟩,tOne five] := rfl
 have e3 : (tRef ⟨#[97,49]⟩).ds = [.int .i64 3,.str ⟨#[97,49]⟩,.int .i64 0,.int .i64 0,.str ⟨#[]⟩,.sl [],.sl []] := by rw [Tr.ds_eq]; rfl
 repeat' (first | refine Kn rfl ?_ | ((first | refine Ka ?_ | refine G_regp rfl rfl ?_ | refine Kb ?_ | refine Kc ?_ | refine Kd ?_ | refine Ke ?_); simp only [e1,e2,e3,go_sem]) | refine Kf ?_ | refine Kg ?_ | refine ⟨_,c1,Kg ?_⟩ | refine ⟨_,⟨c1,rfl⟩,Kg ?_⟩ | refine ⟨_,c2,Kg ?_⟩ | refine ⟨_,⟨c2,rfl⟩,Kg ?_⟩ | refine ⟨_,c3,Kg ?_⟩ | refine ⟨_,⟨c3,rfl⟩,Kg ?_⟩ | refine ⟨_,c4,Kg ?_⟩ | refine ⟨_,⟨c4,rfl⟩,Kg ?_⟩ | refine ⟨_,c5,Kg ?_⟩ | refine ⟨_,⟨c5,rfl⟩,Kg ?_⟩ | refine ⟨_,c6,Kg ?_⟩ | refine ⟨_,⟨c6,rfl⟩,Kg ?_⟩ | refine ⟨_,c7,Kg ?_⟩ | refine ⟨_,⟨c7,rfl⟩,Kg ?_⟩ | refine ⟨_,c8,Kg ?_⟩ | refine ⟨_,⟨c8,rfl⟩,Kg ?_⟩ | refine ⟨_,⟨rfl,rfl⟩,Kg ?_⟩ | refine ⟨hl1,hl2,?_⟩ | (refine Kp (fun _ => ?_) (fun _ => ?_) <;> try (exfalso; omega)))
 repeat' (first | refine Kn rfl ?_ | ((first | refine Ka ?_ | refine G_regp rfl rfl ?_ | refine Kb ?_ | refine Kc ?_ | refine Kd ?_ | refine Ke ?_); simp only [go_sem]) | refine Kf ?_ | refine Kg ?_ | (refine Kp (fun _ => ?_) (fun _ => ?_) <;> try (exfalso; omega)) | ((first | refine Kh ?_ | refine Ki rfl ?_); simp only [or_self,Qs,Qt,Qu,Qv,Qw,Qx,Qy,Qz,Za,go_sem]))
end Go.Fw.L07
