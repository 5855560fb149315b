/- Chapter 10,part 14: two graphs as one; which say the same. -/
import Derived.Test.YtejnfjophhnaeaaGreatDoorJc
import Derived.Test.YtejnfjophhnaeaaGreatDoorJd
set_option linter.all false
namespace Go.Fw.L07
open Go Go.Fw
open Go.Fw.Sh renaming intro -> Kg
open Go.Fw renaming G_reg -> Ka,G_regw -> Ka,VO_chk -> Kb,VO_go -> Kc,VO_gx -> Kd,G_cond -> Ke,VO_end -> Kf,G_fin -> Kh,G_ret -> Ki,G_weak -> Kj,G_drop -> Kk,G_again -> Kl,G_loop -> Km,Gx -> Kn,Gw -> Ko
open And renaming intro -> Kp
open Go.Proofs.Tryz renaming prog -> QP
open Nat renaming reduceAdd -> Qa,reduceSub -> Qb,reduceMul -> Qc,reduceLeDiff -> Qd,reduceLT -> Qe,reduceEqDiff -> Qf
open Int renaming reduceToNat -> Qg,reduceLT -> Qh,reduceLE -> Qi,reduceGT -> Qj,reduceGE -> Qk,reduceEq -> Ql,reduceNe -> Qm,reduceBEq -> Qn,reduceBNe -> Qo,reduceAdd -> Qp,reduceSub -> Qq,reduceNeg -> Qr
open Go.Fw.V.one renaming injEq -> Qs
open Go.Fw.V.agg renaming injEq -> Qt
open Go.Fw.V.tup renaming injEq -> Qu
open Go.Fw.A.d renaming injEq -> Qv
open Go.Fw.D.bool renaming injEq -> Qw
open Go.Fw.D.int renaming injEq -> Qx
open Go.Fw.D.str renaming injEq -> Qy
open Go.Fw.D.sl renaming injEq -> Qz
open List.cons renaming injEq -> Za
set_option maxRecDepth 4000
variable {gp : Heap}
theorem clone_nds (l : List Nd) (hl : l.length < 1000) : Tri QP gp 73 [.one (.d (.sl (nds l)))] [] fun r post => r = .one (.own 0 1) /\ post = [.row 6 1 (nds l)] := by
 refine f73_tri ?_
 simp only [go_sem]
 cases l with
 | nil =>
  refine G_sl0 0 rfl fun q c => ?_
  cases q with
  | none =>
   simp only [go_sem]
   repeat' (first | refine Kn rfl ?_ | ((first | refine Ka ?_ | refine Kb ?_ | refine Kc ?_ | refine Kd ?_ | refine Ke ?_); simp only [f73_r0,f73_r1,go_sem]) | refine Kf ?_ | refine Kg ?_ | refine Kp (fun _ => ?_) (fun _ => ?_) | ((first | refine Kh ?_ | refine Ki rfl ?_); simp only [f73_r0,f73_r1,or_self,Qs,Qt,Qu,Qv,Qw,Qx,Qy,Qz,Za,go_sem]))
   repeat' (first | refine Kn rfl ?_ | ((first | refine Ka ?_ | refine Kb ?_ | refine Kc ?_ | refine Kd ?_); simp only [f73_r2,go_sem]) | refine Kf ?_ | refine Kg ?_)
   refine G_row0v 2 6 1 (by decide) rfl ?_
   simp only [go_sem]
   repeat' (first | refine Kn rfl ?_ | ((first | refine Ka ?_ | refine Kb ?_ | refine Kc ?_ | refine Kd ?_ | refine Ke ?_); simp only [f73_r0,f73_r1,f73_r2,f73_r8,go_sem]) | refine Kf ?_ | refine Kg ?_ | refine Kp (fun _ => ?_) (fun _ => ?_) | ((first | refine Kh ?_ | refine Ki rfl ?_); simp only [f73_r0,f73_r1,f73_r2,f73_r8,or_self,Qs,Qt,Qu,Qv,Qw,Qx,Qy,Qz,Za,go_sem]))
  | some q =>
   simp only [go_sem]
   refine G_seq ?_
   repeat' (first | refine Kn rfl ?_ | ((first | refine Ka ?_ | refine Kb ?_ | refine Kc ?_ | refine Kd ?_ | refine Ke ?_); simp only [f73_r0,f73_r1,go_sem]) | refine Kf ?_ | refine Kg ?_ | refine Kp (fun _ => ?_) (fun _ => ?_) | ((first | refine Kh ?_ | refine Ki rfl ?_); simp only [f73_r0,f73_r1,or_self,Qs,Qt,Qu,Qv,Qw,Qx,Qy,Qz,Za,go_sem]))
   refine G_unraw 0 rfl ?_
   simp only [go_sem]
   repeat' (first | refine Kn rfl ?_ | ((first | refine Ka ?_ | refine Kb ?_ | refine Kc ?_ | refine Kd ?_ | refine Ke ?_); simp only [f73_r0,f73_r1,f73_r2,f73_r8,go_sem]) | refine Kf ?_ | refine Kg ?_ | refine Kp (fun _ => ?_) (fun _ => ?_) | ((first | refine Kh ?_ | refine Ki rfl ?_); simp only [f73_r0,f73_r1,f73_r2,f73_r8,or_self,Qs,Qt,Qu,Qv,Qw,Qx,Qy,Qz,Za,go_sem]))
   refine ⟨by simp,by simp [lenMax],?_⟩
   repeat' (first | refine Kn rfl ?_ | ((first | refine Ka ?_ | refine Kb ?_ | refine Kc ?_ | refine Kd ?_ | refine Ke ?_); simp only [f73_r0,f73_r1,f73_r2,f73_r8,go_sem]) | refine Kf ?_ | refine Kg ?_ | refine Kp (fun _ => ?_) (fun _ => ?_) | ((first | refine Kh ?_ | refine Ki rfl ?_); simp only [f73_r0,f73_r1,f73_r2,f73_r8,or_self,Qs,Qt,Qu,Qv,Qw,Qx,Qy,Qz,Za,go_sem]))
 | cons x l =>
  simp only [go_sem]
  repeat' (first | refine Kn rfl ?_ | ((first | refine Ka ?_ | refine Kb ?_ | refine Kc ?_ | refine Kd ?_ | refine Ke ?_); simp only [f73_r0,f73_r1,f73_r2,f73_r8,go_sem]) | refine Kf ?_ | refine Kg ?_ | refine Kp (fun _ => ?_) (fun _ => ?_) | ((first | refine Kh ?_ | refine Ki rfl ?_); simp only [f73_r0,f73_r1,f73_r2,f73_r8,or_self,Qs,Qt,Qu,Qv,Qw,Qx,Qy,Qz,Za,go_sem]))
  refine ⟨fun p hp => by
   rcases List.mem_cons.1 hp with rfl | hp
   ·rfl
   ·obtain ⟨_,_,rfl⟩ := List.mem_map.1 hp; rfl,by simp at hl ⊢; omega,by simp [lenMax] at hl ⊢; omega,?_⟩
  repeat' (first | refine Kn rfl ?_ | ((first | refine Ka ?_ | refine Kb ?_ | refine Kc ?_ | refine Kd ?_ | refine Ke ?_); simp only [f73_r0,f73_r1,f73_r2,f73_r8,go_sem]) | refine Kf ?_ | refine Kg ?_ | refine Kp (fun _ => ?_) (fun _ => ?_) | ((first | refine Kh ?_ | refine Ki rfl ?_); simp only [f73_r0,f73_r1,f73_r2,f73_r8,or_self,Qs,Qt,Qu,Qv,Qw,Qx,Qy,Qz,Za,go_sem]))
def shK (n : Int) (l : List Int) (j : Nat) : List Int := (l.take j).map (fun i => i + n) ++ l.drop j
theorem shK_len (n : Int) (l : List Int) (j : Nat) (h : j <= l.length) : (shK n l j).length = l.length := by simp [shK]; omega
theorem shK_at {n : Int} {l : List Int} {j : Nat} {x : Int} (h : l[j]? = some x) : (shK n l j)[j]? = some x := by
 have := (List.getElem?_eq_some_iff.1 h).1
 unfold shK
 rw [List.getElem?_append_right (by rw [List.length_map,List.length_take]; omega)]
 simp only [List.getElem?_drop,List.length_map,List.length_take]
 rw [show j + (j - min j l.length) = j by omega,h]
theorem shK_set {n : Int} {l : List Int} {j : Nat} {x : Int} (h : l[j]? = some x) : (ints (shK n l j)).set j [.int .i64 (x + n)] = ints (shK n l (j + 1)) := by
 have hi := (List.getElem?_eq_some_iff.1 h).1
 have : ints (shK n l j) = (ints ((l.take j).map (fun i => i + n))) ++ ([.int .i64 x] :: ints (l.drop (j + 1))) := by
  unfold shK
  rw [List.drop_eq_getElem_cons hi]
  have : l[j] = x := by rw [List.getElem?_eq_getElem hi] at h; exact Option.some.inj h
  simp [ints,this]
 rw [this,List.set_append_right _ _ (by simp [ints]; omega)]
 have hz : j - (ints ((l.take j).map (fun i => i + n))).length = 0 := by simp [ints]; omega
 rw [hz,List.set_cons_zero]
 unfold shK
 rw [List.take_succ,h]
 simp [ints]
def joinG (g h : Gr) : Gr := ⟨g.root,joinL g.l h.l⟩
set_option maxHeartbeats 1000000 in
theorem joined10 {g h : Gr} (hg : Good g) (hh : Good h) : Does QP gp 41 [g.v,h.v] (joinG g h).v := by
 have hgl := hg.len
 have hhl := hh.len
 have hkin : ∀ x ∈ h.l,∀ k ∈ x.kids,0 <= k /\ k < 200 := fun x hx k hk => by
  obtain ⟨n,hn⟩ := List.getElem?_of_mem hx
  obtain ⟨h1,h2⟩ := at_inL hn
  have := (kidsOf_perm (hh.node h1) k).2 (by rw [h2]; exact hk)
  have := hh.kid n k this
  omega
 have hJl : (joinL g.l h.l).length = g.l.length + h.l.length := join_len
 have hJa : ∀ (i : Nat) (x : Nd),h.l[i]? = some x -> (joinL g.l h.l)[g.l.length + i]? = some (shiftN g.l.length x) := fun i x hx => by
  unfold joinL
  rw [List.getElem?_append_right (by omega),Nat.add_sub_cancel_left,List.getElem?_map,hx]; rfl
 have hJ0 : (joinL g.l h.l).take (g.l.length + 0) = g.l := by unfold joinL; simp
 refine f41_in ?_
 simp only [go_sem]
 repeat' (first | refine Kn rfl ?_ | ((first | refine Ka ?_ | refine Kb ?_ | refine Kc ?_ | refine Kd ?_ | refine Ke ?_); simp only [f41_r0,f41_r1,f41_r2,f41_r3,f41_r7,f41_r8,f41_r9,f41_r10,f41_r14,f41_r15,f41_r18,f41_r25,f41_r30,f41_r37,go_sem]) | refine Kf ?_ | refine Kg ?_ | refine Kp (fun _ => ?_) (fun _ => ?_) | ((first | refine Kh ?_ | refine Ki rfl ?_); simp only [f41_r0,f41_r1,f41_r2,f41_r3,f41_r7,f41_r8,f41_r9,f41_r10,f41_r14,f41_r15,f41_r18,f41_r25,f41_r30,f41_r37,or_self,Qs,Qt,Qu,Qv,Qw,Qx,Qy,Qz,Za,go_sem]))
 refine ⟨.one (.own 0 1),[.row 6 1 (nds g.l)],(by simp only [CallR,rnVs,rnV,rnA,rnAs,rn0,rn0s,posN,rnCs,rnC,getC,List.isEmpty_nil,reduceCtorEq,↓reduceIte,Qa,Qb,Qc,Qd,Qe,Qf,Qg,Qh,Qi,Qj,Qk,Ql,Qm,Qn,Qo,Qp,Qq,Qr]; simp only [go_sem]; exact ⟨f73_ok,clone_nds g.l (by omega)⟩),Sh.intro ?_⟩
 simp only [go_sem]
 repeat' (first | refine Kn rfl ?_ | ((first | refine Ka ?_ | refine Kb ?_ | refine Kc ?_ | refine Kd ?_ | refine Ke ?_); simp only [f41_r0,f41_r1,f41_r2,f41_r3,f41_r7,f41_r8,f41_r9,f41_r10,f41_r14,f41_r15,f41_r18,f41_r25,f41_r30,f41_r37,go_sem]) | refine Kf ?_ | refine Kg ?_ | refine Kp (fun _ => ?_) (fun _ => ?_) | ((first | refine Kh ?_ | refine Ki rfl ?_); simp only [f41_r0,f41_r1,f41_r2,f41_r3,f41_r7,f41_r8,f41_r9,f41_r10,f41_r14,f41_r15,f41_r18,f41_r25,f41_r30,f41_r37,or_self,Qs,Qt,Qu,Qv,Qw,Qx,Qy,Qz,Za,go_sem]))
 refine Kj (fr 51 [(2,.one (.d (.bx [.int .i64 g.root,.sl (nds g.l)]))),(4,.one (.ptr 0 0)),(5,.one (.ptr 3 0)),(16,.one (.d (.sl (nds h.l)))),(17,vi h.l.length),(18,vi ((0 : Nat) : Int))]) (by (simp only [go_sem]; repeat' (first | refine Kp ?_ ?_ | exact Or.inl rfl | exact Or.inr rfl | rfl))) ?_
 rw [show Ch.row 6 1 (nds g.l) = Ch.row 6 (1 + 0) (nds ((joinL g.l h.l).take (g.l.length + 0))) from by rw [hJ0]]
 refine Kj (fr 51 [(2,.one (.d (.bx [.int .i64 g.root,.sl (nds g.l)]))),(4,.one (.ptr 0 0)),(5,.one (.ptr 3 0)),(16,.one (.d (.sl (nds h.l)))),(17,vi h.l.length),(18,vi (0 : Nat))]) (by (simp only [go_sem]; repeat' (first | refine Kp ?_ ?_ | exact Or.inl rfl | exact Or.inr rfl | rfl))) ?_
 refine Km (fun mz sz => ∃ i : Nat,i <= h.l.length /\ mz = h.l.length - i /\ (0 <= i) /\ sz = ⟨fr 51 [(2,.one (.d (.bx [.int .i64 g.root,.sl (nds g.l)]))),(4,.one (.ptr 0 0)),(5,.one (.ptr 3 0)),(16,.one (.d (.sl (nds h.l)))),(17,vi h.l.length),(18,vi i)],[.cells [.d (.int .i64 0),.nil],.row 6 (1 + i) (nds ((joinL g.l h.l).take (g.l.length + i))),.dead,.cells [.d (.int .i64 g.root),.own 1 (1 + i)]]⟩) (h.l.length) ⟨0,Nat.zero_le _,(Nat.sub_zero _).symm,?_,rfl⟩ ?_
 ·exact Nat.zero_le _
 rintro _ _ ⟨i,hi,rfl,-,rfl⟩
 simp only [go_sem]
 by_cases hil : i < h.l.length
 ·obtain ⟨x,hx⟩ := at_lt hil
  have hxm := List.mem_of_getElem? hx
  have e1 : decide ((i : Int) < (h.l.length : Int)) = true := decide_eq_true (by omega)
  have hkl := (hh.s x hxm).2
  have hsn : nds ((joinL g.l h.l).take (g.l.length + i)) ++ [[.int .i64 x.k,.int .i64 x.x.k,.int .i64 x.x.n,.str x.x.s,.sl (scs x.keys),.sl (ints (x.kids.map fun i => i + (g.l.length : Int)))]] = nds ((joinL g.l h.l).take (g.l.length + (i + 1))) := nds_snoc (hJa i x hx)
  refine G_hint 24 ?_
  simp only [go_sem]
  repeat' (first | refine Kn rfl ?_ | ((first | refine Ka ?_ | refine Kb ?_ | refine Kc ?_ | refine Kd ?_ | refine Ke ?_); simp only [f41_r0,f41_r1,f41_r2,f41_r3,f41_r7,f41_r8,f41_r9,f41_r10,f41_r14,f41_r15,f41_r18,f41_r25,f41_r30,f41_r37,e1,go_sem]) | refine Kf ?_ | refine Kg ?_ | refine ⟨_,⟨Int.natCast_nonneg _,nds_get hx,rfl⟩,Sh.intro ?_⟩ | refine Kp (fun _ => ?_) (fun _ => ?_) | ((first | refine Kh ?_ | refine Ki rfl ?_); simp only [f41_r0,f41_r1,f41_r2,f41_r3,f41_r7,f41_r8,f41_r9,f41_r10,f41_r14,f41_r15,f41_r18,f41_r25,f41_r30,f41_r37,e1,or_self,Qs,Qt,Qu,Qv,Qw,Qx,Qy,Qz,Za,go_sem]))
  refine Or.inr ⟨[],.one (.own 0 1),[.row 1 1 (ints x.kids)],(by simp only [CallR,rnVs,rnV,rnA,rnAs,rn0,rn0s,posN,rnCs,rnC,getC,List.isEmpty_nil,reduceCtorEq,↓reduceIte,Qa,Qb,Qc,Qd,Qe,Qf,Qg,Qh,Qi,Qj,Qk,Ql,Qm,Qn,Qo,Qp,Qq,Qr]; simp only [go_sem]; exact ⟨f44_ok,clone_own x.kids (by omega)⟩),Sh.intro ?_⟩
  simp only [go_sem]
  repeat' (first | refine Kn rfl ?_ | ((first | refine Ka ?_ | refine Kb ?_ | refine Kc ?_ | refine Kd ?_ | refine Ke ?_); simp only [f41_r0,f41_r1,f41_r2,f41_r3,f41_r7,f41_r8,f41_r9,f41_r10,f41_r14,f41_r15,f41_r18,f41_r25,f41_r30,f41_r37,go_sem]) | refine Kf ?_ | refine Kg ?_ | refine Kp (fun _ => ?_) (fun _ => ?_) | ((first | refine Kh ?_ | refine Ki rfl ?_); simp only [f41_r0,f41_r1,f41_r2,f41_r3,f41_r7,f41_r8,f41_r9,f41_r10,f41_r14,f41_r15,f41_r18,f41_r25,f41_r30,f41_r37,or_self,Qs,Qt,Qu,Qv,Qw,Qx,Qy,Qz,Za,go_sem]))
  refine Kj (fr 51 [(2,.one (.d (.bx [.int .i64 g.root,.sl (nds g.l)]))),(4,.one (.ptr 0 0)),(5,.one (.ptr 3 0)),(7,.one (.ptr 4 0)),(16,.one (.d (.sl (nds h.l)))),(17,vi h.l.length),(18,vi i),(28,vi x.kids.length),(29,vi ((0 : Nat) : Int))]) (by (simp only [go_sem]; repeat' (first | refine Kp ?_ ?_ | exact Or.inl rfl | exact Or.inr rfl | rfl))) ?_
  refine Kk 6 (by simp only [List.length_nil,List.length_cons]; decide) (by simp only [go_sem]) (by simp only [go_sem]) ?_
  simp only [go_sem]
  refine Km (fun mz sz => ∃ j : Nat,j <= x.kids.length /\ mz = x.kids.length - j /\ sz = ⟨fr 51 [(2,.one (.d (.bx [.int .i64 g.root,.sl (nds g.l)]))),(4,.one (.ptr 0 0)),(5,.one (.ptr 3 0)),(7,.one (.ptr 4 0)),(16,.one (.d (.sl (nds h.l)))),(17,vi h.l.length),(18,vi i),(28,vi x.kids.length),(29,vi (j : Int))],[.cells [.d (.int .i64 0),.nil],.row 6 (1 + i) (nds ((joinL g.l h.l).take (g.l.length + i))),.dead,.cells [.d (.int .i64 g.root),.own 1 (1 + i)],.cells [.d (.int .i64 x.k),.d (.int .i64 x.x.k),.d (.int .i64 x.x.n),.d (.str x.x.s),.d (.sl (scs x.keys)),.own 5 1],.row 1 1 (ints (shK (g.l.length : Int) x.kids j))]⟩) x.kids.length ⟨0,Nat.zero_le _,rfl,rfl⟩ ?_
  rintro _ _ ⟨j,hj,rfl,rfl⟩
  simp only [go_sem]
  by_cases hjl : j < x.kids.length
  ·obtain ⟨y,hy⟩ := at_lt hjl
   have e2 : decide ((j : Int) < (x.kids.length : Int)) = true := decide_eq_true (by omega)
   have hyk := hkin x hxm y (List.mem_of_getElem? hy)
   have hsa := shK_at (n := (g.l.length : Int)) hy
   have hsl := shK_len (g.l.length : Int) x.kids j (by omega)
   have hss := shK_set (n := (g.l.length : Int)) hy
   repeat' (first | refine Kn rfl ?_ | ((first | refine Ka ?_ | refine Kb ?_ | refine Kc ?_ | refine Kd ?_ | refine Ke ?_); simp only [f41_r0,f41_r1,f41_r2,f41_r3,f41_r7,f41_r8,f41_r9,f41_r10,f41_r14,f41_r15,f41_r18,f41_r25,f41_r30,f41_r37,e2,go_sem]) | refine Kf ?_ | refine Kg ?_ | refine ⟨Int.natCast_nonneg _,by omega,_,⟨ints_get hsa,Nat.le_refl _⟩,Sh.intro ?_⟩ | refine Kp (fun _ => ?_) (fun _ => ?_) | ((first | refine Kh ?_ | refine Ki rfl ?_); simp only [f41_r0,f41_r1,f41_r2,f41_r3,f41_r7,f41_r8,f41_r9,f41_r10,f41_r14,f41_r15,f41_r18,f41_r25,f41_r30,f41_r37,e2,or_self,Qs,Qt,Qu,Qv,Qw,Qx,Qy,Qz,Za,go_sem]))
   refine ⟨by unfold inK; simp [IntKind.min,IntKind.max,IntKind.signed,IntKind.bits]; omega,Int.natCast_nonneg _,by omega,_,⟨ints_get hsa,Nat.le_refl _⟩,Sh.intro ?_⟩
   simp only [go_sem]
   rw [hss]
   repeat' (first | refine Kn rfl ?_ | ((first | refine Ka ?_ | refine Kb ?_ | refine Kc ?_ | refine Kd ?_ | refine Ke ?_); simp only [f41_r0,f41_r1,f41_r2,f41_r3,f41_r7,f41_r8,f41_r9,f41_r10,f41_r14,f41_r15,f41_r18,f41_r25,f41_r30,f41_r37,go_sem]) | refine Kf ?_ | refine Kg ?_ | refine Kp (fun _ => ?_) (fun _ => ?_) | ((first | refine Kh ?_ | refine Ki rfl ?_); simp only [f41_r0,f41_r1,f41_r2,f41_r3,f41_r7,f41_r8,f41_r9,f41_r10,f41_r14,f41_r15,f41_r18,f41_r25,f41_r30,f41_r37,or_self,Qs,Qt,Qu,Qv,Qw,Qx,Qy,Qz,Za,go_sem]))
   refine ⟨inK_nat hjl (by unfold lenMax; omega),?_⟩
   refine Kj (fr 51 [(2,.one (.d (.bx [.int .i64 g.root,.sl (nds g.l)]))),(4,.one (.ptr 0 0)),(5,.one (.ptr 3 0)),(7,.one (.ptr 4 0)),(16,.one (.d (.sl (nds h.l)))),(17,vi h.l.length),(18,vi i),(28,vi x.kids.length),(29,vi (j + 1))]) (by (simp only [go_sem]; repeat' (first | refine Kp ?_ ?_ | exact Or.inl rfl | exact Or.inr rfl | rfl))) ?_
   exact Kl ⟨x.kids.length - (j + 1),by omega,j + 1,by omega,rfl,rfl⟩
  ·obtain rfl : j = x.kids.length := by omega
   have e2 : decide ((x.kids.length : Int) < (x.kids.length : Int)) = false := decide_eq_false (by omega)
   have hsf : shK (g.l.length : Int) x.kids x.kids.length = x.kids.map fun i => i + (g.l.length : Int) := by simp [shK]
   rw [hsf]
   refine G_freeze 5 ?_
   simp only [go_sem]
   repeat' (first | refine Kn rfl ?_ | ((first | refine Ka ?_ | refine Kb ?_ | refine Kc ?_ | refine Kd ?_ | refine Ke ?_); simp only [f41_r0,f41_r1,f41_r2,f41_r3,f41_r7,f41_r8,f41_r9,f41_r10,f41_r14,f41_r15,f41_r18,f41_r25,f41_r30,f41_r37,e2,go_sem]) | refine Kf ?_ | refine Kg ?_ | refine Kp (fun _ => ?_) (fun _ => ?_) | ((first | refine Kh ?_ | refine Ki rfl ?_); simp only [f41_r0,f41_r1,f41_r2,f41_r3,f41_r7,f41_r8,f41_r9,f41_r10,f41_r14,f41_r15,f41_r18,f41_r25,f41_r30,f41_r37,e2,or_self,Qs,Qt,Qu,Qv,Qw,Qx,Qy,Qz,Za,go_sem]))
   refine ⟨by simp,by simp only [List.length_take,List.length_map]; omega,by simp only [List.length_take,List.length_map]; unfold lenMax; omega,?_⟩
   rw [hsn]
   repeat' (first | refine Kn rfl ?_ | ((first | refine Ka ?_ | refine Kb ?_ | refine Kc ?_ | refine Kd ?_ | refine Ke ?_); simp only [f41_r0,f41_r1,f41_r2,f41_r3,f41_r7,f41_r8,f41_r9,f41_r10,f41_r14,f41_r15,f41_r18,f41_r25,f41_r30,f41_r37,go_sem]) | refine Kf ?_ | refine Kg ?_ | refine Kp (fun _ => ?_) (fun _ => ?_) | ((first | refine Kh ?_ | refine Ki rfl ?_); simp only [f41_r0,f41_r1,f41_r2,f41_r3,f41_r7,f41_r8,f41_r9,f41_r10,f41_r14,f41_r15,f41_r18,f41_r25,f41_r30,f41_r37,or_self,Qs,Qt,Qu,Qv,Qw,Qx,Qy,Qz,Za,go_sem]))
   refine ⟨inK_nat hil (by unfold lenMax; omega),?_⟩
   refine Kj (fr 51 [(2,.one (.d (.bx [.int .i64 g.root,.sl (nds g.l)]))),(4,.one (.ptr 0 0)),(5,.one (.ptr 3 0)),(16,.one (.d (.sl (nds h.l)))),(17,vi h.l.length),(18,vi (i + 1))]) (by (simp only [go_sem]; repeat' (first | refine Kp ?_ ?_ | exact Or.inl rfl | exact Or.inr rfl | rfl))) ?_
   refine Kk 4 (by simp only [List.length_nil,List.length_cons]; decide) (by simp only [go_sem]) (by simp only [go_sem]) ?_
   simp only [go_sem]
   refine Kl ⟨h.l.length - (i + 1),by omega,i + 1,by omega,rfl,?_,rfl⟩
   exact Nat.zero_le _
 ·repeat refine Ko rfl ?_
  refine Ka ?_
  simp only [f41_r3,go_sem]
  repeat refine Ko rfl ?_
  refine Ke ?_
  simp only [go_sem]
  refine ⟨fun h => by exfalso; omega,fun _ => G_exit rfl ?_⟩
  obtain rfl : i = h.l.length := by omega
  rw [List.take_of_length_le (by omega)]
  refine G_freeze 1 ?_
  simp only [go_sem]
  repeat' (first | refine Kn rfl ?_ | ((first | refine Ka ?_ | refine Kb ?_ | refine Kc ?_ | refine Kd ?_ | refine Ke ?_); simp only [f41_r0,f41_r1,f41_r2,f41_r3,f41_r7,f41_r8,f41_r9,f41_r10,f41_r14,f41_r15,f41_r18,f41_r25,f41_r30,f41_r37,go_sem]) | refine Kf ?_ | refine Kg ?_ | refine Kp (fun _ => ?_) (fun _ => ?_) | ((first | refine Kh ?_ | refine Ki rfl ?_); simp only [f41_r0,f41_r1,f41_r2,f41_r3,f41_r7,f41_r8,f41_r9,f41_r10,f41_r14,f41_r15,f41_r18,f41_r25,f41_r30,f41_r37,or_self,Qs,Qt,Qu,Qv,Qw,Qx,Qy,Qz,Za,go_sem]))
  exact ⟨rfl,rfl⟩
noncomputable def bisB (g h : Gr) : Bool := if chk g = none /\ chk h = none then simB g h else false
noncomputable def bisE (g h : Gr) : Int := if chkE g = 0 then chkE h else chkE g
theorem chkE0 {g : Gr} : chkE g = 0 ↔ chk g = none := ⟨fun e => Classical.byContradiction fun h => chkE_bad h e,chkE_ok⟩
theorem shiftN_short {x : Nd} {n : Int} (h : x.short) : (shiftN n x).short := ⟨h.1,by simp only [shiftN,List.length_map]; exact h.2.1,h.2.2⟩
abbrev bisL (g h : Gr) : List (List D) := [[.int .i64 g.root,.sl (nds g.l)],[.int .i64 h.root,.sl (nds h.l)]]
set_option maxHeartbeats 1000000 in
theorem bisim10 (h : Env10 gp) (g k : Gr) (hs : Small g) (hs' : Small k) (hst : ∀ x ∈ g.l,x.short) (hst' : ∀ x ∈ k.l,x.short) : Does QP gp 16 [g.v,k.v] (.tup [vb (bisB g k),vi (bisE g k)]) := by
 have c1 : Does QP gp 36 [g.v] (.tup [vi ((chk g).getD (0,0)).1,vi (chkE g)]) := chk_gr h.e g
 have c2 : Does QP gp 36 [k.v] (.tup [vi ((chk k).getD (0,0)).1,vi (chkE k)]) := chk_gr h.e k
 refine f16_in ?_
 simp only [go_sem]
 refine G_hint 31 ?_
 simp only [go_sem]
 repeat' (first | refine Kn rfl ?_ | ((first | refine Ka ?_ | refine Kb ?_ | refine Kc ?_ | refine Kd ?_ | refine Ke ?_); simp only [go_sem]) | refine Kf ?_ | refine Kg ?_ | refine Kp (fun _ => ?_) (fun _ => ?_) | ((first | refine Kh ?_ | refine Ki rfl ?_); simp only [or_self,Qs,Qt,Qu,Qv,Qw,Qx,Qy,Qz,Za,go_sem]))
 refine Kj (fr 48 [(2,.one (.d (.bx [.int .i64 g.root,.sl (nds g.l)]))),(3,.one (.d (.bx [.int .i64 k.root,.sl (nds k.l)]))),(13,.one (.d (.sl (bisL g k)))),(14,vi 2),(15,vi ((0 : Nat) : Int)),(31,.one .un)]) (by (simp only [go_sem]; repeat' (first | refine Kp ?_ ?_ | exact Or.inl rfl | exact Or.inr rfl | rfl))) ?_
 refine Kj (fr 48 [(2,.one (.d (.bx [.int .i64 g.root,.sl (nds g.l)]))),(3,.one (.d (.bx [.int .i64 k.root,.sl (nds k.l)]))),(13,.one (.d (.sl (bisL g k)))),(14,vi 2),(15,vi (0 : Nat)),(31,.one .un)]) (by (simp only [go_sem]; repeat' (first | refine Kp ?_ ?_ | exact Or.inl rfl | exact Or.inr rfl | rfl))) ?_
 refine Km (fun mz sz => ∃ i : Nat,i <= 2 /\ mz = 2 - i /\ ((1 <= i -> chkE g = 0) /\ (2 <= i -> chkE k = 0)) /\ sz = ⟨fr 48 [(2,.one (.d (.bx [.int .i64 g.root,.sl (nds g.l)]))),(3,.one (.d (.bx [.int .i64 k.root,.sl (nds k.l)]))),(13,.one (.d (.sl (bisL g k)))),(14,vi 2),(15,vi i),(31,.one .un)],[]⟩) (2) ⟨0,Nat.zero_le _,(Nat.sub_zero _).symm,?_,rfl⟩ ?_
 ·exact ⟨fun h => by omega,fun h => by omega⟩
 rintro _ _ ⟨i,hi,rfl,⟨hi1,hi2⟩,rfl⟩
 simp only [go_sem]
 by_cases hil : i < 2
 ·have e1 : decide ((i : Int) < 2) = true := decide_eq_true (by omega)
  by_cases h0 : i = 0
  ·subst h0
   by_cases e : chkE g = 0
   ·rw [e] at c1
    repeat' (first | refine Kn rfl ?_ | ((first | refine Ka ?_ | refine Kb ?_ | refine Kc ?_ | refine Kd ?_ | refine Ke ?_); simp only [e1,go_sem]) | refine Kf ?_ | refine Kg ?_ | refine ⟨_,c1,Sh.intro ?_⟩ | refine ⟨_,⟨c1,rfl⟩,Sh.intro ?_⟩ | refine ⟨_,⟨rfl,rfl⟩,Sh.intro ?_⟩ | (refine Kp (fun _ => ?_) (fun _ => ?_) <;> try (exfalso; omega)) | ((first | refine Kh ?_ | refine Ki rfl ?_); simp only [e1,or_self,Qs,Qt,Qu,Qv,Qw,Qx,Qy,Qz,Za,go_sem]))
    refine ⟨inK_nat (n := 2) (by omega) (by unfold lenMax; omega),?_⟩
    refine Kj (fr 48 [(2,.one (.d (.bx [.int .i64 g.root,.sl (nds g.l)]))),(3,.one (.d (.bx [.int .i64 k.root,.sl (nds k.l)]))),(13,.one (.d (.sl (bisL g k)))),(14,vi 2),(15,vi ((0 : Nat) + 1 : Int)),(31,.one .un)]) (by (simp only [go_sem]; repeat' (first | refine Kp ?_ ?_ | exact Or.inl rfl | exact Or.inr rfl | rfl))) ?_
    refine Kk 0 (by simp only [List.length_nil,List.length_cons]; decide) (by simp only [go_sem]) (by simp only [go_sem]) ?_
    simp only [go_sem]
    exact Kl ⟨1,by omega,1,by omega,rfl,⟨fun _ => e,fun h => by omega⟩,rfl⟩
   ·have hb : bisB g k = false := by unfold bisB; rw [if_neg (fun h => e (chkE_ok h.1))]
    have he : bisE g k = chkE g := by unfold bisE; rw [if_neg e]
    rw [hb,he]
    have e2 : (chkE g != 0) = true := by simpa using e
    repeat' (first | refine Kn rfl ?_ | ((first | refine Ka ?_ | refine Kb ?_ | refine Kc ?_ | refine Kd ?_ | refine Ke ?_); simp only [e1,e2,go_sem]) | refine Kf ?_ | refine Kg ?_ | refine ⟨_,c1,Sh.intro ?_⟩ | refine ⟨_,⟨c1,rfl⟩,Sh.intro ?_⟩ | refine ⟨_,⟨rfl,rfl⟩,Sh.intro ?_⟩ | (refine Kp (fun _ => ?_) (fun _ => ?_) <;> try (exfalso; omega)) | ((first | refine Kh ?_ | refine Ki rfl ?_); simp only [e1,e2,or_self,Qs,Qt,Qu,Qv,Qw,Qx,Qy,Qz,Za,go_sem]))
  ·obtain rfl : i = 1 := by omega
   have e0 := hi1 (by omega)
   by_cases e : chkE k = 0
   ·rw [e] at c2
    repeat' (first | refine Kn rfl ?_ | ((first | refine Ka ?_ | refine Kb ?_ | refine Kc ?_ | refine Kd ?_ | refine Ke ?_); simp only [e1,go_sem]) | refine Kf ?_ | refine Kg ?_ | refine ⟨_,c2,Sh.intro ?_⟩ | refine ⟨_,⟨c2,rfl⟩,Sh.intro ?_⟩ | refine ⟨_,⟨rfl,rfl⟩,Sh.intro ?_⟩ | (refine Kp (fun _ => ?_) (fun _ => ?_) <;> try (exfalso; omega)) | ((first | refine Kh ?_ | refine Ki rfl ?_); simp only [e1,or_self,Qs,Qt,Qu,Qv,Qw,Qx,Qy,Qz,Za,go_sem]))
    refine ⟨inK_nat (n := 2) (by omega) (by unfold lenMax; omega),?_⟩
    refine Kj (fr 48 [(2,.one (.d (.bx [.int .i64 g.root,.sl (nds g.l)]))),(3,.one (.d (.bx [.int .i64 k.root,.sl (nds k.l)]))),(13,.one (.d (.sl (bisL g k)))),(14,vi 2),(15,vi ((1 : Nat) + 1 : Int)),(31,.one .un)]) (by (simp only [go_sem]; repeat' (first | refine Kp ?_ ?_ | exact Or.inl rfl | exact Or.inr rfl | rfl))) ?_
    refine Kk 0 (by simp only [List.length_nil,List.length_cons]; decide) (by simp only [go_sem]) (by simp only [go_sem]) ?_
    simp only [go_sem]
    exact Kl ⟨0,by omega,2,by omega,rfl,⟨fun _ => e0,fun _ => e⟩,rfl⟩
   ·have hb : bisB g k = false := by unfold bisB; rw [if_neg (fun h => e (chkE_ok h.2))]
    have he : bisE g k = chkE k := by unfold bisE; rw [if_pos e0]
    rw [hb,he]
    have e2 : (chkE k != 0) = true := by simpa using e
    repeat' (first | refine Kn rfl ?_ | ((first | refine Ka ?_ | refine Kb ?_ | refine Kc ?_ | refine Kd ?_ | refine Ke ?_); simp only [e1,e2,go_sem]) | refine Kf ?_ | refine Kg ?_ | refine ⟨_,c2,Sh.intro ?_⟩ | refine ⟨_,⟨c2,rfl⟩,Sh.intro ?_⟩ | refine ⟨_,⟨rfl,rfl⟩,Sh.intro ?_⟩ | (refine Kp (fun _ => ?_) (fun _ => ?_) <;> try (exfalso; omega)) | ((first | refine Kh ?_ | refine Ki rfl ?_); simp only [e1,e2,or_self,Qs,Qt,Qu,Qv,Qw,Qx,Qy,Qz,Za,go_sem]))
 ·obtain rfl : i = 2 := by omega
  have hg : Good g := ⟨chkE0.1 (hi1 (by omega)),hs⟩
  have hk : Good k := ⟨chkE0.1 (hi2 (by omega)),hs'⟩
  have hgl := hg.len
  have hkl := hk.len
  have hJf : Fine (joinL g.l k.l) := hg.fine.join hk.fine
  have hJl : (joinL g.l k.l).length = g.l.length + k.l.length := join_len
  have hn : Neat (joinG g k) := ⟨hJf,fun x hx => by
   rcases List.mem_append.1 hx with hx | hx
   ·exact hst x hx
   ·obtain ⟨y,hy,rfl⟩ := List.mem_map.1 hx
    exact shiftN_short (hst' y hy),by show (joinL g.l k.l).length <= 1000; omega⟩
  have hb : bisB g k = simB g k := by unfold bisB; rw [if_pos ⟨hg.c,hk.c⟩]
  have he : bisE g k = 0 := by unfold bisE; rw [if_pos (chkE_ok hg.c),chkE_ok hk.c]
  rw [hb,he]
  have c3 := joined10 (gp := gp) hg hk
  obtain ⟨u,hu⟩ := cls_ex hJf (join_left hg.root).1
  obtain ⟨v,hv⟩ := cls_ex hJf (join_right (l := g.l) hk.root).1
  have hsim : simB g k = (u == v) := by
   unfold simB
   rw [hu,hv,Bool.eq_iff_iff,decide_eq_true_iff,beq_iff_eq,Option.some.injEq]
  rw [hsim]
  have hr1 := hg.root
  have hr2 := hk.root
  repeat' (first | refine Kn rfl ?_ | ((first | refine Ka ?_ | refine Kb ?_ | refine Kc ?_ | refine Kd ?_ | refine Ke ?_); simp only [go_sem]) | refine Kf ?_ | refine Kg ?_ | refine ⟨_,c3,Sh.intro ?_⟩ | refine ⟨_,⟨c3,rfl⟩,Sh.intro ?_⟩ | (refine Kp (fun _ => ?_) (fun _ => ?_) <;> try (exfalso; omega)) | ((first | refine Kh ?_ | refine Ki rfl ?_); simp only [or_self,Qs,Qt,Qu,Qv,Qw,Qx,Qy,Qz,Za,go_sem]))
  refine Or.inr ⟨[],.one (.ptr 1 0),[.row 1 0 (ints (zeros (joinG g k).l.length)),.cells [.d (.int .i64 (joinG g k).root),.d (.sl (nds (joinG g k).l)),.own 0 0]],(by simp only [CallR,rnVs,rnV,rnA,rnAs,rn0,rn0s,posN,rnCs,rnC,getC,List.isEmpty_nil,reduceCtorEq,↓reduceIte,Qa,Qb,Qc,Qd,Qe,Qf,Qg,Qh,Qi,Qj,Qk,Ql,Qm,Qn,Qo,Qp,Qq,Qr]; simp only [go_sem]; exact ⟨f37_ok,of10 (joinG g k) hn.len⟩),Sh.intro ?_⟩
  simp only [go_sem]
  repeat' (first | refine Kn rfl ?_ | ((first | refine Ka ?_ | refine Kb ?_ | refine Kc ?_ | refine Kd ?_ | refine Ke ?_); simp only [go_sem]) | refine Kf ?_ | refine Kg ?_ | refine Kp (fun _ => ?_) (fun _ => ?_) | ((first | refine Kh ?_ | refine Ki rfl ?_); simp only [or_self,Qs,Qt,Qu,Qv,Qw,Qx,Qy,Qz,Za,go_sem]))
  refine Or.inr (Or.inr ⟨[1,0],.one (.own 1 0),[pC (joinG g k) 0,.row 1 0 (ints (clsL (joinG g k).l))],(by simp only [CallR,rnVs,rnV,rnA,rnAs,rn0,rn0s,posN,rnCs,rnC,getC,List.isEmpty_nil,reduceCtorEq,↓reduceIte,Qa,Qb,Qc,Qd,Qe,Qf,Qg,Qh,Qi,Qj,Qk,Ql,Qm,Qn,Qo,Qp,Qq,Qr]; simp only [go_sem]; exact ⟨f38_ok,refine10 h hn 0⟩),Sh.intro ?_⟩)
  simp only [go_sem]
  repeat' (first | ((first | refine Kb ?_ | refine Kc ?_ | refine Kd ?_); simp only [go_sem]) | refine Kf ?_ | refine Kg ?_)
  refine G_freeze 0 ?_
  simp only [go_sem]
  have hu' : (ints (clsL (joinG g k).l))[g.root.toNat]? = some [.int .i64 u] := ints_get hu
  have hv' : (ints (clsL (joinG g k).l))[(k.root + (g.l.length : Int)).toNat]? = some [.int .i64 v] := ints_get hv
  have hk0 : 0 <= k.root + (g.l.length : Int) := by omega
  repeat' (first | refine Kn rfl ?_ | ((first | refine Ka ?_ | refine Kb ?_ | refine Kc ?_ | refine Kd ?_ | refine Ke ?_); simp only [go_sem]) | refine Kf ?_ | refine Kg ?_ | refine ⟨_,⟨hr1.1,hu',rfl⟩,Sh.intro ?_⟩ | refine ⟨_,⟨hk0,hv',rfl⟩,Sh.intro ?_⟩ | refine Kp (fun _ => ?_) (fun _ => ?_) | ((first | refine Kh ?_ | refine Ki rfl ?_); simp only [or_self,Qs,Qt,Qu,Qv,Qw,Qx,Qy,Qz,Za,go_sem]))
  refine ⟨by unfold inK; simp [IntKind.min,IntKind.max,IntKind.signed,IntKind.bits]; omega,_,⟨hk0,hv',rfl⟩,Sh.intro ?_⟩
  repeat' (first | refine Kn rfl ?_ | ((first | refine Ka ?_ | refine Kb ?_ | refine Kc ?_ | refine Kd ?_ | refine Ke ?_); simp only [go_sem]) | refine Kf ?_ | refine Kg ?_ | refine Kp (fun _ => ?_) (fun _ => ?_) | ((first | refine Kh ?_ | refine Ki rfl ?_); simp only [or_self,Qs,Qt,Qu,Qv,Qw,Qx,Qy,Qz,Za,go_sem]))
end Go.Fw.L07
