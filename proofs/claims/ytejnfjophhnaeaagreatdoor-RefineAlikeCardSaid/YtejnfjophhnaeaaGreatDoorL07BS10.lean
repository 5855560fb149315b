/- Chapter 10,part 14: two graphs as one; which say the same. -/
import Derived.Test.YtejnfjophhnaeaaGreatDoorJc
import Derived.Test.YtejnfjophhnaeaaGreatDoorJd
set_option linter.all false
namespace Go.Fw.L07
open Go Go.Fw
open Go.Fw.Sh renaming intro -> Kg
open Go.Fw renaming Xii -> Ka,Xej -> Ka,Xek -> Ka,Xeh -> Kb,Xio -> Kc,Xip -> Kd,Xei -> Ke,Xel -> Kf,Xik -> Kh,Xij -> Ki,Xfl -> Kj,Xgl -> Kk,Xdv -> Kl,Xfk -> Km,Gx -> Kn,Gw -> Ko
open And renaming intro -> Kp
open Go.Proofs.Tryz renaming prog -> QP
open Nat renaming reduceAdd -> Qa,reduceSub -> Qb,reduceMul -> Qc,reduceLeDiff -> Qd,reduceLT -> Qe,reduceEqDiff -> Qf
open Int renaming reduceToNat -> Qg,reduceLT -> Qh,reduceLE -> Qi,reduceGT -> Qj,reduceGE -> Qk,reduceEq -> Ql,reduceNe -> Qm,reduceBEq -> Qn,reduceBNe -> Qo,reduceAdd -> Qp,reduceSub -> Qq,reduceNeg -> Qr
open Go.Fw.V.one renaming injEq -> Qs
open Go.Fw.V.agg renaming injEq -> Qt
open Go.Fw.V.tup renaming injEq -> Qu
open Go.Fw.A.d renaming injEq -> Qv
open Go.Fw.D.bool renaming injEq -> Qw
open Go.Fw.D.int renaming injEq -> Qx
open Go.Fw.D.str renaming injEq -> Qy
open Go.Fw.D.sl renaming injEq -> Qz
open List.cons renaming injEq -> Za
set_option maxRecDepth 4000
variable {gp : Heap}
theorem Ybs (l : List Nd) (hl : l.length < 1000) : Tri QP gp 73 [.one (.d (.sl (nds l)))] [] fun r post => r = .one (.own 0 1) /\ post = [.row 6 1 (nds l)] := by
 refine Y31 ?_
 simp only [go_sem]
 cases l with
 | nil =>
  refine Ypv 0 rfl fun q c => ?_
  cases q with
  | none =>
   simp only [go_sem]
   repeat' (first | refine Kn rfl ?_ | ((first | refine Ka ?_ | refine Kb ?_ | refine Kc ?_ | refine Kd ?_ | refine Ke ?_); simp only [Xd1,Xd2,go_sem]) | refine Kf ?_ | refine Kg ?_ | refine Kp (fun _ => ?_) (fun _ => ?_) | ((first | refine Kh ?_ | refine Ki rfl ?_); simp only [Xd1,Xd2,or_self,Qs,Qt,Qu,Qv,Qw,Qx,Qy,Qz,Za,go_sem]))
   repeat' (first | refine Kn rfl ?_ | ((first | refine Ka ?_ | refine Kb ?_ | refine Kc ?_ | refine Kd ?_); simp only [Xe6,go_sem]) | refine Kf ?_ | refine Kg ?_)
   refine Ybd 2 6 1 (by decide) rfl ?_
   simp only [go_sem]
   repeat' (first | refine Kn rfl ?_ | ((first | refine Ka ?_ | refine Kb ?_ | refine Kc ?_ | refine Kd ?_ | refine Ke ?_); simp only [Xd1,Xd2,Xe6,Xfv,go_sem]) | refine Kf ?_ | refine Kg ?_ | refine Kp (fun _ => ?_) (fun _ => ?_) | ((first | refine Kh ?_ | refine Ki rfl ?_); simp only [Xd1,Xd2,Xe6,Xfv,or_self,Qs,Qt,Qu,Qv,Qw,Qx,Qy,Qz,Za,go_sem]))
  | some q =>
   simp only [go_sem]
   refine Ycz ?_
   repeat' (first | refine Kn rfl ?_ | ((first | refine Ka ?_ | refine Kb ?_ | refine Kc ?_ | refine Kd ?_ | refine Ke ?_); simp only [Xd1,Xd2,go_sem]) | refine Kf ?_ | refine Kg ?_ | refine Kp (fun _ => ?_) (fun _ => ?_) | ((first | refine Kh ?_ | refine Ki rfl ?_); simp only [Xd1,Xd2,or_self,Qs,Qt,Qu,Qv,Qw,Qx,Qy,Qz,Za,go_sem]))
   refine Xq3 0 rfl ?_
   simp only [go_sem]
   repeat' (first | refine Kn rfl ?_ | ((first | refine Ka ?_ | refine Kb ?_ | refine Kc ?_ | refine Kd ?_ | refine Ke ?_); simp only [Xd1,Xd2,Xe6,Xfv,go_sem]) | refine Kf ?_ | refine Kg ?_ | refine Kp (fun _ => ?_) (fun _ => ?_) | ((first | refine Kh ?_ | refine Ki rfl ?_); simp only [Xd1,Xd2,Xe6,Xfv,or_self,Qs,Qt,Qu,Qv,Qw,Qx,Qy,Qz,Za,go_sem]))
   refine ⟨by simp,by simp [Xad],?_⟩
   repeat' (first | refine Kn rfl ?_ | ((first | refine Ka ?_ | refine Kb ?_ | refine Kc ?_ | refine Kd ?_ | refine Ke ?_); simp only [Xd1,Xd2,Xe6,Xfv,go_sem]) | refine Kf ?_ | refine Kg ?_ | refine Kp (fun _ => ?_) (fun _ => ?_) | ((first | refine Kh ?_ | refine Ki rfl ?_); simp only [Xd1,Xd2,Xe6,Xfv,or_self,Qs,Qt,Qu,Qv,Qw,Qx,Qy,Qz,Za,go_sem]))
 | cons x l =>
  simp only [go_sem]
  repeat' (first | refine Kn rfl ?_ | ((first | refine Ka ?_ | refine Kb ?_ | refine Kc ?_ | refine Kd ?_ | refine Ke ?_); simp only [Xd1,Xd2,Xe6,Xfv,go_sem]) | refine Kf ?_ | refine Kg ?_ | refine Kp (fun _ => ?_) (fun _ => ?_) | ((first | refine Kh ?_ | refine Ki rfl ?_); simp only [Xd1,Xd2,Xe6,Xfv,or_self,Qs,Qt,Qu,Qv,Qw,Qx,Qy,Qz,Za,go_sem]))
  refine ⟨fun p hp => by
   rcases List.mem_cons.1 hp with rfl | hp
   ·rfl
   ·obtain ⟨_,_,rfl⟩ := List.mem_map.1 hp; rfl,by simp at hl ⊢; omega,by simp [Xad] at hl ⊢; omega,?_⟩
  repeat' (first | refine Kn rfl ?_ | ((first | refine Ka ?_ | refine Kb ?_ | refine Kc ?_ | refine Kd ?_ | refine Ke ?_); simp only [Xd1,Xd2,Xe6,Xfv,go_sem]) | refine Kf ?_ | refine Kg ?_ | refine Kp (fun _ => ?_) (fun _ => ?_) | ((first | refine Kh ?_ | refine Ki rfl ?_); simp only [Xd1,Xd2,Xe6,Xfv,or_self,Qs,Qt,Qu,Qv,Qw,Qx,Qy,Qz,Za,go_sem]))
def shK (n : Int) (l : List Int) (j : Nat) : List Int := (l.take j).map (fun i => i + n) ++ l.drop j
theorem Y46 (n : Int) (l : List Int) (j : Nat) (h : j <= l.length) : (shK n l j).length = l.length := by simp [shK]; omega
theorem Wf0 {n : Int} {l : List Int} {j : Nat} {x : Int} (h : l[j]? = some x) : (shK n l j)[j]? = some x := by
 have := (List.getElem?_eq_some_iff.1 h).1
 unfold shK
 rw [List.getElem?_append_right (by rw [List.length_map,List.length_take]; omega)]
 simp only [List.getElem?_drop,List.length_map,List.length_take]
 rw [show j + (j - min j l.length) = j by omega,h]
theorem Y47 {n : Int} {l : List Int} {j : Nat} {x : Int} (h : l[j]? = some x) : (ints (shK n l j)).set j [.int .i64 (x + n)] = ints (shK n l (j + 1)) := by
 have hi := (List.getElem?_eq_some_iff.1 h).1
 have : ints (shK n l j) = (ints ((l.take j).map (fun i => i + n))) ++ ([.int .i64 x] :: ints (l.drop (j + 1))) := by
  unfold shK
  rw [List.drop_eq_getElem_cons hi]
  have : l[j] = x := by rw [List.getElem?_eq_getElem hi] at h; exact Option.some.inj h
  simp [ints,this]
 rw [this,List.set_append_right _ _ (by simp [ints]; omega)]
 have hz : j - (ints ((l.take j).map (fun i => i + n))).length = 0 := by simp [ints]; omega
 rw [hz,List.set_cons_zero]
 unfold shK
 rw [List.take_succ,h]
 simp [ints]
def Xlq (g h : Gr) : Gr := ⟨g.root,Xcn g.l h.l⟩
set_option maxHeartbeats 1000000 in
theorem Yir {g h : Gr} (hg : Good g) (hh : Good h) : Does QP gp 41 [g.v,h.v] (Xlq g h).v := by
 have hgl := hg.len
 have hhl := hh.len
 have hkin : ∀ x ∈ h.l,∀ k ∈ x.kids,0 <= k /\ k < 200 := fun x hx k hk => by
  obtain ⟨n,hn⟩ := List.getElem?_of_mem hx
  obtain ⟨h1,h2⟩ := Xlf hn
  have := (Xrf (hh.node h1) k).2 (by rw [h2]; exact hk)
  have := hh.kid n k this
  omega
 have hJl : (Xcn g.l h.l).length = g.l.length + h.l.length := Xnw
 have hJa : ∀ (i : Nat) (x : Nd),h.l[i]? = some x -> (Xcn g.l h.l)[g.l.length + i]? = some (Xce g.l.length x) := fun i x hx => by
  unfold Xcn
  rw [List.getElem?_append_right (by omega),Nat.add_sub_cancel_left,List.getElem?_map,hx]; rfl
 have hJ0 : (Xcn g.l h.l).take (g.l.length + 0) = g.l := by unfold Xcn; simp
 refine Wea ?_
 simp only [go_sem]
 repeat' (first | refine Kn rfl ?_ | ((first | refine Ka ?_ | refine Kb ?_ | refine Kc ?_ | refine Kd ?_ | refine Ke ?_); simp only [Xcy,Xcz,Xc0,Xcm,Xc1,Xc2,Xc3,Xbu,Xbv,Xbw,Xbx,Xby,Xbz,Xb0,go_sem]) | refine Kf ?_ | refine Kg ?_ | refine Kp (fun _ => ?_) (fun _ => ?_) | ((first | refine Kh ?_ | refine Ki rfl ?_); simp only [Xcy,Xcz,Xc0,Xcm,Xc1,Xc2,Xc3,Xbu,Xbv,Xbw,Xbx,Xby,Xbz,Xb0,or_self,Qs,Qt,Qu,Qv,Qw,Qx,Qy,Qz,Za,go_sem]))
 refine ⟨.one (.own 0 1),[.row 6 1 (nds g.l)],(by simp only [Xa5,rnVs,rnV,rnA,rnAs,rn0,rn0s,posN,rnCs,rnC,getC,List.isEmpty_nil,reduceCtorEq,↓reduceIte,Qa,Qb,Qc,Qd,Qe,Qf,Qg,Qh,Qi,Qj,Qk,Ql,Qm,Qn,Qo,Qp,Qq,Qr]; simp only [go_sem]; exact ⟨We0,Ybs g.l (by omega)⟩),Sh.intro ?_⟩
 simp only [go_sem]
 repeat' (first | refine Kn rfl ?_ | ((first | refine Ka ?_ | refine Kb ?_ | refine Kc ?_ | refine Kd ?_ | refine Ke ?_); simp only [Xcy,Xcz,Xc0,Xcm,Xc1,Xc2,Xc3,Xbu,Xbv,Xbw,Xbx,Xby,Xbz,Xb0,go_sem]) | refine Kf ?_ | refine Kg ?_ | refine Kp (fun _ => ?_) (fun _ => ?_) | ((first | refine Kh ?_ | refine Ki rfl ?_); simp only [Xcy,Xcz,Xc0,Xcm,Xc1,Xc2,Xc3,Xbu,Xbv,Xbw,Xbx,Xby,Xbz,Xb0,or_self,Qs,Qt,Qu,Qv,Qw,Qx,Qy,Qz,Za,go_sem]))
 refine Kj (fr 51 [(2,.one (.d (.bx [.int .i64 g.root,.sl (nds g.l)]))),(4,.one (.ptr 0 0)),(5,.one (.ptr 3 0)),(16,.one (.d (.sl (nds h.l)))),(17,vi h.l.length),(18,vi ((0 : Nat) : Int))]) (by (simp only [go_sem]; repeat' (first | refine Kp ?_ ?_ | exact Or.inl rfl | exact Or.inr rfl | rfl))) ?_
 rw [show Ch.row 6 1 (nds g.l) = Ch.row 6 (1 + 0) (nds ((Xcn g.l h.l).take (g.l.length + 0))) from by rw [hJ0]]
 refine Kj (fr 51 [(2,.one (.d (.bx [.int .i64 g.root,.sl (nds g.l)]))),(4,.one (.ptr 0 0)),(5,.one (.ptr 3 0)),(16,.one (.d (.sl (nds h.l)))),(17,vi h.l.length),(18,vi (0 : Nat))]) (by (simp only [go_sem]; repeat' (first | refine Kp ?_ ?_ | exact Or.inl rfl | exact Or.inr rfl | rfl))) ?_
 refine Km (fun mz sz => ∃ i : Nat,i <= h.l.length /\ mz = h.l.length - i /\ (0 <= i) /\ sz = ⟨fr 51 [(2,.one (.d (.bx [.int .i64 g.root,.sl (nds g.l)]))),(4,.one (.ptr 0 0)),(5,.one (.ptr 3 0)),(16,.one (.d (.sl (nds h.l)))),(17,vi h.l.length),(18,vi i)],[.cells [.d (.int .i64 0),.nil],.row 6 (1 + i) (nds ((Xcn g.l h.l).take (g.l.length + i))),.dead,.cells [.d (.int .i64 g.root),.own 1 (1 + i)]]⟩) (h.l.length) ⟨0,Nat.zero_le _,(Nat.sub_zero _).symm,?_,rfl⟩ ?_
 ·exact Nat.zero_le _
 rintro _ _ ⟨i,hi,rfl,-,rfl⟩
 simp only [go_sem]
 by_cases hil : i < h.l.length
 ·obtain ⟨x,hx⟩ := Xak hil
  have hxm := List.mem_of_getElem? hx
  have e1 : decide ((i : Int) < (h.l.length : Int)) = true := decide_eq_true (by omega)
  have hkl := (hh.s x hxm).2
  have hsn : nds ((Xcn g.l h.l).take (g.l.length + i)) ++ [[.int .i64 x.k,.int .i64 x.x.k,.int .i64 x.x.n,.str x.x.s,.sl (scs x.keys),.sl (ints (x.kids.map fun i => i + (g.l.length : Int)))]] = nds ((Xcn g.l h.l).take (g.l.length + (i + 1))) := Xnd (hJa i x hx)
  refine Xe3 24 ?_
  simp only [go_sem]
  repeat' (first | refine Kn rfl ?_ | ((first | refine Ka ?_ | refine Kb ?_ | refine Kc ?_ | refine Kd ?_ | refine Ke ?_); simp only [Xcy,Xcz,Xc0,Xcm,Xc1,Xc2,Xc3,Xbu,Xbv,Xbw,Xbx,Xby,Xbz,Xb0,e1,go_sem]) | refine Kf ?_ | refine Kg ?_ | refine ⟨_,⟨Int.natCast_nonneg _,Ybh hx,rfl⟩,Sh.intro ?_⟩ | refine Kp (fun _ => ?_) (fun _ => ?_) | ((first | refine Kh ?_ | refine Ki rfl ?_); simp only [Xcy,Xcz,Xc0,Xcm,Xc1,Xc2,Xc3,Xbu,Xbv,Xbw,Xbx,Xby,Xbz,Xb0,e1,or_self,Qs,Qt,Qu,Qv,Qw,Qx,Qy,Qz,Za,go_sem]))
  refine Or.inr ⟨[],.one (.own 0 1),[.row 1 1 (ints x.kids)],(by simp only [Xa5,rnVs,rnV,rnA,rnAs,rn0,rn0s,posN,rnCs,rnC,getC,List.isEmpty_nil,reduceCtorEq,↓reduceIte,Qa,Qb,Qc,Qd,Qe,Qf,Qg,Qh,Qi,Qj,Qk,Ql,Qm,Qn,Qo,Qp,Qq,Qr]; simp only [go_sem]; exact ⟨Xss,Xli x.kids (by omega)⟩),Sh.intro ?_⟩
  simp only [go_sem]
  repeat' (first | refine Kn rfl ?_ | ((first | refine Ka ?_ | refine Kb ?_ | refine Kc ?_ | refine Kd ?_ | refine Ke ?_); simp only [Xcy,Xcz,Xc0,Xcm,Xc1,Xc2,Xc3,Xbu,Xbv,Xbw,Xbx,Xby,Xbz,Xb0,go_sem]) | refine Kf ?_ | refine Kg ?_ | refine Kp (fun _ => ?_) (fun _ => ?_) | ((first | refine Kh ?_ | refine Ki rfl ?_); simp only [Xcy,Xcz,Xc0,Xcm,Xc1,Xc2,Xc3,Xbu,Xbv,Xbw,Xbx,Xby,Xbz,Xb0,or_self,Qs,Qt,Qu,Qv,Qw,Qx,Qy,Qz,Za,go_sem]))
  refine Kj (fr 51 [(2,.one (.d (.bx [.int .i64 g.root,.sl (nds g.l)]))),(4,.one (.ptr 0 0)),(5,.one (.ptr 3 0)),(7,.one (.ptr 4 0)),(16,.one (.d (.sl (nds h.l)))),(17,vi h.l.length),(18,vi i),(28,vi x.kids.length),(29,vi ((0 : Nat) : Int))]) (by (simp only [go_sem]; repeat' (first | refine Kp ?_ ?_ | exact Or.inl rfl | exact Or.inr rfl | rfl))) ?_
  refine Kk 6 (by simp only [List.length_nil,List.length_cons]; decide) (by simp only [go_sem]) (by simp only [go_sem]) ?_
  simp only [go_sem]
  refine Km (fun mz sz => ∃ j : Nat,j <= x.kids.length /\ mz = x.kids.length - j /\ sz = ⟨fr 51 [(2,.one (.d (.bx [.int .i64 g.root,.sl (nds g.l)]))),(4,.one (.ptr 0 0)),(5,.one (.ptr 3 0)),(7,.one (.ptr 4 0)),(16,.one (.d (.sl (nds h.l)))),(17,vi h.l.length),(18,vi i),(28,vi x.kids.length),(29,vi (j : Int))],[.cells [.d (.int .i64 0),.nil],.row 6 (1 + i) (nds ((Xcn g.l h.l).take (g.l.length + i))),.dead,.cells [.d (.int .i64 g.root),.own 1 (1 + i)],.cells [.d (.int .i64 x.k),.d (.int .i64 x.x.k),.d (.int .i64 x.x.n),.d (.str x.x.s),.d (.sl (scs x.keys)),.own 5 1],.row 1 1 (ints (shK (g.l.length : Int) x.kids j))]⟩) x.kids.length ⟨0,Nat.zero_le _,rfl,rfl⟩ ?_
  rintro _ _ ⟨j,hj,rfl,rfl⟩
  simp only [go_sem]
  by_cases hjl : j < x.kids.length
  ·obtain ⟨y,hy⟩ := Xak hjl
   have e2 : decide ((j : Int) < (x.kids.length : Int)) = true := decide_eq_true (by omega)
   have hyk := hkin x hxm y (List.mem_of_getElem? hy)
   have hsa := Wf0 (n := (g.l.length : Int)) hy
   have hsl := Y46 (g.l.length : Int) x.kids j (by omega)
   have hss := Y47 (n := (g.l.length : Int)) hy
   repeat' (first | refine Kn rfl ?_ | ((first | refine Ka ?_ | refine Kb ?_ | refine Kc ?_ | refine Kd ?_ | refine Ke ?_); simp only [Xcy,Xcz,Xc0,Xcm,Xc1,Xc2,Xc3,Xbu,Xbv,Xbw,Xbx,Xby,Xbz,Xb0,e2,go_sem]) | refine Kf ?_ | refine Kg ?_ | refine ⟨Int.natCast_nonneg _,by omega,_,⟨Xdp hsa,Nat.le_refl _⟩,Sh.intro ?_⟩ | refine Kp (fun _ => ?_) (fun _ => ?_) | ((first | refine Kh ?_ | refine Ki rfl ?_); simp only [Xcy,Xcz,Xc0,Xcm,Xc1,Xc2,Xc3,Xbu,Xbv,Xbw,Xbx,Xby,Xbz,Xb0,e2,or_self,Qs,Qt,Qu,Qv,Qw,Qx,Qy,Qz,Za,go_sem]))
   refine ⟨by unfold inK; simp [IntKind.min,IntKind.max,IntKind.signed,IntKind.bits]; omega,Int.natCast_nonneg _,by omega,_,⟨Xdp hsa,Nat.le_refl _⟩,Sh.intro ?_⟩
   simp only [go_sem]
   rw [hss]
   repeat' (first | refine Kn rfl ?_ | ((first | refine Ka ?_ | refine Kb ?_ | refine Kc ?_ | refine Kd ?_ | refine Ke ?_); simp only [Xcy,Xcz,Xc0,Xcm,Xc1,Xc2,Xc3,Xbu,Xbv,Xbw,Xbx,Xby,Xbz,Xb0,go_sem]) | refine Kf ?_ | refine Kg ?_ | refine Kp (fun _ => ?_) (fun _ => ?_) | ((first | refine Kh ?_ | refine Ki rfl ?_); simp only [Xcy,Xcz,Xc0,Xcm,Xc1,Xc2,Xc3,Xbu,Xbv,Xbw,Xbx,Xby,Xbz,Xb0,or_self,Qs,Qt,Qu,Qv,Qw,Qx,Qy,Qz,Za,go_sem]))
   refine ⟨Xan hjl (by unfold Xad; omega),?_⟩
   refine Kj (fr 51 [(2,.one (.d (.bx [.int .i64 g.root,.sl (nds g.l)]))),(4,.one (.ptr 0 0)),(5,.one (.ptr 3 0)),(7,.one (.ptr 4 0)),(16,.one (.d (.sl (nds h.l)))),(17,vi h.l.length),(18,vi i),(28,vi x.kids.length),(29,vi (j + 1))]) (by (simp only [go_sem]; repeat' (first | refine Kp ?_ ?_ | exact Or.inl rfl | exact Or.inr rfl | rfl))) ?_
   exact Kl ⟨x.kids.length - (j + 1),by omega,j + 1,by omega,rfl,rfl⟩
  ·obtain rfl : j = x.kids.length := by omega
   have e2 : decide ((x.kids.length : Int) < (x.kids.length : Int)) = false := decide_eq_false (by omega)
   have hsf : shK (g.l.length : Int) x.kids x.kids.length = x.kids.map fun i => i + (g.l.length : Int) := by simp [shK]
   rw [hsf]
   refine Xar 5 ?_
   simp only [go_sem]
   repeat' (first | refine Kn rfl ?_ | ((first | refine Ka ?_ | refine Kb ?_ | refine Kc ?_ | refine Kd ?_ | refine Ke ?_); simp only [Xcy,Xcz,Xc0,Xcm,Xc1,Xc2,Xc3,Xbu,Xbv,Xbw,Xbx,Xby,Xbz,Xb0,e2,go_sem]) | refine Kf ?_ | refine Kg ?_ | refine Kp (fun _ => ?_) (fun _ => ?_) | ((first | refine Kh ?_ | refine Ki rfl ?_); simp only [Xcy,Xcz,Xc0,Xcm,Xc1,Xc2,Xc3,Xbu,Xbv,Xbw,Xbx,Xby,Xbz,Xb0,e2,or_self,Qs,Qt,Qu,Qv,Qw,Qx,Qy,Qz,Za,go_sem]))
   refine ⟨by simp,by simp only [List.length_take,List.length_map]; omega,by simp only [List.length_take,List.length_map]; unfold Xad; omega,?_⟩
   rw [hsn]
   repeat' (first | refine Kn rfl ?_ | ((first | refine Ka ?_ | refine Kb ?_ | refine Kc ?_ | refine Kd ?_ | refine Ke ?_); simp only [Xcy,Xcz,Xc0,Xcm,Xc1,Xc2,Xc3,Xbu,Xbv,Xbw,Xbx,Xby,Xbz,Xb0,go_sem]) | refine Kf ?_ | refine Kg ?_ | refine Kp (fun _ => ?_) (fun _ => ?_) | ((first | refine Kh ?_ | refine Ki rfl ?_); simp only [Xcy,Xcz,Xc0,Xcm,Xc1,Xc2,Xc3,Xbu,Xbv,Xbw,Xbx,Xby,Xbz,Xb0,or_self,Qs,Qt,Qu,Qv,Qw,Qx,Qy,Qz,Za,go_sem]))
   refine ⟨Xan hil (by unfold Xad; omega),?_⟩
   refine Kj (fr 51 [(2,.one (.d (.bx [.int .i64 g.root,.sl (nds g.l)]))),(4,.one (.ptr 0 0)),(5,.one (.ptr 3 0)),(16,.one (.d (.sl (nds h.l)))),(17,vi h.l.length),(18,vi (i + 1))]) (by (simp only [go_sem]; repeat' (first | refine Kp ?_ ?_ | exact Or.inl rfl | exact Or.inr rfl | rfl))) ?_
   refine Kk 4 (by simp only [List.length_nil,List.length_cons]; decide) (by simp only [go_sem]) (by simp only [go_sem]) ?_
   simp only [go_sem]
   refine Kl ⟨h.l.length - (i + 1),by omega,i + 1,by omega,rfl,?_,rfl⟩
   exact Nat.zero_le _
 ·repeat refine Ko rfl ?_
  refine Ka ?_
  simp only [Xcm,go_sem]
  repeat refine Ko rfl ?_
  refine Ke ?_
  simp only [go_sem]
  refine ⟨fun h => by exfalso; omega,fun _ => Xgk rfl ?_⟩
  obtain rfl : i = h.l.length := by omega
  rw [List.take_of_length_le (by omega)]
  refine Xar 1 ?_
  simp only [go_sem]
  repeat' (first | refine Kn rfl ?_ | ((first | refine Ka ?_ | refine Kb ?_ | refine Kc ?_ | refine Kd ?_ | refine Ke ?_); simp only [Xcy,Xcz,Xc0,Xcm,Xc1,Xc2,Xc3,Xbu,Xbv,Xbw,Xbx,Xby,Xbz,Xb0,go_sem]) | refine Kf ?_ | refine Kg ?_ | refine Kp (fun _ => ?_) (fun _ => ?_) | ((first | refine Kh ?_ | refine Ki rfl ?_); simp only [Xcy,Xcz,Xc0,Xcm,Xc1,Xc2,Xc3,Xbu,Xbv,Xbw,Xbx,Xby,Xbz,Xb0,or_self,Qs,Qt,Qu,Qv,Qw,Qx,Qy,Qz,Za,go_sem]))
  exact ⟨rfl,rfl⟩
noncomputable def bisB (g h : Gr) : Bool := if chk g = none /\ chk h = none then simB g h else false
noncomputable def bisE (g h : Gr) : Int := if chkE g = 0 then chkE h else chkE g
theorem Wf1 {g : Gr} : chkE g = 0 ↔ chk g = none := ⟨fun e => Classical.byContradiction fun h => Xf6 h e,Xbp⟩
theorem Xqa {x : Nd} {n : Int} (h : x.short) : (Xce n x).short := ⟨h.1,by simp only [Xce,List.length_map]; exact h.2.1,h.2.2⟩
abbrev bisL (g h : Gr) : List (List D) := [[.int .i64 g.root,.sl (nds g.l)],[.int .i64 h.root,.sl (nds h.l)]]
set_option maxHeartbeats 1000000 in
theorem Xgz (h : Env10 gp) (g k : Gr) (hs : Xbt g) (hs' : Xbt k) (hst : ∀ x ∈ g.l,x.short) (hst' : ∀ x ∈ k.l,x.short) : Does QP gp 16 [g.v,k.v] (.tup [vb (bisB g k),vi (bisE g k)]) := by
 have c1 : Does QP gp 36 [g.v] (.tup [vi ((chk g).getD (0,0)).1,vi (chkE g)]) := Xmf h.e g
 have c2 : Does QP gp 36 [k.v] (.tup [vi ((chk k).getD (0,0)).1,vi (chkE k)]) := Xmf h.e k
 refine Wdo ?_
 simp only [go_sem]
 refine Xe3 31 ?_
 simp only [go_sem]
 repeat' (first | refine Kn rfl ?_ | ((first | refine Ka ?_ | refine Kb ?_ | refine Kc ?_ | refine Kd ?_ | refine Ke ?_); simp only [go_sem]) | refine Kf ?_ | refine Kg ?_ | refine Kp (fun _ => ?_) (fun _ => ?_) | ((first | refine Kh ?_ | refine Ki rfl ?_); simp only [or_self,Qs,Qt,Qu,Qv,Qw,Qx,Qy,Qz,Za,go_sem]))
 refine Kj (fr 48 [(2,.one (.d (.bx [.int .i64 g.root,.sl (nds g.l)]))),(3,.one (.d (.bx [.int .i64 k.root,.sl (nds k.l)]))),(13,.one (.d (.sl (bisL g k)))),(14,vi 2),(15,vi ((0 : Nat) : Int)),(31,.one .un)]) (by (simp only [go_sem]; repeat' (first | refine Kp ?_ ?_ | exact Or.inl rfl | exact Or.inr rfl | rfl))) ?_
 refine Kj (fr 48 [(2,.one (.d (.bx [.int .i64 g.root,.sl (nds g.l)]))),(3,.one (.d (.bx [.int .i64 k.root,.sl (nds k.l)]))),(13,.one (.d (.sl (bisL g k)))),(14,vi 2),(15,vi (0 : Nat)),(31,.one .un)]) (by (simp only [go_sem]; repeat' (first | refine Kp ?_ ?_ | exact Or.inl rfl | exact Or.inr rfl | rfl))) ?_
 refine Km (fun mz sz => ∃ i : Nat,i <= 2 /\ mz = 2 - i /\ ((1 <= i -> chkE g = 0) /\ (2 <= i -> chkE k = 0)) /\ sz = ⟨fr 48 [(2,.one (.d (.bx [.int .i64 g.root,.sl (nds g.l)]))),(3,.one (.d (.bx [.int .i64 k.root,.sl (nds k.l)]))),(13,.one (.d (.sl (bisL g k)))),(14,vi 2),(15,vi i),(31,.one .un)],[]⟩) (2) ⟨0,Nat.zero_le _,(Nat.sub_zero _).symm,?_,rfl⟩ ?_
 ·exact ⟨fun h => by omega,fun h => by omega⟩
 rintro _ _ ⟨i,hi,rfl,⟨hi1,hi2⟩,rfl⟩
 simp only [go_sem]
 by_cases hil : i < 2
 ·have e1 : decide ((i : Int) < 2) = true := decide_eq_true (by omega)
  by_cases h0 : i = 0
  ·subst h0
   by_cases e : chkE g = 0
   ·rw [e] at c1
    repeat' (first | refine Kn rfl ?_ | ((first | refine Ka ?_ | refine Kb ?_ | refine Kc ?_ | refine Kd ?_ | refine Ke ?_); simp only [e1,go_sem]) | refine Kf ?_ | refine Kg ?_ | refine ⟨_,c1,Sh.intro ?_⟩ | refine ⟨_,⟨c1,rfl⟩,Sh.intro ?_⟩ | refine ⟨_,⟨rfl,rfl⟩,Sh.intro ?_⟩ | (refine Kp (fun _ => ?_) (fun _ => ?_) <;> try (exfalso; omega)) | ((first | refine Kh ?_ | refine Ki rfl ?_); simp only [e1,or_self,Qs,Qt,Qu,Qv,Qw,Qx,Qy,Qz,Za,go_sem]))
    refine ⟨Xan (n := 2) (by omega) (by unfold Xad; omega),?_⟩
    refine Kj (fr 48 [(2,.one (.d (.bx [.int .i64 g.root,.sl (nds g.l)]))),(3,.one (.d (.bx [.int .i64 k.root,.sl (nds k.l)]))),(13,.one (.d (.sl (bisL g k)))),(14,vi 2),(15,vi ((0 : Nat) + 1 : Int)),(31,.one .un)]) (by (simp only [go_sem]; repeat' (first | refine Kp ?_ ?_ | exact Or.inl rfl | exact Or.inr rfl | rfl))) ?_
    refine Kk 0 (by simp only [List.length_nil,List.length_cons]; decide) (by simp only [go_sem]) (by simp only [go_sem]) ?_
    simp only [go_sem]
    exact Kl ⟨1,by omega,1,by omega,rfl,⟨fun _ => e,fun h => by omega⟩,rfl⟩
   ·have hb : bisB g k = false := by unfold bisB; rw [if_neg (fun h => e (Xbp h.1))]
    have he : bisE g k = chkE g := by unfold bisE; rw [if_neg e]
    rw [hb,he]
    have e2 : (chkE g != 0) = true := by simpa using e
    repeat' (first | refine Kn rfl ?_ | ((first | refine Ka ?_ | refine Kb ?_ | refine Kc ?_ | refine Kd ?_ | refine Ke ?_); simp only [e1,e2,go_sem]) | refine Kf ?_ | refine Kg ?_ | refine ⟨_,c1,Sh.intro ?_⟩ | refine ⟨_,⟨c1,rfl⟩,Sh.intro ?_⟩ | refine ⟨_,⟨rfl,rfl⟩,Sh.intro ?_⟩ | (refine Kp (fun _ => ?_) (fun _ => ?_) <;> try (exfalso; omega)) | ((first | refine Kh ?_ | refine Ki rfl ?_); simp only [e1,e2,or_self,Qs,Qt,Qu,Qv,Qw,Qx,Qy,Qz,Za,go_sem]))
  ·obtain rfl : i = 1 := by omega
   have e0 := hi1 (by omega)
   by_cases e : chkE k = 0
   ·rw [e] at c2
    repeat' (first | refine Kn rfl ?_ | ((first | refine Ka ?_ | refine Kb ?_ | refine Kc ?_ | refine Kd ?_ | refine Ke ?_); simp only [e1,go_sem]) | refine Kf ?_ | refine Kg ?_ | refine ⟨_,c2,Sh.intro ?_⟩ | refine ⟨_,⟨c2,rfl⟩,Sh.intro ?_⟩ | refine ⟨_,⟨rfl,rfl⟩,Sh.intro ?_⟩ | (refine Kp (fun _ => ?_) (fun _ => ?_) <;> try (exfalso; omega)) | ((first | refine Kh ?_ | refine Ki rfl ?_); simp only [e1,or_self,Qs,Qt,Qu,Qv,Qw,Qx,Qy,Qz,Za,go_sem]))
    refine ⟨Xan (n := 2) (by omega) (by unfold Xad; omega),?_⟩
    refine Kj (fr 48 [(2,.one (.d (.bx [.int .i64 g.root,.sl (nds g.l)]))),(3,.one (.d (.bx [.int .i64 k.root,.sl (nds k.l)]))),(13,.one (.d (.sl (bisL g k)))),(14,vi 2),(15,vi ((1 : Nat) + 1 : Int)),(31,.one .un)]) (by (simp only [go_sem]; repeat' (first | refine Kp ?_ ?_ | exact Or.inl rfl | exact Or.inr rfl | rfl))) ?_
    refine Kk 0 (by simp only [List.length_nil,List.length_cons]; decide) (by simp only [go_sem]) (by simp only [go_sem]) ?_
    simp only [go_sem]
    exact Kl ⟨0,by omega,2,by omega,rfl,⟨fun _ => e0,fun _ => e⟩,rfl⟩
   ·have hb : bisB g k = false := by unfold bisB; rw [if_neg (fun h => e (Xbp h.2))]
    have he : bisE g k = chkE k := by unfold bisE; rw [if_pos e0]
    rw [hb,he]
    have e2 : (chkE k != 0) = true := by simpa using e
    repeat' (first | refine Kn rfl ?_ | ((first | refine Ka ?_ | refine Kb ?_ | refine Kc ?_ | refine Kd ?_ | refine Ke ?_); simp only [e1,e2,go_sem]) | refine Kf ?_ | refine Kg ?_ | refine ⟨_,c2,Sh.intro ?_⟩ | refine ⟨_,⟨c2,rfl⟩,Sh.intro ?_⟩ | refine ⟨_,⟨rfl,rfl⟩,Sh.intro ?_⟩ | (refine Kp (fun _ => ?_) (fun _ => ?_) <;> try (exfalso; omega)) | ((first | refine Kh ?_ | refine Ki rfl ?_); simp only [e1,e2,or_self,Qs,Qt,Qu,Qv,Qw,Qx,Qy,Qz,Za,go_sem]))
 ·obtain rfl : i = 2 := by omega
  have hg : Good g := ⟨Wf1.1 (hi1 (by omega)),hs⟩
  have hk : Good k := ⟨Wf1.1 (hi2 (by omega)),hs'⟩
  have hgl := hg.len
  have hkl := hk.len
  have hJf : Fine (Xcn g.l k.l) := hg.fine.join hk.fine
  have hJl : (Xcn g.l k.l).length = g.l.length + k.l.length := Xnw
  have hn : Neat (Xlq g k) := ⟨hJf,fun x hx => by
   rcases List.mem_append.1 hx with hx | hx
   ·exact hst x hx
   ·obtain ⟨y,hy,rfl⟩ := List.mem_map.1 hx
    exact Xqa (hst' y hy),by show (Xcn g.l k.l).length <= 1000; omega⟩
  have hb : bisB g k = simB g k := by unfold bisB; rw [if_pos ⟨hg.c,hk.c⟩]
  have he : bisE g k = 0 := by unfold bisE; rw [if_pos (Xbp hg.c),Xbp hk.c]
  rw [hb,he]
  have c3 := Yir (gp := gp) hg hk
  obtain ⟨u,hu⟩ := X9e hJf (Xd0 hg.root).1
  obtain ⟨v,hv⟩ := X9e hJf (Xdr (l := g.l) hk.root).1
  have hsim : simB g k = (u == v) := by
   unfold simB
   rw [hu,hv,Bool.eq_iff_iff,decide_eq_true_iff,beq_iff_eq,Option.some.injEq]
  rw [hsim]
  have hr1 := hg.root
  have hr2 := hk.root
  repeat' (first | refine Kn rfl ?_ | ((first | refine Ka ?_ | refine Kb ?_ | refine Kc ?_ | refine Kd ?_ | refine Ke ?_); simp only [go_sem]) | refine Kf ?_ | refine Kg ?_ | refine ⟨_,c3,Sh.intro ?_⟩ | refine ⟨_,⟨c3,rfl⟩,Sh.intro ?_⟩ | (refine Kp (fun _ => ?_) (fun _ => ?_) <;> try (exfalso; omega)) | ((first | refine Kh ?_ | refine Ki rfl ?_); simp only [or_self,Qs,Qt,Qu,Qv,Qw,Qx,Qy,Qz,Za,go_sem]))
  refine Or.inr ⟨[],.one (.ptr 1 0),[.row 1 0 (ints (Xbq (Xlq g k).l.length)),.cells [.d (.int .i64 (Xlq g k).root),.d (.sl (nds (Xlq g k).l)),.own 0 0]],(by simp only [Xa5,rnVs,rnV,rnA,rnAs,rn0,rn0s,posN,rnCs,rnC,getC,List.isEmpty_nil,reduceCtorEq,↓reduceIte,Qa,Qb,Qc,Qd,Qe,Qf,Qg,Qh,Qi,Qj,Qk,Ql,Qm,Qn,Qo,Qp,Qq,Qr]; simp only [go_sem]; exact ⟨Yag,of10 (Xlq g k) hn.len⟩),Sh.intro ?_⟩
  simp only [go_sem]
  repeat' (first | refine Kn rfl ?_ | ((first | refine Ka ?_ | refine Kb ?_ | refine Kc ?_ | refine Kd ?_ | refine Ke ?_); simp only [go_sem]) | refine Kf ?_ | refine Kg ?_ | refine Kp (fun _ => ?_) (fun _ => ?_) | ((first | refine Kh ?_ | refine Ki rfl ?_); simp only [or_self,Qs,Qt,Qu,Qv,Qw,Qx,Qy,Qz,Za,go_sem]))
  refine Or.inr (Or.inr ⟨[1,0],.one (.own 1 0),[pC (Xlq g k) 0,.row 1 0 (ints (clsL (Xlq g k).l))],(by simp only [Xa5,rnVs,rnV,rnA,rnAs,rn0,rn0s,posN,rnCs,rnC,getC,List.isEmpty_nil,reduceCtorEq,↓reduceIte,Qa,Qb,Qc,Qd,Qe,Qf,Qg,Qh,Qi,Qj,Qk,Ql,Qm,Qn,Qo,Qp,Qq,Qr]; simp only [go_sem]; exact ⟨Ynt,Xwn h hn 0⟩),Sh.intro ?_⟩)
  simp only [go_sem]
  repeat' (first | ((first | refine Kb ?_ | refine Kc ?_ | refine Kd ?_); simp only [go_sem]) | refine Kf ?_ | refine Kg ?_)
  refine Xar 0 ?_
  simp only [go_sem]
  have hu' : (ints (clsL (Xlq g k).l))[g.root.toNat]? = some [.int .i64 u] := Xdp hu
  have hv' : (ints (clsL (Xlq g k).l))[(k.root + (g.l.length : Int)).toNat]? = some [.int .i64 v] := Xdp hv
  have hk0 : 0 <= k.root + (g.l.length : Int) := by omega
  repeat' (first | refine Kn rfl ?_ | ((first | refine Ka ?_ | refine Kb ?_ | refine Kc ?_ | refine Kd ?_ | refine Ke ?_); simp only [go_sem]) | refine Kf ?_ | refine Kg ?_ | refine ⟨_,⟨hr1.1,hu',rfl⟩,Sh.intro ?_⟩ | refine ⟨_,⟨hk0,hv',rfl⟩,Sh.intro ?_⟩ | refine Kp (fun _ => ?_) (fun _ => ?_) | ((first | refine Kh ?_ | refine Ki rfl ?_); simp only [or_self,Qs,Qt,Qu,Qv,Qw,Qx,Qy,Qz,Za,go_sem]))
  refine ⟨by unfold inK; simp [IntKind.min,IntKind.max,IntKind.signed,IntKind.bits]; omega,_,⟨hk0,hv',rfl⟩,Sh.intro ?_⟩
  repeat' (first | refine Kn rfl ?_ | ((first | refine Ka ?_ | refine Kb ?_ | refine Kc ?_ | refine Kd ?_ | refine Ke ?_); simp only [go_sem]) | refine Kf ?_ | refine Kg ?_ | refine Kp (fun _ => ?_) (fun _ => ?_) | ((first | refine Kh ?_ | refine Ki rfl ?_); simp only [or_self,Qs,Qt,Qu,Qv,Qw,Qx,Qy,Qz,Za,go_sem]))
end Go.Fw.L07
