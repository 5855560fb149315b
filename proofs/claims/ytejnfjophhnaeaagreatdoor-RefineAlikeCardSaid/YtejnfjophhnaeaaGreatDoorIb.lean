/- Chapter 9: the pairs of two graphs. -/
import Derived.Test.YtejnfjophhnaeaaGreatDoorIa
set_option linter.all false
namespace Go.Fw.L07
open Go Go.Fw
open Go.Fw.Sh renaming intro -> Kg
open Go.Fw renaming Xii -> Ka,Xej -> Ka,Xek -> Ka,Xeh -> Kb,Xio -> Kc,Xip -> Kd,Xei -> Ke,Xel -> Kf,Xik -> Kh,Xij -> Ki,Xfl -> Kj,Xgl -> Kk,Xdv -> Kl,Xfk -> Km,Gx -> Kn
open And renaming intro -> Kp
open Go.Proofs.Tryz renaming prog -> QP
open Go.Fw.V.one renaming injEq -> Qs
open Go.Fw.V.agg renaming injEq -> Qt
open Go.Fw.V.tup renaming injEq -> Qu
open Go.Fw.A.d renaming injEq -> Qv
open Go.Fw.D.bool renaming injEq -> Qw
open Go.Fw.D.int renaming injEq -> Qx
open Go.Fw.D.str renaming injEq -> Qy
open Go.Fw.D.sl renaming injEq -> Qz
open List.cons renaming injEq -> Za
set_option maxRecDepth 4000
variable {gp : Heap} {ua : Addr}
theorem Y41 (p q : Pp) : eqV true [.i,.i] (pv p) (pv q) = some (decide (p = q)) := by
 simp only [go_sem]
 rw [Wg6]
theorem Xwp {out : List Pp} {p : Pp} (h : p ∈ out) : Xcr true [.i,.i] (met9 out) (pv p) = some (some (vb true)) := (Xhv Y41 out p).trans (by rw [if_pos h])
theorem Ybm {out : List Pp} {p : Pp} (h : p ∉ out) : Xcr true [.i,.i] (met9 out) (pv p) = some none := (Xhv Y41 out p).trans (by rw [if_neg h])
theorem Xn3 {out : List Pp} {p : Pp} (h : p ∉ out) : putM true [.i,.i] (met9 out) (pv p) (vb true) = some (met9 (out ++ [p])) := Xnc Y41 out p h
theorem Y42 (g h : Gr) (out st : List Pp) (v : Nat) : Tri QP gp 93 [.one (.ptr 2 0)] [.map (met9 out),.row 2 v (pps st),wp9 g h v] fun r post =>
  r = .one (.clo (.func 116) [.ptr 3 0]) /\ post = [.map (met9 out),.row 2 v (pps st),wp9 g h v,.cells [.ptr 2 0]] := by
 refine Y0q ?_
 simp only [go_sem]
 repeat' (first | refine Kn rfl ?_ | ((first | refine Ka ?_ | refine Kb ?_ | refine Kc ?_ | refine Kd ?_ | refine Ke ?_); simp only [go_sem]) | refine Kf ?_ | refine Kg ?_ | refine Kp (fun _ => ?_) (fun _ => ?_) | ((first | refine Kh ?_ | refine Ki rfl ?_); simp only [or_self,Qs,Qt,Qu,Qv,Qw,Qx,Qy,Qz,Za,go_sem]))
 all_goals trace_state
theorem Xrp (js : List Nat) (out : List Pp) : rnC js (.map (met9 out)) = some (.map (met9 out)) := by simp only [rnC,Xa3]; rfl
abbrev wp5 (g h : Gr) (v : Nat) : Ch := .cells [.d (.int .i64 g.root),.d (.sl (nds g.l)),.d (.int .i64 h.root),.d (.sl (nds h.l)),.own 2 0,.own 3 v]
def eD9 (ua : Addr) (b : Bool) : D := if b then .nilI else iE ua
set_option maxHeartbeats 4000000 in
theorem Xx2 (h9 : Env9 gp ua) {g h : Gr} (hg : Good g) (hh : Good h) : Does QP gp 66 [g.v,h.v] (.tup [.one (.d (.sl (pps (Xb9 g h).1))),vb (Xb9 g h).2,vi 0]) := by
 obtain ⟨T,fz,hgl⟩ := h9.g
 have hI1 := h9.is1
 have hI0 := h9.is0
 have hw0 := Xh0 hg hh
 have hgl1 := hg.len
 have hgl2 := hh.len
 generalize (Xb9 g h).1 = W at *
 generalize (Xb9 g h).2 = ok at *
 refine Yl7 ?_
 simp only [go_sem]
 have c1 : Does QP gp 92 [.one (.d (.sl (grs [g,h])))] (vi 0) := by
  have := Ymo h9.e [g,h] (by simp)
  simpa [Xdz,Xbp hg.c,Xbp hh.c] using this
 repeat' (first | refine Kn rfl ?_ | ((first | refine Ka ?_ | refine Kb ?_ | refine Kc ?_ | refine Kd ?_ | refine Ke ?_); simp only [go_sem]) | refine Kf ?_ | refine Kg ?_ | refine ⟨_,c1,Sh.intro ?_⟩ | refine ⟨_,⟨c1,rfl⟩,Sh.intro ?_⟩ | (refine Kp (fun _ => ?_) (fun _ => ?_) <;> try (exfalso; omega)) | ((first | refine Kh ?_ | refine Ki rfl ?_); simp only [or_self,Qs,Qt,Qu,Qv,Qw,Qx,Qy,Qz,Za,go_sem]))
 all_goals first | (exfalso; omega) | skip
 refine Or.inr (Or.inr ⟨[2,3,4],.one (.clo (.func 116) [.ptr 3 0]),[.map (met9 []),.row 2 0 (pps [(g.root,h.root)]),wp9 g h 0,.cells [.ptr 2 0]],(by simp only [Xa5,go_sem]; exact ⟨Wcc,Y42 g h [] [(g.root,h.root)] 0⟩),Sh.intro ?_⟩)
 simp only [bkO,bkC,Xa3]
 simp only [go_sem]
 repeat' (first | refine Kn rfl ?_ | ((first | refine Ka ?_ | refine Kb ?_ | refine Kc ?_ | refine Kd ?_ | refine Ke ?_); simp only [go_sem]) | refine Kf ?_ | refine Kg ?_ | refine Kp (fun _ => ?_) (fun _ => ?_) | ((first | refine Kh ?_ | refine Ki rfl ?_); simp only [or_self,Qs,Qt,Qu,Qv,Qw,Qx,Qy,Qz,Za,go_sem]))
 refine Kj (fr 44 [(8,.one (.ptr 0 0)),(9,.one (.ptr 1 0)),(33,.one (.clo (.func 116) [.ptr 5 0]))]) (by (simp only [go_sem]; repeat' (first | refine Kp ?_ ?_ | exact Or.inl rfl | exact Or.inr rfl | rfl))) ?_
 simp only [go_sem]
 refine Xin 0 0 2 (by decide) rfl rfl ?_
 simp only [go_sem]
 refine G_rf (f2 := 116) (caps := [.one (.ptr 5 0)]) (fun pd own' => pd = none /\ ∃ v st rest,own' = .cells [.own 7 W.length] :: .cells [.d (eD9 ua ok)] :: .map (met9 W) :: .row 2 v st :: wp5 g h v :: .cells [.ptr 4 0] :: .dead :: .row 2 W.length (pps W) :: rest) rfl ?_ Y0w ?_ ?_ ?_
 ·intro y; simp only [go_sem]
 ·rintro b rc hps ⟨hs,hta,htb⟩
  refine Yhj ?_
  simp only [go_sem]
  repeat' (first | refine Kn rfl ?_ | ((first | refine Ka ?_ | refine Kb ?_ | refine Kc ?_ | refine Kd ?_ | refine Ke ?_); simp only [Xb8,go_sem]) | refine Kf ?_ | refine Kg ?_ | refine Kp (fun _ => ?_) (fun _ => ?_) | ((first | refine Kh ?_ | refine Ki rfl ?_); simp only [Xb8,or_self,Qs,Qt,Qu,Qv,Qw,Qx,Qy,Qz,Za,go_sem]))
  refine Kj (fr 69 [(0,.one (.d (.raw (.func (.yield b) #[] #[])))),(1,.one (.ptr 5 0))]) (by (simp only [go_sem]; repeat' (first | refine Kp ?_ ?_ | exact Or.inl rfl | exact Or.inr rfl | rfl))) ?_
  refine Km (fun mz sz => ∃ (t out : List Pp) (v : Nat),mz = (200000 - out.length) * 13 + t.length /\ PW (fitP g h) (kdP g h) t out W ok /\ out.Nodup /\ (∀ p ∈ out,(0 <= p.1 /\ p.1 < g.l.length) /\ (0 <= p.2 /\ p.2 < h.l.length)) /\ (∀ p ∈ t,(0 <= p.1 /\ p.1 < g.l.length) /\ (0 <= p.2 /\ p.2 < h.l.length)) /\ t.length <= 1 + 12 * out.length /\ sz = ⟨(fr 69 [(0,.one (.d (.raw (.func (.yield b) #[] #[])))),(1,.one (.ptr 5 0))]),[.cells [.own 7 out.length],.cells [.d .nilI],.map (met9 out),.row 2 v (pps t.reverse),wp5 g h v,.cells [.ptr 4 0],.dead,.row 2 out.length (pps out),.lp b (fr 44 [(8,.one (.ptr 0 0)),(9,.one (.ptr 1 0)),(33,.one (.clo (.func 116) [.ptr 5 0]))]) rc .ready none]⟩) _ ⟨[(g.root,h.root)],[],0,rfl,hw0,by simp,by simp,by simpa using ⟨hg.root,hh.root⟩,by simp,rfl⟩ ?_
  rintro _ _ ⟨t,out,v,rfl,hw,hn,hio,hit,ht,rfl⟩
  have hol : out.length <= 200000 := Xf8 (n := 0) hn fun p hp => by have := hio p hp; omega
  cases t with
  | nil =>
   obtain ⟨rfl,rfl⟩ := hw.nil_inv
   simp only [List.reverse_nil,go_sem]
   repeat' (first | refine Kn rfl ?_ | ((first | refine Ka ?_ | refine Kb ?_ | refine Kc ?_ | refine Kd ?_ | refine Ke ?_); simp only [Xb8,List.reverse_nil,go_sem]) | refine Kf ?_ | refine Kg ?_ | (refine Kp (fun _ => ?_) (fun _ => ?_) <;> try (exfalso; omega)) | ((first | refine Kh ?_ | refine Ki rfl ?_); simp only [Xb8,List.reverse_nil,or_self,Qs,Qt,Qu,Qv,Qw,Qx,Qy,Qz,Za,go_sem]))
   exact ⟨.ready,none,rfl,by simp,rfl,_,_,_,rfl,rfl,rfl,rfl⟩
  | cons p r =>
   have hlen : (r.reverse ++ [p]).length = r.length + 1 := by simp
   have hm1 : ((r.length + 1 : Nat) : Int) - 1 = (r.length : Int) := by omega
   have hget : (pps (r.reverse ++ [p]))[r.length]? = some (pds p) := Xae (by rw [List.getElem?_append_right (by simp)]; simp)
   have hik : inK .i64 (r.length : Int) := by rw [<- hm1]; exact Xkv (by simp at ht; unfold Xad; omega)
   have htk : (pps (r.reverse ++ [p])).take r.length = pps r.reverse := by
    simp only [pps,<- List.map_take]
    rw [List.take_append_of_le_length (by simp),List.take_of_length_le (by simp)]
   simp only [List.reverse_cons]
   simp only [go_sem]
   by_cases hm : p ∈ out
   ·have hf := Xwp hm
    repeat' (first | refine Kn rfl ?_ | ((first | refine Ka ?_ | refine Kb ?_ | refine Kc ?_ | refine Kd ?_ | refine Ke ?_); simp only [hlen,hm1,go_sem]) | refine Kf ?_ | refine Kg ?_ | refine ⟨hik,?_⟩ | refine ⟨Int.natCast_nonneg _,Nat.lt_succ_self _,?_⟩ | refine ⟨_,⟨hget,Nat.le_refl _⟩,Sh.intro ?_⟩ | (refine Kp (fun _ => ?_) (fun _ => ?_) <;> try (exfalso; omega)) | ((first | refine Kh ?_ | refine Ki rfl ?_); simp only [hlen,hm1,or_self,Qs,Qt,Qu,Qv,Qw,Qx,Qy,Qz,Za,go_sem]))
    refine Kj (fr 69 [(0,.one (.d (.raw (.func (.yield b) #[] #[])))),(1,.one (.ptr 5 0)),(3,vi r.length),(4,.one (.ptr 9 0))]) (by (simp only [go_sem]; repeat' (first | refine Kp ?_ ?_ | exact Or.inl rfl | exact Or.inr rfl | rfl))) ?_
    simp only [go_sem]
    refine Xar 9 ?_
    simp only [frzS,getC,List.map_cons,List.map_nil,Xla]
    simp only [go_sem]
    refine Kk 9 (by first | exact Nat.le_refl _ | exact Nat.zero_le _ | (simp only [List.length_nil,List.length_cons]; decide)) (by simp only [go_sem]) (by simp only [List.take_succ_cons,List.take_zero,List.all_cons,List.all_nil,Xa3]; simp only [go_sem]) ?_
    simp only [go_sem]
    repeat' (first | refine Kn rfl ?_ | ((first | refine Ka ?_ | refine Kb ?_ | refine Kc ?_ | refine Kd ?_ | refine Ke ?_); simp only [Xb8,hlen,go_sem]) | refine Kf ?_ | refine Kg ?_ | refine ⟨0,r.length,⟨rfl,rfl,Nat.zero_le _,Nat.le_succ _⟩,Sh.intro ?_⟩ | refine ⟨_,⟨hf,rfl⟩,Sh.intro ?_⟩ | (refine Kp (fun _ => ?_) (fun _ => ?_) <;> try (exfalso; omega)) | ((first | refine Kh ?_ | refine Ki rfl ?_); simp only [Xb8,hlen,or_self,Qs,Qt,Qu,Qv,Qw,Qx,Qy,Qz,Za,go_sem]))
    rw [htk]
    refine Kj (fr 69 [(0,.one (.d (.raw (.func (.yield b) #[] #[])))),(1,.one (.ptr 5 0))]) (by (simp only [go_sem]; repeat' (first | refine Kp ?_ ?_ | exact Or.inl rfl | exact Or.inr rfl | rfl))) ?_
    exact Kl ⟨(200000 - out.length) * 13 + r.length,by omega,r,out,v + 1,rfl,hw.skip_inv hm,hn,hio,fun j hj => hit j (List.mem_cons_of_mem _ hj),by simp at ht; omega,rfl⟩
   ·have hf := Ybm hm
    have hput := Xn3 hm
    have hpp := hit p (by simp)
    have hn' : (out ++ [p]).Nodup := Xf7 hn hm
    have hio' : ∀ q ∈ out ++ [p],(0 <= q.1 /\ q.1 < g.l.length) /\ (0 <= q.2 /\ q.2 < h.l.length) := fun q hq => by
     rcases List.mem_append.1 hq with hq | hq
     ·exact hio q hq
     ·simp only [List.mem_singleton] at hq; subst hq; exact hpp
    have hol' : out.length + 1 <= 200000 := by
     have := Xf8 (n := 0) hn' fun q hq => by have := hio' q hq; omega
     simpa using this
    have hlo : (out ++ [p]).length = out.length + 1 := by simp
    have cf : Does QP gp 117 [vwv g h,pv p] (err9 ua (fitP g h p)) := by
     obtain ⟨a,b⟩ := p
     obtain ⟨i,rfl⟩ := Int.eq_ofNat_of_zero_le hpp.1.1
     obtain ⟨j,rfl⟩ := Int.eq_ofNat_of_zero_le hpp.2.1
     exact Wg7 h9 g h i j hg.s hh.s (by omega) (by omega)
    repeat' (first | refine Kn rfl ?_ | ((first | refine Ka ?_ | refine Kb ?_ | refine Kc ?_ | refine Kd ?_ | refine Ke ?_); simp only [hlen,hm1,go_sem]) | refine Kf ?_ | refine Kg ?_ | refine ⟨hik,?_⟩ | refine ⟨Int.natCast_nonneg _,Nat.lt_succ_self _,?_⟩ | refine ⟨_,⟨hget,Nat.le_refl _⟩,Sh.intro ?_⟩ | (refine Kp (fun _ => ?_) (fun _ => ?_) <;> try (exfalso; omega)) | ((first | refine Kh ?_ | refine Ki rfl ?_); simp only [hlen,hm1,or_self,Qs,Qt,Qu,Qv,Qw,Qx,Qy,Qz,Za,go_sem]))
    refine Kj (fr 69 [(0,.one (.d (.raw (.func (.yield b) #[] #[])))),(1,.one (.ptr 5 0)),(3,vi r.length),(4,.one (.ptr 9 0))]) (by (simp only [go_sem]; repeat' (first | refine Kp ?_ ?_ | exact Or.inl rfl | exact Or.inr rfl | rfl))) ?_
    simp only [go_sem]
    refine Xar 9 ?_
    simp only [frzS,getC,List.map_cons,List.map_nil,Xla]
    simp only [go_sem]
    refine Kk 9 (by first | exact Nat.le_refl _ | exact Nat.zero_le _ | (simp only [List.length_nil,List.length_cons]; decide)) (by simp only [go_sem]) (by simp only [List.take_succ_cons,List.take_zero,List.all_cons,List.all_nil,Xa3]; simp only [go_sem]) ?_
    simp only [go_sem]
    cases hfit : fitP g h p with
    | true =>
     rw [hfit] at cf
     have cf : Does QP gp 117 [vwv g h,pv p] (.one (.d .nilI)) := cf
     repeat' (first | refine Kn rfl ?_ | ((first | refine Ka ?_ | refine Kb ?_ | refine Kc ?_ | refine Kd ?_ | refine Ke ?_); simp only [Xb8,hlen,go_sem]) | refine Kf ?_ | refine Kg ?_ | refine ⟨_,cf,Sh.intro ?_⟩ | refine ⟨_,⟨cf,rfl⟩,Sh.intro ?_⟩ | refine ⟨0,r.length,⟨rfl,rfl,Nat.zero_le _,Nat.le_succ _⟩,Sh.intro ?_⟩ | refine ⟨_,⟨hf,rfl⟩,Sh.intro ?_⟩ | refine ⟨_,hput,Sh.intro ?_⟩ | (refine Kp (fun _ => ?_) (fun _ => ?_) <;> try (exfalso; omega)) | ((first | refine Kh ?_ | refine Ki rfl ?_); simp only [Xb8,hlen,or_self,Qs,Qt,Qu,Qv,Qw,Qx,Qy,Qz,Za,go_sem]))
     rw [htk]
     refine ⟨[.cells [.own 7 (out.length + 1)],.cells [.d .nilI],.map (met9 (out ++ [p])),.row 2 (v + 1) (pps r.reverse),wp5 g h (v + 1),.cells [.ptr 4 0],.dead,.row 2 (out.length + 1) (pps (out ++ [p])),.lp b (fr 44 [(8,.one (.ptr 0 0)),(9,.one (.ptr 1 0)),(33,.one (.clo (.func 116) [.ptr 5 0]))]) rc .ready none],true,by simp,⟨8,_,rc,hs,_,_,[.cells [.own 7 (out.length + 1)],.cells [.d .nilI],.map (met9 (out ++ [p])),.row 2 (v + 1) (pps r.reverse),wp5 g h (v + 1),.cells [.ptr 4 0],.dead,.row 2 (out.length + 1) (pps (out ++ [p])),.dead],none,rfl,by rw [<- Array.length_toList,hps]; rfl,hta,htb,?_,rfl,rfl⟩,Sh.intro ?_⟩
     ·rw [hps]
      simp only [go_sem]
      repeat' (first | refine Kn rfl ?_ | ((first | refine Ka ?_ | refine Kb ?_ | refine Kc ?_ | refine Kd ?_ | refine Ke ?_); simp only [go_sem]) | refine Kf ?_ | refine Kg ?_ | refine Kp (fun _ => ?_) (fun _ => ?_) | ((first | refine Kh ?_ | refine Ki rfl ?_); simp only [or_self,Qs,Qt,Qu,Qv,Qw,Qx,Qy,Qz,Za,go_sem]))
      refine Xfj ⟨rfl,?_⟩
      repeat' (first | refine Kn rfl ?_ | ((first | refine Ka ?_ | refine Kb ?_ | refine Kc ?_ | refine Kd ?_ | refine Ke ?_); simp only [go_sem]) | refine Kf ?_ | refine Kg ?_ | refine Kp (fun _ => ?_) (fun _ => ?_) | ((first | refine Kh ?_ | refine Ki rfl ?_); simp only [or_self,Qs,Qt,Qu,Qv,Qw,Qx,Qy,Qz,Za,go_sem]))
      refine ⟨by simp,by first | omega | (simp only [List.length_map]; omega),by unfold Xad; first | omega | (simp only [List.length_map]; omega),?_⟩
      rw [show pps out ++ [_] = pps (out ++ [p]) from by simp [pps]]
      repeat' (first | refine Kn rfl ?_ | ((first | refine Ka ?_ | refine Kb ?_ | refine Kc ?_ | refine Kd ?_ | refine Ke ?_); simp only [go_sem]) | refine Kf ?_ | refine Kg ?_ | refine Kp (fun _ => ?_) (fun _ => ?_) | ((first | refine Kh ?_ | refine Ki rfl ?_); simp only [or_self,Qs,Qt,Qu,Qv,Qw,Qx,Qy,Qz,Za,go_sem]))
      refine Kj (fr 44 []) (by (simp only [go_sem]; repeat' (first | refine Kp ?_ ?_ | exact Or.inl rfl | exact Or.inr rfl | rfl))) ?_
      simp only [go_sem]
      refine Kk 9 (by first | exact Nat.le_refl _ | exact Nat.zero_le _ | (simp only [List.length_nil,List.length_cons]; decide)) (by simp only [go_sem]) (by simp only [List.take_succ_cons,List.take_zero,List.all_cons,List.all_nil,Xa3]; simp only [go_sem]) ?_
      simp only [go_sem]
      exact Xfj ⟨⟨rfl,rfl⟩,rfl⟩
     ·simp only [go_sem]
      have hkl : (kdP g h p).length <= 12 := X8v hg p
      have hk := X8y (gp := gp) g h p.1 p.2 hg.s hh.s (Xv6 hg hh hfit)
      repeat' (first | refine Kn rfl ?_ | ((first | refine Ka ?_ | refine Kb ?_ | refine Kc ?_ | refine Kd ?_ | refine Ke ?_); simp only [Xb8,go_sem]) | refine Kf ?_ | refine Kg ?_ | refine ⟨_,hI0,Sh.intro ?_⟩ | refine ⟨_,⟨hI0,rfl⟩,Sh.intro ?_⟩ | refine ⟨_,hk,Sh.intro ?_⟩ | refine ⟨_,⟨hk,rfl⟩,Sh.intro ?_⟩ | refine ⟨#[uE ua],T,fz,[.raw (uE ua)],⟨hgl,rfl,Nat.le_refl _⟩,Sh.intro ?_⟩ | refine Kp (fun _ => ?_) (fun _ => ?_) | ((first | refine Kh ?_ | refine Ki rfl ?_); simp only [Xb8,or_self,Qs,Qt,Qu,Qv,Qw,Qx,Qy,Qz,Za,go_sem]))
      refine Or.inr (Or.inr ⟨[2,3,4],.tup [],[.map (met9 (out ++ [p])),.row 2 (v + 1 + (kdP g h p).length) (pps (r.reverse ++ (kdP g h p).reverse)),wp9 g h (v + 1 + (kdP g h p).length)],(by simp only [Xa5,rnCs,getC,Xrp]; simp only [go_sem]; exact ⟨Y1a,Wg8 g h (out ++ [p]) (kdP g h p) r.reverse (v + 1) (by simp at ht ⊢; omega)⟩),Sh.intro ?_⟩)
      simp only [bkO,bkC,Xa3]
      simp only [go_sem]
      repeat' (first | refine Kn rfl ?_ | ((first | refine Ka ?_ | refine Kb ?_ | refine Kc ?_ | refine Kd ?_ | refine Ke ?_); simp only [Xb8,go_sem]) | refine Kf ?_ | refine Kg ?_ | refine Kp (fun _ => ?_) (fun _ => ?_) | ((first | refine Kh ?_ | refine Ki rfl ?_); simp only [Xb8,or_self,Qs,Qt,Qu,Qv,Qw,Qx,Qy,Qz,Za,go_sem]))
      rw [show r.reverse ++ (kdP g h p).reverse = (kdP g h p ++ r).reverse from by rw [List.reverse_append]]
      refine Kj (fr 69 [(0,.one (.d (.raw (.func (.yield b) #[] #[])))),(1,.one (.ptr 5 0))]) (by (simp only [go_sem]; repeat' (first | refine Kp ?_ ?_ | exact Or.inl rfl | exact Or.inr rfl | rfl))) ?_
      simp only [go_sem]
      refine Kk 9 (by first | exact Nat.le_refl _ | exact Nat.zero_le _ | (simp only [List.length_nil,List.length_cons]; decide)) (by simp only [go_sem]) (by simp only [List.take_succ_cons,List.take_zero,List.all_cons,List.all_nil,Xa3]; simp only [go_sem]) ?_
      simp only [go_sem]
      rw [<- hlo]
      exact Kl ⟨(200000 - (out.length + 1)) * 13 + ((kdP g h p).length + r.length),by omega,kdP g h p ++ r,out ++ [p],v + 1 + (kdP g h p).length,by rw [hlo,List.length_append],hw.step_inv hm hfit,hn',hio',fun q hq => by
       rcases List.mem_append.1 hq with hq | hq
       ·exact Ymn hg hh p q hq
       ·exact hit q (List.mem_cons_of_mem _ hq),by simp only [List.length_append,List.length_cons,List.length_nil] at ht ⊢; omega,rfl⟩
    | false =>
     rw [hfit] at cf
     have cf : Does QP gp 117 [vwv g h,pv p] (.one (.d (iE ua))) := cf
     repeat' (first | refine Kn rfl ?_ | ((first | refine Ka ?_ | refine Kb ?_ | refine Kc ?_ | refine Kd ?_ | refine Ke ?_); simp only [Xb8,hlen,go_sem]) | refine Kf ?_ | refine Kg ?_ | refine ⟨_,cf,Sh.intro ?_⟩ | refine ⟨_,⟨cf,rfl⟩,Sh.intro ?_⟩ | refine ⟨0,r.length,⟨rfl,rfl,Nat.zero_le _,Nat.le_succ _⟩,Sh.intro ?_⟩ | refine ⟨_,⟨hf,rfl⟩,Sh.intro ?_⟩ | refine ⟨_,hput,Sh.intro ?_⟩ | (refine Kp (fun _ => ?_) (fun _ => ?_) <;> try (exfalso; omega)) | ((first | refine Kh ?_ | refine Ki rfl ?_); simp only [Xb8,hlen,or_self,Qs,Qt,Qu,Qv,Qw,Qx,Qy,Qz,Za,go_sem]))
     rw [htk]
     refine ⟨[.cells [.own 7 (out.length + 1)],.cells [.d (iE ua)],.map (met9 (out ++ [p])),.row 2 (v + 1) (pps r.reverse),wp5 g h (v + 1),.cells [.ptr 4 0],.dead,.row 2 (out.length + 1) (pps (out ++ [p])),.lp b (fr 44 [(8,.one (.ptr 0 0)),(9,.one (.ptr 1 0)),(33,.one (.clo (.func 116) [.ptr 5 0]))]) rc .ready none],true,by simp,⟨8,_,rc,hs,_,_,[.cells [.own 7 (out.length + 1)],.cells [.d (iE ua)],.map (met9 (out ++ [p])),.row 2 (v + 1) (pps r.reverse),wp5 g h (v + 1),.cells [.ptr 4 0],.dead,.row 2 (out.length + 1) (pps (out ++ [p])),.dead],none,rfl,by rw [<- Array.length_toList,hps]; rfl,hta,htb,?_,rfl,rfl⟩,Sh.intro ?_⟩
     ·rw [hps]
      simp only [go_sem]
      repeat' (first | refine Kn rfl ?_ | ((first | refine Ka ?_ | refine Kb ?_ | refine Kc ?_ | refine Kd ?_ | refine Ke ?_); simp only [go_sem]) | refine Kf ?_ | refine Kg ?_ | refine Kp (fun _ => ?_) (fun _ => ?_) | ((first | refine Kh ?_ | refine Ki rfl ?_); simp only [or_self,Qs,Qt,Qu,Qv,Qw,Qx,Qy,Qz,Za,go_sem]))
      refine Xfj ⟨rfl,?_⟩
      repeat' (first | refine Kn rfl ?_ | ((first | refine Ka ?_ | refine Kb ?_ | refine Kc ?_ | refine Kd ?_ | refine Ke ?_); simp only [go_sem]) | refine Kf ?_ | refine Kg ?_ | refine Kp (fun _ => ?_) (fun _ => ?_) | ((first | refine Kh ?_ | refine Ki rfl ?_); simp only [or_self,Qs,Qt,Qu,Qv,Qw,Qx,Qy,Qz,Za,go_sem]))
      refine ⟨by simp,by first | omega | (simp only [List.length_map]; omega),by unfold Xad; first | omega | (simp only [List.length_map]; omega),?_⟩
      rw [show pps out ++ [_] = pps (out ++ [p]) from by simp [pps]]
      repeat' (first | refine Kn rfl ?_ | ((first | refine Ka ?_ | refine Kb ?_ | refine Kc ?_ | refine Kd ?_ | refine Ke ?_); simp only [go_sem]) | refine Kf ?_ | refine Kg ?_ | refine Kp (fun _ => ?_) (fun _ => ?_) | ((first | refine Kh ?_ | refine Ki rfl ?_); simp only [or_self,Qs,Qt,Qu,Qv,Qw,Qx,Qy,Qz,Za,go_sem]))
      refine Kj (fr 44 []) (by (simp only [go_sem]; repeat' (first | refine Kp ?_ ?_ | exact Or.inl rfl | exact Or.inr rfl | rfl))) ?_
      simp only [go_sem]
      refine Kk 9 (by first | exact Nat.le_refl _ | exact Nat.zero_le _ | (simp only [List.length_nil,List.length_cons]; decide)) (by simp only [go_sem]) (by simp only [List.take_succ_cons,List.take_zero,List.all_cons,List.all_nil,Xa3]; simp only [go_sem]) ?_
      simp only [go_sem]
      exact Xfj ⟨⟨rfl,rfl⟩,rfl⟩
     ·simp only [go_sem]
      obtain ⟨rfl,rfl⟩ := hw.stop_inv hm hfit
      repeat' (first | refine Kn rfl ?_ | ((first | refine Ka ?_ | refine Kb ?_ | refine Kc ?_ | refine Kd ?_ | refine Ke ?_); simp only [Xb8,go_sem]) | refine Kf ?_ | refine Kg ?_ | refine ⟨_,hI1,Sh.intro ?_⟩ | refine ⟨_,⟨hI1,rfl⟩,Sh.intro ?_⟩ | refine ⟨#[uE ua],T,fz,[.raw (uE ua)],⟨hgl,rfl,Nat.le_refl _⟩,Sh.intro ?_⟩ | refine Kp (fun _ => ?_) (fun _ => ?_) | ((first | refine Kh ?_ | refine Ki rfl ?_); simp only [Xb8,or_self,Qs,Qt,Qu,Qv,Qw,Qx,Qy,Qz,Za,go_sem]))
      refine ⟨.ready,none,rfl,by simp,rfl,v + 1,pps r.reverse,[.dead,.dead],?_⟩
      simp [eD9]
 ·rintro own' ⟨_,v,st,rest,rfl⟩
  simp only [go_sem]
  refine Kk 8 (by first | exact Nat.le_refl _ | exact Nat.zero_le _ | (simp only [List.length_nil,List.length_cons]; decide)) (by simp only [go_sem]) (by simp only [List.take_succ_cons,List.take_zero,List.all_cons,List.all_nil,Xa3]; simp only [go_sem]) ?_
  simp only [go_sem]
  refine Xar 7 ?_
  simp only [frzS,getC,List.map_cons,List.map_nil,Xla]
  simp only [go_sem]
  cases ok with
  | true =>
   simp only [eD9,go_sem]
   repeat' (first | refine Kn rfl ?_ | ((first | refine Ka ?_ | refine Kb ?_ | refine Kc ?_ | refine Kd ?_ | refine Ke ?_); simp only [go_sem]) | refine Kf ?_ | refine Kg ?_ | refine Kp (fun _ => ?_) (fun _ => ?_) | ((first | refine Kh ?_ | refine Ki rfl ?_); simp only [or_self,Qs,Qt,Qu,Qv,Qw,Qx,Qy,Qz,Za,go_sem]))
   all_goals trace_state
  | false =>
   simp only [eD9,go_sem]
   repeat' (first | refine Kn rfl ?_ | ((first | refine Ka ?_ | refine Kb ?_ | refine Kc ?_ | refine Kd ?_ | refine Ke ?_); simp only [go_sem]) | refine Kf ?_ | refine Kg ?_ | refine Kp (fun _ => ?_) (fun _ => ?_) | ((first | refine Kh ?_ | refine Ki rfl ?_); simp only [or_self,Qs,Qt,Qu,Qv,Qw,Qx,Qy,Qz,Za,go_sem]))
   all_goals trace_state
 ·rintro _ _ ⟨h,_⟩; cases h
def getI : List (Int × Int) -> Int -> Option Int
 | [],_ => none
 | (k,v) :: m,a => if a = k then some v else getI m a
def putI : List (Int × Int) -> Int -> Int -> List (Int × Int)
 | [],a,b => [(a,b)]
 | (k,v) :: m,a,b => if a = k then (a,b) :: m else (k,v) :: putI m a b
theorem Ybn : ∀ (m : List (Int × Int)) (a b c : Int),getI (putI m a b) c = if c = a then some b else getI m c
 | [],a,b,c => by simp [putI,getI]
 | (k,v) :: m,a,b,c => by
  simp only [putI]
  by_cases h : a = k
  ·subst h
   simp only [if_true,getI]
   by_cases hc : c = a
   ·simp [hc]
   ·simp [hc]
  ·simp only [if_neg h,getI]
   by_cases hc : c = k
   ·subst hc
    rw [if_pos rfl,if_neg (fun e => h e.symm),if_pos rfl]
   ·rw [if_neg hc,if_neg hc,Ybn m a b c]
def tkO (x : Option Int) (b : Int) : Bool := match x with
 | none => true
 | some y => y == b
def tkN (φ ψ : Pp -> Int) (l : List Pp) : Nat -> List (Int × Int) × Bool
 | 0 => ([],true)
 | i + 1 => match l[i]? with
  | some p => (putI (tkN φ ψ l i).1 (φ p) (ψ p),(tkN φ ψ l i).2 && tkO (getI (tkN φ ψ l i).1 (φ p)) (ψ p))
  | none => tkN φ ψ l i
theorem Xjs {φ ψ : Pp -> Int} {l : List Pp} {i : Nat} {p : Pp} (h : l[i]? = some p) : tkN φ ψ l (i + 1) = (putI (tkN φ ψ l i).1 (φ p) (ψ p),(tkN φ ψ l i).2 && tkO (getI (tkN φ ψ l i).1 (φ p)) (ψ p)) := by
 simp only [tkN,h]
theorem Ybo {φ ψ : Pp -> Int} {l : List Pp} : ∀ (i : Nat),i <= l.length -> ∀ a,(getI (tkN φ ψ l i).1 a = none /\ ∀ (j : Nat) (p : Pp),j < i -> l[j]? = some p -> φ p ≠ a) \/ ∃ (j : Nat) (p : Pp),j < i /\ l[j]? = some p /\ φ p = a /\ getI (tkN φ ψ l i).1 a = some (ψ p)
 | 0,_,a => .inl ⟨rfl,fun j p h => by omega⟩
 | i + 1,hi,a => by
  obtain ⟨q,hq⟩ := Xak (l := l) (i := i) (by omega)
  rw [Xjs hq]
  dsimp only
  rw [Ybn]
  by_cases h : a = φ q
  ·rw [if_pos h]
   exact .inr ⟨i,q,by omega,hq,h.symm,rfl⟩
  ·rw [if_neg h]
   rcases Ybo (φ := φ) (ψ := ψ) (l := l) i (by omega) a with ⟨h1,h2⟩ | ⟨j,p,h1,h2,h3,h4⟩
   ·refine .inl ⟨h1,fun j p hj hp => ?_⟩
    by_cases e : j = i
    ·subst e; rw [hq] at hp; cases hp; exact fun e => h e.symm
    ·exact h2 j p (by omega) hp
   ·exact .inr ⟨j,p,by omega,h2,h3,h4⟩
theorem Ybp {φ ψ : Pp -> Int} {l : List Pp} (hn : l.Nodup) (hφ : ∀ p q : Pp,φ p = φ q -> ψ p = ψ q -> p = q) : ∀ (i : Nat),i <= l.length -> ((tkN φ ψ l i).2 = true ↔ ((l.take i).map φ).Nodup)
 | 0,_ => by simp [tkN]
 | i + 1,hi => by
  obtain ⟨q,hq⟩ := Xak (l := l) (i := i) (by omega)
  have ih := Ybp hn hφ i (by omega)
  rw [Xjs hq,List.take_succ,hq]
  simp only [Option.toList_some,List.map_append,List.map_cons,List.map_nil,Bool.and_eq_true]
  rw [ih,List.nodup_append]
  have key : tkO (getI (tkN φ ψ l i).1 (φ q)) (ψ q) = true ↔ φ q ∉ (l.take i).map φ := by
   rcases Ybo (φ := φ) (ψ := ψ) (l := l) i (by omega) (φ q) with ⟨h1,h2⟩ | ⟨j,p,h1,h2,h3,h4⟩
   ·rw [h1]
    simp only [tkO,true_iff]
    intro hm
    obtain ⟨p,hp,e⟩ := List.mem_map.1 hm
    obtain ⟨j,hj⟩ := List.mem_iff_getElem?.1 hp
    rw [List.getElem?_take] at hj
    split at hj
    ·rename_i hji; exact h2 j p hji hj e
    ·cases hj
   ·rw [h4]
    have hm : φ q ∈ (l.take i).map φ := by
     refine List.mem_map.2 ⟨p,?_,h3⟩
     exact List.mem_of_getElem? (i := j) (by rw [List.getElem?_take,if_pos h1]; exact h2)
    simp only [tkO,beq_iff_eq]
    constructor
    ·intro e
     exfalso
     have hpq : p = q := hφ p q h3 e
     subst hpq
     obtain ⟨g1,g2⟩ := List.getElem?_eq_some_iff.1 h2
     obtain ⟨g3,g4⟩ := List.getElem?_eq_some_iff.1 hq
     exact (List.pairwise_iff_getElem.1 hn j i g1 g3 h1) (g2.trans g4.symm)
    ·intro h; exact absurd hm h
  rw [key]
  constructor
  ·rintro ⟨h1,h2⟩
   refine ⟨h1,by simp,fun a ha b hb e => ?_⟩
   simp only [List.mem_singleton] at hb
   subst hb; subst e
   exact h2 ha
  ·rintro ⟨h1,_,h3⟩
   exact ⟨h1,fun hm => h3 _ hm _ (by simp) rfl⟩
theorem Yij {g h : Gr} (hg : Good g) (hh : Good h) : Xmi g h = ((Xb9 g h).2 && ((tkN Prod.fst Prod.snd (Xb9 g h).1 (Xb9 g h).1.length).2 && (tkN Prod.snd Prod.fst (Xb9 g h).1 (Xb9 g h).1.length).2)) := by
 have hn := (Xh0 hg hh).nodup (by simp)
 have h1 := Ybp (φ := Prod.fst) (ψ := Prod.snd) hn (fun p q e e' => Prod.ext e e') _ (Nat.le_refl _)
 have h2 := Ybp (φ := Prod.snd) (ψ := Prod.fst) hn (fun p q e e' => Prod.ext e' e) _ (Nat.le_refl _)
 rw [List.take_of_length_le (Nat.le_refl _)] at h1 h2
 rw [Bool.eq_iff_iff,Xps,Bool.and_eq_true,Bool.and_eq_true,h1,h2]
theorem Xwq {g : Gr} : chkE g = 0 ↔ chk g = none := ⟨fun e => Classical.byContradiction fun h => Xf6 h e,Xbp⟩
theorem Xmn (g h : Gr) : Xdz [g,h] = 0 ↔ chk g = none /\ chk h = none := by
 rw [<- Xwq,<- Xwq]
 simp only [Xdz]
 split
 ·rename_i e
  split
  ·rename_i e'; simp [e,e']
  ·rename_i e'; simp [e,e']
 ·rename_i e; simp [e]
noncomputable def prG (g h : Gr) : List Pp × Bool := if chk g = none /\ chk h = none then Xb9 g h else ([],false)
noncomputable def alG (g h : Gr) : Bool := if chk g = none /\ chk h = none then Xmi g h else false
theorem Xn4 {g h : Gr} (hg : Good g) (hh : Good h) : prG g h = Xb9 g h := by unfold prG; rw [if_pos ⟨hg.c,hh.c⟩]
theorem Yik {g h : Gr} (hg : Good g) (hh : Good h) : alG g h = Xmi g h := by unfold alG; rw [if_pos ⟨hg.c,hh.c⟩]
theorem Yil (h9 : Env9 gp ua) (g h : Gr) (hs : Xbt g) (hs' : Xbt h) : Does QP gp 66 [g.v,h.v] (.tup [.one (.d (.sl (pps (prG g h).1))),vb (prG g h).2,vi (Xdz [g,h])]) := by
 by_cases hc : chk g = none /\ chk h = none
 ·rw [Xn4 ⟨hc.1,hs⟩ ⟨hc.2,hs'⟩,(Xmn g h).2 hc]
  exact Xx2 h9 ⟨hc.1,hs⟩ ⟨hc.2,hs'⟩
 ·have he : Xdz [g,h] ≠ 0 := fun e => hc ((Xmn g h).1 e)
  have c1 : Does QP gp 92 [.one (.d (.sl (grs [g,h])))] (vi (Xdz [g,h])) := Ymo h9.e [g,h] (by simp)
  have e1 : prG g h = ([],false) := by unfold prG; rw [if_neg hc]
  rw [e1]
  generalize Xdz [g,h] = e at *
  have hne : (e != 0) = true := by simpa using he
  refine Yl7 ?_
  simp only [go_sem]
  repeat' (first | refine Kn rfl ?_ | ((first | refine Ka ?_ | refine Kb ?_ | refine Kc ?_ | refine Kd ?_ | refine Ke ?_); simp only [hne,go_sem]) | refine Kf ?_ | refine Kg ?_ | refine ⟨_,c1,Sh.intro ?_⟩ | refine ⟨_,⟨c1,rfl⟩,Sh.intro ?_⟩ | (refine Kp (fun _ => ?_) (fun _ => ?_) <;> try (exfalso; omega)) | ((first | refine Kh ?_ | refine Ki rfl ?_); simp only [hne,or_self,Qs,Qt,Qu,Qv,Qw,Qx,Qy,Qz,Za,go_sem]))
  all_goals first | (exfalso; omega) | trace_state
def mpI (m : List (Int × Int)) : List (V × V) := m.map fun p => (vi p.1,vi p.2)
theorem Xwr : ∀ (m : List (Int × Int)) (a : Int),Xcr false [.i] (mpI m) (vi a) = some ((getI m a).map vi)
 | [],a => rfl
 | (k,v) :: m,a => by
  simp only [mpI,List.map_cons,Xcr,Xnn,getI]
  by_cases h : a = k
  ·simp [h]
  ·simp only [h,decide_false,if_neg,not_false_eq_true]
   exact Xwr m a
theorem Ybq : ∀ (m : List (Int × Int)) (a b : Int),putM false [.i] (mpI m) (vi a) (vi b) = some (mpI (putI m a b))
 | [],a,b => rfl
 | (k,v) :: m,a,b => by
  simp only [mpI,List.map_cons,putM,Xnn,putI]
  by_cases h : a = k
  ·simp [h]
  ·have := Ybq m a b
   simp only [mpI] at this
   simp only [h,decide_false,if_neg,not_false_eq_true,this]
   rfl
theorem Xe0 (m : List (Int × Int)) : (Ch.map (mpI m)).refs = [] := by
 simp only [Ch.refs]
 rw [List.flatMap_eq_nil_iff]
 intro e he
 obtain ⟨a,_,rfl⟩ := List.mem_map.1 he
 rfl
theorem Yim (m : List (Int × Int)) (j : Nat) (c : Ch) : subC j c (.map (mpI m)) = .map (mpI m) := by
 simp only [subC,Ch.map.injEq]
 conv => rhs; rw [<- List.map_id (mpI m)]
 apply List.map_congr_left
 intro e he
 obtain ⟨a,_,rfl⟩ := List.mem_map.1 he
 rfl
theorem Ybr (m : List (Int × Int)) (a b : Int) : Tri QP gp 67 [.agg [.own 0 0],vi a,vi b] [.map (mpI m)] fun r post => r = vb (tkO (getI m a) b) /\ post = [.map (mpI (putI m a b))] := by
 refine Y0l ?_
 simp only [go_sem]
 have hf := Xwr m a
 have hput := Ybq m a b
 cases hg : getI m a with
 | none =>
  rw [hg] at hf
  simp only [Option.map_none] at hf
  repeat' (first | refine Kn rfl ?_ | ((first | refine Ka ?_ | refine Kb ?_ | refine Kc ?_ | refine Kd ?_ | refine Ke ?_); simp only [go_sem]) | refine Kf ?_ | refine Kg ?_ | refine ⟨_,⟨hf,rfl⟩,Sh.intro ?_⟩ | refine ⟨_,hput,Sh.intro ?_⟩ | (refine Kp (fun _ => ?_) (fun _ => ?_) <;> try (exfalso; omega)) | ((first | refine Kh ?_ | refine Ki rfl ?_); simp only [or_self,Qs,Qt,Qu,Qv,Qw,Qx,Qy,Qz,Za,go_sem]))
  refine Kj (fr 27 [(1,vi a),(2,vi b),(7,vi 0),(8,vb false)]) (by (simp only [go_sem]; repeat' (first | refine Kp ?_ ?_ | exact Or.inl rfl | exact Or.inr rfl | rfl))) ?_
  simp only [go_sem]
  refine Kk 1 (by first | exact Nat.le_refl _ | exact Nat.zero_le _ | (simp only [List.length_nil,List.length_cons]; decide)) (by simp only [go_sem]) (by simp only [List.take_succ_cons,List.take_zero,List.all_cons,List.all_nil,Xe0]; simp only [go_sem]) ?_
  simp only [go_sem]
  repeat' (first | refine Kn rfl ?_ | ((first | refine Ka ?_ | refine Kb ?_ | refine Kc ?_ | refine Kd ?_ | refine Ke ?_); simp only [Xpq,go_sem]) | refine Kf ?_ | refine Kg ?_ | (refine Kp (fun _ => ?_) (fun _ => ?_) <;> try (exfalso; omega)) | ((first | refine Kh ?_ | refine Ki rfl ?_); simp only [Xpq,or_self,Qs,Qt,Qu,Qv,Qw,Qx,Qy,Qz,Za,go_sem]))
  rfl
 | some y =>
  rw [hg] at hf
  simp only [Option.map_some] at hf
  repeat' (first | refine Kn rfl ?_ | ((first | refine Ka ?_ | refine Kb ?_ | refine Kc ?_ | refine Kd ?_ | refine Ke ?_); simp only [go_sem]) | refine Kf ?_ | refine Kg ?_ | refine ⟨_,⟨hf,rfl⟩,Sh.intro ?_⟩ | refine ⟨_,hput,Sh.intro ?_⟩ | (refine Kp (fun _ => ?_) (fun _ => ?_) <;> try (exfalso; omega)) | ((first | refine Kh ?_ | refine Ki rfl ?_); simp only [or_self,Qs,Qt,Qu,Qv,Qw,Qx,Qy,Qz,Za,go_sem]))
  refine Kj (fr 27 [(1,vi a),(2,vi b),(7,vi y),(8,vb true)]) (by (simp only [go_sem]; repeat' (first | refine Kp ?_ ?_ | exact Or.inl rfl | exact Or.inr rfl | rfl))) ?_
  simp only [go_sem]
  refine Kk 1 (by first | exact Nat.le_refl _ | exact Nat.zero_le _ | (simp only [List.length_nil,List.length_cons]; decide)) (by simp only [go_sem]) (by simp only [List.take_succ_cons,List.take_zero,List.all_cons,List.all_nil,Xe0]; simp only [go_sem]) ?_
  simp only [go_sem]
  repeat' (first | refine Kn rfl ?_ | ((first | refine Ka ?_ | refine Kb ?_ | refine Kc ?_ | refine Kd ?_ | refine Ke ?_); simp only [Xpq,go_sem]) | refine Kf ?_ | refine Kg ?_ | (refine Kp (fun _ => ?_) (fun _ => ?_) <;> try (exfalso; omega)) | ((first | refine Kh ?_ | refine Ki rfl ?_); simp only [Xpq,or_self,Qs,Qt,Qu,Qv,Qw,Qx,Qy,Qz,Za,go_sem]))
  rfl
theorem Yin {g h : Gr} (hg : Good g) (hh : Good h) : ∀ p ∈ (Xb9 g h).1,(0 <= p.1 /\ p.1 < g.l.length) /\ (0 <= p.2 /\ p.2 < h.l.length) := by
 have h1 := hg.root
 have h2 := hh.root
 exact (Xh0 hg hh).all (P := fun p => (0 <= p.1 /\ p.1 < g.l.length) /\ (0 <= p.2 /\ p.2 < h.l.length)) (by simpa using ⟨h1,h2⟩) (by simp) fun p _ q hq => Ymn hg hh p q hq
theorem Y43 {g h : Gr} (hs : Xbt g) (hs' : Xbt h) : (prG g h).1.length <= 200000 := by
 by_cases hc : chk g = none /\ chk h = none
 ·have hg : Good g := ⟨hc.1,hs⟩
  have hh : Good h := ⟨hc.2,hs'⟩
  rw [Xn4 hg hh]
  refine Xf8 (n := 0) ((Xh0 hg hh).nodup (by simp)) fun p hp => ?_
  have h1 := Yin hg hh p hp
  have h3 := hg.len
  have h4 := hh.len
  omega
 ·unfold prG; rw [if_neg hc]; simp
theorem Wfy {g h : Gr} (hs : Xbt g) (hs' : Xbt h) : alG g h = ((prG g h).2 && ((tkN Prod.fst Prod.snd (prG g h).1 (prG g h).1.length).2 && (tkN Prod.snd Prod.fst (prG g h).1 (prG g h).1.length).2)) := by
 by_cases hc : chk g = none /\ chk h = none
 ·rw [Xn4 ⟨hc.1,hs⟩ ⟨hc.2,hs'⟩,Yik ⟨hc.1,hs⟩ ⟨hc.2,hs'⟩]
  exact Yij ⟨hc.1,hs⟩ ⟨hc.2,hs'⟩
 ·unfold prG alG; rw [if_neg hc,if_neg hc]; rfl
theorem Yo5 (js : List Nat) (m : List (Int × Int)) : rnC js (.map (mpI m)) = some (.map (mpI m)) := by simp only [rnC,Xe0]; rfl
set_option maxHeartbeats 2000000 in
theorem Yio (h9 : Env9 gp ua) (g h : Gr) (hs : Xbt g) (hs' : Xbt h) : Does QP gp 34 [g.v,h.v] (.tup [vb (alG g h),vi (Xdz [g,h])]) := by
 have c1 := Yil h9 g h hs hs'
 have hl := Y43 hs hs'
 rw [Wfy hs hs']
 generalize (prG g h).1 = W at *
 generalize (prG g h).2 = ok at *
 generalize Xdz [g,h] = e at *
 refine Wbr ?_
 simp only [go_sem]
 repeat' (first | refine Kn rfl ?_ | ((first | refine Ka ?_ | refine Kb ?_ | refine Kc ?_ | refine Kd ?_ | refine Ke ?_); simp only [Xfr,go_sem]) | refine Kf ?_ | refine Kg ?_ | refine ⟨_,c1,Sh.intro ?_⟩ | refine ⟨_,⟨c1,rfl⟩,Sh.intro ?_⟩ | (refine Kp (fun _ => ?_) (fun _ => ?_) <;> try (exfalso; omega)) | ((first | refine Kh ?_ | refine Ki rfl ?_); simp only [Xfr,or_self,Qs,Qt,Qu,Qv,Qw,Qx,Qy,Qz,Za,go_sem]))
 have e0 : ok = (ok && ((tkN Prod.fst Prod.snd W 0).2 && (tkN Prod.snd Prod.fst W 0).2)) := by cases ok <;> rfl
 refine Kj (fr 56 [(7,vb ok),(8,vi e),(9,.one (.mvo (.func 67) true [.own 0 0])),(10,.one (.mvo (.func 67) true [.own 1 0])),(28,.one (.d (.sl (pps W)))),(29,vi W.length),(30,vi (0 : Nat))]) (by (simp only [go_sem]; repeat' (first | refine Kp ?_ ?_ | exact Or.inl rfl | exact Or.inr rfl | rfl))) ?_
 rw [show (7,vb ok) = ((7,vb (ok && ((tkN Prod.fst Prod.snd W 0).2 && (tkN Prod.snd Prod.fst W 0).2))) : Nat × V) from by rw [<- e0]]
 refine Km (fun mz sz => ∃ i : Nat,i <= W.length /\ mz = W.length - i /\ sz = ⟨fr 56 [(7,vb (ok && ((tkN Prod.fst Prod.snd W i).2 && (tkN Prod.snd Prod.fst W i).2))),(8,vi e),(9,.one (.mvo (.func 67) true [.own 0 0])),(10,.one (.mvo (.func 67) true [.own 1 0])),(28,.one (.d (.sl (pps W)))),(29,vi W.length),(30,vi i)],[.map (mpI (tkN Prod.fst Prod.snd W i).1),.map (mpI (tkN Prod.snd Prod.fst W i).1)]⟩) W.length ⟨0,Nat.zero_le _,rfl,rfl⟩ ?_
 rintro _ _ ⟨i,hi,rfl,rfl⟩
 simp only [go_sem]
 by_cases hil : i < W.length
 ·obtain ⟨p,hp⟩ := Xak hil
  have s1 := Xjs (φ := Prod.fst) (ψ := Prod.snd) hp
  have s2 := Xjs (φ := Prod.snd) (ψ := Prod.fst) hp
  generalize tkN Prod.fst Prod.snd W i = t1 at *
  generalize tkN Prod.snd Prod.fst W i = t2 at *
  obtain ⟨m1,b1⟩ := t1
  obtain ⟨m2,b2⟩ := t2
  dsimp only at s1 s2 ⊢
  repeat' (first | refine Kn rfl ?_ | ((first | refine Ka ?_ | refine Kb ?_ | refine Kc ?_ | refine Kd ?_ | refine Ke ?_); simp only [go_sem]) | refine Kf ?_ | refine Kg ?_ | refine ⟨_,⟨Int.natCast_nonneg _,(by first | exact Xae hp | (rw [Int.toNat_natCast]; exact Xae hp)),rfl⟩,Sh.intro ?_⟩ | (refine Kp (fun _ => ?_) (fun _ => ?_) <;> try (exfalso; omega)) | ((first | refine Kh ?_ | refine Ki rfl ?_); simp only [or_self,Qs,Qt,Qu,Qv,Qw,Qx,Qy,Qz,Za,go_sem]))
  all_goals first | (exfalso; omega) | skip
  refine Kj (fr 56 [(7,vb (ok && (b1 && b2))),(8,vi e),(9,.one (.mvo (.func 67) true [.own 0 0])),(10,.one (.mvo (.func 67) true [.own 1 0])),(12,.one (.ptr 2 0)),(28,.one (.d (.sl (pps W)))),(29,vi W.length),(30,vi i)]) (by (simp only [go_sem]; repeat' (first | refine Kp ?_ ?_ | exact Or.inl rfl | exact Or.inr rfl | rfl))) ?_
  simp only [go_sem]
  refine Xar 2 ?_
  simp only [frzS,getC,List.map_cons,List.map_nil,Yim]
  simp only [go_sem]
  refine Kk 2 (by first | exact Nat.le_refl _ | exact Nat.zero_le _ | (simp only [List.length_nil,List.length_cons]; decide)) (by simp only [go_sem]) (by simp only [List.take_succ_cons,List.take_zero,List.all_cons,List.all_nil,Xe0]; simp only [go_sem]) ?_
  simp only [go_sem]
  have hY : ∀ r : Bool,r = ((ok && (b1 && b2)) && (tkO (getI m1 p.1) p.2 && tkO (getI m2 p.2) p.1)) -> r = (ok && ((tkN Prod.fst Prod.snd W (i + 1)).2 && (tkN Prod.snd Prod.fst W (i + 1)).2)) := by
   intro r hr
   rw [s1,s2,hr]
   dsimp only
   cases ok <;> cases b1 <;> cases b2 <;> simp
  have e1 : putI m1 p.1 p.2 = (tkN Prod.fst Prod.snd W (i + 1)).1 := by rw [s1]
  have e2 : putI m2 p.2 p.1 = (tkN Prod.snd Prod.fst W (i + 1)).1 := by rw [s2]
  have k1 := Ybr (gp := gp) m1 p.1 p.2
  have k2 := Ybr (gp := gp) m2 p.2 p.1
  rw [e1] at k1
  rw [e2] at k2
  generalize (ok && (b1 && b2)) = X at *
  generalize tkO (getI m1 p.1) p.2 = Y1 at *
  generalize tkO (getI m2 p.2) p.1 = Y2 at *
  repeat' (first | refine Kn rfl ?_ | ((first | refine Ka ?_ | refine Kb ?_ | refine Kc ?_ | refine Kd ?_ | refine Ke ?_); simp only [Xfr,go_sem]) | refine Kf ?_ | refine Kg ?_ | (refine Kp (fun _ => ?_) (fun _ => ?_) <;> try (exfalso; omega)) | ((first | refine Kh ?_ | refine Ki rfl ?_); simp only [Xfr,or_self,Qs,Qt,Qu,Qv,Qw,Qx,Qy,Qz,Za,go_sem]))
  refine Or.inr (Or.inr ⟨[0],vb Y1,[.map (mpI (tkN Prod.fst Prod.snd W (i + 1)).1)],(by simp only [Xa5,rnCs,getC,Yo5]; simp only [go_sem]; exact ⟨Ymc,k1⟩),Sh.intro ?_⟩)
  simp only [bkO,bkC,Xe0]
  simp only [go_sem]
  repeat' (first | refine Kn rfl ?_ | ((first | refine Ka ?_ | refine Kb ?_ | refine Kc ?_ | refine Kd ?_ | refine Ke ?_); simp only [Xfr,go_sem]) | refine Kf ?_ | refine Kg ?_ | (refine Kp (fun _ => ?_) (fun _ => ?_) <;> try (exfalso; omega)) | ((first | refine Kh ?_ | refine Ki rfl ?_); simp only [Xfr,or_self,Qs,Qt,Qu,Qv,Qw,Qx,Qy,Qz,Za,go_sem]))
  refine Or.inr (Or.inr ⟨[1],vb Y2,[.map (mpI (tkN Prod.snd Prod.fst W (i + 1)).1)],(by simp only [Xa5,rnCs,getC,Yo5]; simp only [go_sem]; exact ⟨Ymc,k2⟩),Sh.intro ?_⟩)
  simp only [bkO,bkC,Xe0]
  simp only [go_sem]
  cases X <;> cases Y1 <;> cases Y2
  all_goals
   repeat' (first | refine Kn rfl ?_ | ((first | refine Ka ?_ | refine Kb ?_ | refine Kc ?_ | refine Kd ?_ | refine Ke ?_); simp only [Xfr,go_sem]) | refine Kf ?_ | refine Kg ?_ | (refine Kp (fun _ => ?_) (fun _ => ?_) <;> try (exfalso; omega)) | ((first | refine Kh ?_ | refine Ki rfl ?_); simp only [Xfr,or_self,Qs,Qt,Qu,Qv,Qw,Qx,Qy,Qz,Za,go_sem]))
   refine ⟨Xan hil (by unfold Xad; omega),?_⟩
   refine Kk 2 (by first | exact Nat.le_refl _ | exact Nat.zero_le _ | (simp only [List.length_nil,List.length_cons]; decide)) (by simp only [go_sem]) (by simp only [List.take_succ_cons,List.take_zero,List.all_cons,List.all_nil,Xe0]; simp only [go_sem]) ?_
   simp only [go_sem]
   first
    | (refine Kj (fr 56 [(7,vb true),(8,vi e),(9,.one (.mvo (.func 67) true [.own 0 0])),(10,.one (.mvo (.func 67) true [.own 1 0])),(28,.one (.d (.sl (pps W)))),(29,vi W.length),(30,vi ((i + 1 : Nat) : Int))]) (by (simp only [go_sem]; repeat' (first | refine Kp ?_ ?_ | exact Or.inl rfl | exact Or.inr rfl | rfl))) ?_
       rw [show (7,vb true) = ((7,vb (ok && ((tkN Prod.fst Prod.snd W (i + 1)).2 && (tkN Prod.snd Prod.fst W (i + 1)).2))) : Nat × V) from by rw [<- hY true rfl]]
       exact Kl ⟨W.length - (i + 1),by omega,i + 1,by omega,rfl,rfl⟩)
    | (refine Kj (fr 56 [(7,vb false),(8,vi e),(9,.one (.mvo (.func 67) true [.own 0 0])),(10,.one (.mvo (.func 67) true [.own 1 0])),(28,.one (.d (.sl (pps W)))),(29,vi W.length),(30,vi ((i + 1 : Nat) : Int))]) (by (simp only [go_sem]; repeat' (first | refine Kp ?_ ?_ | exact Or.inl rfl | exact Or.inr rfl | rfl))) ?_
       rw [show (7,vb false) = ((7,vb (ok && ((tkN Prod.fst Prod.snd W (i + 1)).2 && (tkN Prod.snd Prod.fst W (i + 1)).2))) : Nat × V) from by rw [<- hY false rfl]]
       exact Kl ⟨W.length - (i + 1),by omega,i + 1,by omega,rfl,rfl⟩)
 ·obtain rfl : W.length = i := by omega
  repeat' (first | refine Kn rfl ?_ | ((first | refine Ka ?_ | refine Kb ?_ | refine Kc ?_ | refine Kd ?_ | refine Ke ?_); simp only [Xfr,go_sem]) | refine Kf ?_ | refine Kg ?_ | (refine Kp (fun _ => ?_) (fun _ => ?_) <;> try (exfalso; omega)) | ((first | refine Kh ?_ | refine Ki rfl ?_); simp only [Xfr,or_self,Qs,Qt,Qu,Qv,Qw,Qx,Qy,Qz,Za,go_sem]))
end Go.Fw.L07
