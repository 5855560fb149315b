/- Chapter 9, by definition: pairs, likeness. -/
import Derived.Test.YtldjkoidjigjpaaGreatDoorIb
import Derived.Test.YtldjkoidjigjpaaGreatDoorVy
set_option linter.all false
namespace Go.Fw.L07
open Go Go.Fw
open Go.Proofs.Tryz renaming prog -> QP
open Nat renaming reduceAdd -> Qa,reduceSub -> Qb,reduceMul -> Qc,reduceLeDiff -> Qd,reduceLT -> Qe,reduceEqDiff -> Qf
open Int renaming reduceToNat -> Qg,reduceLT -> Qh,reduceLE -> Qi,reduceGT -> Qj,reduceGE -> Qk,reduceEq -> Ql,reduceNe -> Qm,reduceBEq -> Qn,reduceBNe -> Qo,reduceAdd -> Qp,reduceSub -> Qq,reduceNeg -> Qr
open Go.Fw.V.one renaming injEq -> Qs
open Go.Fw.V.agg renaming injEq -> Qt
open Go.Fw.V.tup renaming injEq -> Qu
open Go.Fw.A.d renaming injEq -> Qv
open Go.Fw.D.bool renaming injEq -> Qw
open Go.Fw.D.int renaming injEq -> Qx
open Go.Fw.D.str renaming injEq -> Qy
open Go.Fw.D.sl renaming injEq -> Qz
open List.cons renaming injEq -> Za
set_option maxRecDepth 4000
variable {gp : Heap}
open Classical in
noncomputable def pwF (f : Pp -> Bool) (k : Pp -> List Pp) (t o : List Pp) : List Pp × Bool := if h : ∃ r : List Pp × Bool,PW f k t o r.1 r.2 then Classical.choose h else ([],false)
theorem PW.eqF {f : Pp -> Bool} {k : Pp -> List Pp} {t o w : List Pp} {b : Bool} (h : PW f k t o w b) : pwF f k t o = (w,b) := by
 unfold pwF
 have hx : ∃ r : List Pp × Bool,PW f k t o r.1 r.2 := ⟨(w,b),h⟩
 rw [dif_pos hx]
 have := (Classical.choose_spec hx).det h
 exact Prod.ext this.1 this.2
theorem PW.app {f : Pp -> Bool} {k : Pp -> List Pp} {t o m : List Pp} {c : Bool} (h : PW f k t o m c) : c = true -> ∀ {r w : List Pp} {b : Bool},PW f k r m w b -> PW f k (t ++ r) o w b := by
 induction h with
 | nil out => intro _ r w b h'; exact h'
 | skip hm _ ih => intro hc r w b h'; exact .skip hm (ih hc h')
 | stop _ _ => intro hc; cases hc
 | step hn hf _ ih => intro hc r w b h'; have := ih hc h'; rw [List.append_assoc] at this; exact .step hn hf this
theorem PW.halt {f : Pp -> Bool} {k : Pp -> List Pp} {t o m : List Pp} {c : Bool} (h : PW f k t o m c) : c = false -> ∀ r : List Pp,PW f k (t ++ r) o m false := by
 induction h with
 | nil out => intro hc; cases hc
 | skip hm _ ih => intro hc r; exact .skip hm (ih hc r)
 | stop hn hf => intro _ r; exact .stop hn hf
 | step hn hf _ ih => intro hc r; have := ih hc r; rw [List.append_assoc] at this; exact .step hn hf this
theorem in9 (l : List Pp) (p : Pp) (hl : l.length <= 1000000) : Does QP gp 114 [.one (.d (.sl (pps l))),pv p] (vb (decide (p ∈ l))) := by
 refine f114_in ?_
 simp only [go_sem]
 repeat' (first | refine Gx rfl ?_ | ((first | refine G_reg ?_ | refine G_regv ?_ | refine VO_chk ?_ | refine VO_go ?_ | refine VO_gx ?_); simp only [f114_r0,f114_r1,f114_r2,f114_r7,f114_r8,f114_r15,f114_r21,go_sem]) | refine VO_end ?_ | refine Sh.intro ?_ | (refine G_cond ?_; simp only [f114_r0,f114_r1,f114_r2,f114_r7,f114_r8,f114_r15,f114_r21,go_sem]; first | refine ⟨fun _ => ?_,fun _ => ?_⟩ | skip) | refine And.intro (fun _ => ?_) (fun _ => ?_) | ((first | refine G_fin ?_ | refine G_ret rfl ?_); simp only [f114_r0,f114_r1,f114_r2,f114_r7,f114_r8,f114_r15,f114_r21,or_self,Qs,Qt,Qu,Qv,Qw,Qx,Qy,Qz,Za,go_sem]))
 refine G_weak (fr 18 [(0,.one (.d (.sl (pps l)))),(3,.one (.d (.bx [.int .i64 p.1,.int .i64 p.2]))),(5,vi (0 : Nat))]) (by (simp only [go_sem]; repeat' (first | refine And.intro ?_ ?_ | exact Or.inl rfl | exact Or.inr rfl | rfl))) ?_
 refine G_loop (fun mz sz => ∃ i : Nat,i <= l.length /\ mz = l.length - i /\ (p ∉ l.take i) /\ sz = ⟨fr 18 [(0,.one (.d (.sl (pps l)))),(3,.one (.d (.bx [.int .i64 p.1,.int .i64 p.2]))),(5,vi i)],[]⟩) (l.length) ⟨0,Nat.zero_le _,(Nat.sub_zero _).symm,?_,rfl⟩ ?_
 ·simp
 rintro _ _ ⟨i,hi,rfl,hz,rfl⟩
 simp only [go_sem]
 by_cases hil : i < l.length
 ·obtain ⟨x,hx⟩ := at_lt hil
  have e1 : decide ((i : Int) < (l.length : Int)) = true := decide_eq_true (by omega)
  by_cases hxp : x = p
  ·subst hxp
   have hm : decide (x ∈ l) = true := decide_eq_true (List.mem_of_getElem? hx)
   have e2 : (x.1 == x.1 && x.2 == x.2) = true := by simp
   rw [hm]
   repeat' (first | refine Gx rfl ?_ | ((first | refine G_reg ?_ | refine G_regv ?_ | refine VO_chk ?_ | refine VO_go ?_ | refine VO_gx ?_); simp only [f114_r0,f114_r1,f114_r2,f114_r7,f114_r8,f114_r15,f114_r21,e1,e2,go_sem]) | refine VO_end ?_ | refine Sh.intro ?_ | refine ⟨_,⟨Int.natCast_nonneg _,(by first | exact map_at hx | (rw [Int.toNat_natCast]; exact map_at hx)),rfl⟩,Sh.intro ?_⟩ | (refine G_cond ?_; simp only [f114_r0,f114_r1,f114_r2,f114_r7,f114_r8,f114_r15,f114_r21,e1,e2,go_sem]; first | refine ⟨fun _ => ?_,fun _ => ?_⟩ | skip) | refine And.intro (fun _ => ?_) (fun _ => ?_) | ((first | refine G_fin ?_ | refine G_ret rfl ?_); simp only [f114_r0,f114_r1,f114_r2,f114_r7,f114_r8,f114_r15,f114_r21,e1,e2,or_self,Qs,Qt,Qu,Qv,Qw,Qx,Qy,Qz,Za,go_sem]))
  ·have e2 : (x.1 == p.1 && x.2 == p.2) = false := by rw [pp_eq]; simp [hxp]
   repeat' (first | refine Gx rfl ?_ | ((first | refine G_reg ?_ | refine G_regv ?_ | refine VO_chk ?_ | refine VO_go ?_ | refine VO_gx ?_); simp only [f114_r0,f114_r1,f114_r2,f114_r7,f114_r8,f114_r15,f114_r21,e1,e2,go_sem]) | refine VO_end ?_ | refine Sh.intro ?_ | refine ⟨_,⟨Int.natCast_nonneg _,(by first | exact map_at hx | (rw [Int.toNat_natCast]; exact map_at hx)),rfl⟩,Sh.intro ?_⟩ | (refine G_cond ?_; simp only [f114_r0,f114_r1,f114_r2,f114_r7,f114_r8,f114_r15,f114_r21,e1,e2,go_sem]; first | refine ⟨fun _ => ?_,fun _ => ?_⟩ | skip) | refine And.intro (fun _ => ?_) (fun _ => ?_) | ((first | refine G_fin ?_ | refine G_ret rfl ?_); simp only [f114_r0,f114_r1,f114_r2,f114_r7,f114_r8,f114_r15,f114_r21,e1,e2,or_self,Qs,Qt,Qu,Qv,Qw,Qx,Qy,Qz,Za,go_sem]))
   refine ⟨inK_nat hil (by unfold lenMax; omega),?_⟩
   refine G_weak (fr 18 [(0,.one (.d (.sl (pps l)))),(3,.one (.d (.bx [.int .i64 p.1,.int .i64 p.2]))),(5,vi (i + 1))]) (by (simp only [go_sem]; repeat' (first | refine And.intro ?_ ?_ | exact Or.inl rfl | exact Or.inr rfl | rfl))) ?_
   refine G_again ⟨l.length - (i + 1),by omega,i + 1,by omega,rfl,?_,rfl⟩
   rw [List.take_succ,hx]
   simp only [List.mem_append,not_or]
   exact ⟨hz,by simp; exact fun e => hxp e.symm⟩
 ·have e1 : decide ((i : Int) < (l.length : Int)) = false := decide_eq_false (by omega)
  rw [List.take_of_length_le (by omega)] at hz
  have hm : decide (p ∈ l) = false := decide_eq_false hz
  rw [hm]
  repeat' (first | refine Gx rfl ?_ | ((first | refine G_reg ?_ | refine G_regv ?_ | refine VO_chk ?_ | refine VO_go ?_ | refine VO_gx ?_); simp only [f114_r0,f114_r1,f114_r2,f114_r7,f114_r8,f114_r15,f114_r21,e1,go_sem]) | refine VO_end ?_ | refine Sh.intro ?_ | (refine G_cond ?_; simp only [f114_r0,f114_r1,f114_r2,f114_r7,f114_r8,f114_r15,f114_r21,e1,go_sem]; first | refine ⟨fun _ => ?_,fun _ => ?_⟩ | skip) | refine And.intro (fun _ => ?_) (fun _ => ?_) | ((first | refine G_fin ?_ | refine G_ret rfl ?_); simp only [f114_r0,f114_r1,f114_r2,f114_r7,f114_r8,f114_r15,f114_r21,e1,or_self,Qs,Qt,Qu,Qv,Qw,Qx,Qy,Qz,Za,go_sem]))
theorem ex9 {g h : Gr} (hg : Good g) (hh : Good h) (t o : List Pp) (hn : o.Nodup) (ho : ∀ x ∈ o,(0 <= x.1 /\ x.1 < g.l.length) /\ (0 <= x.2 /\ x.2 < h.l.length)) (ht : ∀ x ∈ t,(0 <= x.1 /\ x.1 < g.l.length) /\ (0 <= x.2 /\ x.2 < h.l.length)) :
  PW (fitP g h) (kdP g h) t o (pwF (fitP g h) (kdP g h) t o).1 (pwF (fitP g h) (kdP g h) t o).2 := by
 have h3 := hg.len
 have h4 := hh.len
 obtain ⟨w,b,hw⟩ := PW.ex (f := fitP g h) 12 (kdP_len hg) (kdP_range hg hh) _ t o (Nat.le_refl _) hn (fun x hx => by have := ho x hx; omega) (fun x hx => by have := ht x hx; omega)
 rw [hw.eqF]
 exact hw
set_option maxHeartbeats 4000000 in
theorem visit9 {g h : Gr} (hg : Good g) (hh : Good h) : ∀ (z : Nat) (p : Pp) (o : List Pp),200000 - o.length <= z -> o.Nodup -> (∀ x ∈ o,(0 <= x.1 /\ x.1 < g.l.length) /\ (0 <= x.2 /\ x.2 < h.l.length)) -> (0 <= p.1 /\ p.1 < g.l.length) /\ (0 <= p.2 /\ p.2 < h.l.length) ->
  Tri QP gp 82 [g.v,h.v,pv p,.one (.own 0 o.length)] [.row 2 o.length (pps o)] fun r post =>
   r = .tup [.one (.own 0 (pwF (fitP g h) (kdP g h) [p] o).1.length),vb (pwF (fitP g h) (kdP g h) [p] o).2] /\ post = [.row 2 (pwF (fitP g h) (kdP g h) [p] o).1.length (pps (pwF (fitP g h) (kdP g h) [p] o).1)] := by
 have hgl := hg.len
 have hhl := hh.len
 have hit : ∀ (p : Pp) (o : List Pp),o.length <= 200000 -> p ∈ o -> Tri QP gp 82 [g.v,h.v,pv p,.one (.own 0 o.length)] [.row 2 o.length (pps o)] fun r post =>
   r = .tup [.one (.own 0 (pwF (fitP g h) (kdP g h) [p] o).1.length),vb (pwF (fitP g h) (kdP g h) [p] o).2] /\ post = [.row 2 (pwF (fitP g h) (kdP g h) [p] o).1.length (pps (pwF (fitP g h) (kdP g h) [p] o).1)] := by
  intro p o hol hm
  rw [(PW.skip (f := fitP g h) (k := kdP g h) hm (.nil o)).eqF]
  have c1 := in9 (gp := gp) o p (by omega)
  rw [decide_eq_true hm] at c1
  refine f82_tri ?_
  simp only [go_sem]
  repeat' (first | refine Gx rfl ?_ | ((first | refine G_reg ?_ | refine G_regv ?_ | refine VO_chk ?_ | refine VO_go ?_ | refine VO_gx ?_); simp only [f82_r0,f82_r1,f82_r2,f82_r8,f82_r9,f82_r10,f82_r16,f82_r17,f82_r18,f82_r19,f82_r24,f82_r25,f82_r26,f82_r27,f82_r36,f82_r42,go_sem]) | refine VO_end ?_ | refine Sh.intro ?_ | refine Or.inl ⟨_,⟨c1,rfl⟩,Sh.intro ?_⟩ | (refine G_cond ?_; simp only [f82_r0,f82_r1,f82_r2,f82_r8,f82_r9,f82_r10,f82_r16,f82_r17,f82_r18,f82_r19,f82_r24,f82_r25,f82_r26,f82_r27,f82_r36,f82_r42,go_sem]; first | refine ⟨fun _ => ?_,fun _ => ?_⟩ | skip) | refine And.intro (fun _ => ?_) (fun _ => ?_) | ((first | refine G_fin ?_ | refine G_ret rfl ?_); simp only [f82_r0,f82_r1,f82_r2,f82_r8,f82_r9,f82_r10,f82_r16,f82_r17,f82_r18,f82_r19,f82_r24,f82_r25,f82_r26,f82_r27,f82_r36,f82_r42,or_self,Qs,Qt,Qu,Qv,Qw,Qx,Qy,Qz,Za,go_sem]))
 intro z
 induction z with
 | zero =>
  intro p o hz hn ho hp
  have hol := pair_range (n := 0) hn fun x hx => by have := ho x hx; omega
  by_cases hm : p ∈ o
  ·exact hit p o hol hm
  ·exfalso
   have := pair_range (n := 0) (snoc_nodup hn hm) fun x hx => by
    rcases List.mem_append.1 hx with h | h
    ·have := ho x h; omega
    ·simp at h; subst h; omega
   simp at this
   omega
 | succ z ih =>
  intro p o hz hn ho hp
  have hol := pair_range (n := 0) hn fun x hx => by have := ho x hx; omega
  by_cases hm : p ∈ o
  ·exact hit p o hol hm
  ·have c1 := in9 (gp := gp) o p (by omega)
   have e1 : decide (p ∈ o) = false := decide_eq_false hm
   rw [e1] at c1
   have hn' : (o ++ [p]).Nodup := snoc_nodup hn hm
   have ho' : ∀ x ∈ o ++ [p],(0 <= x.1 /\ x.1 < g.l.length) /\ (0 <= x.2 /\ x.2 < h.l.length) := fun x hx => by
    rcases List.mem_append.1 hx with h | h
    ·exact ho x h
    ·simp at h; subst h; exact hp
   have hlen' : (o ++ [p]).length = o.length + 1 := by simp
   obtain ⟨p1,hp1⟩ := Int.eq_ofNat_of_zero_le hp.1.1
   obtain ⟨p2,hp2⟩ := Int.eq_ofNat_of_zero_le hp.2.1
   have c2 := fit9 (gp := gp) g h p1 p2 hg.s hh.s (by omega) (by omega)
   rw [<- hp1,<- hp2,show ((p.1,p.2) : Pp) = p from rfl] at c2
   refine f82_tri ?_
   simp only [go_sem]
   repeat' (first | refine Gx rfl ?_ | ((first | refine G_reg ?_ | refine G_regv ?_ | refine VO_chk ?_ | refine VO_go ?_ | refine VO_gx ?_); simp only [f82_r0,f82_r1,f82_r2,f82_r8,f82_r9,f82_r10,f82_r16,f82_r17,f82_r18,f82_r19,f82_r24,f82_r25,f82_r26,f82_r27,f82_r36,f82_r42,go_sem]) | refine VO_end ?_ | refine Sh.intro ?_ | refine Or.inl ⟨_,⟨c1,rfl⟩,Sh.intro ?_⟩ | (refine G_cond ?_; simp only [f82_r0,f82_r1,f82_r2,f82_r8,f82_r9,f82_r10,f82_r16,f82_r17,f82_r18,f82_r19,f82_r24,f82_r25,f82_r26,f82_r27,f82_r36,f82_r42,go_sem]; first | refine ⟨fun _ => ?_,fun _ => ?_⟩ | skip) | refine And.intro (fun _ => ?_) (fun _ => ?_) | ((first | refine G_fin ?_ | refine G_ret rfl ?_); simp only [f82_r0,f82_r1,f82_r2,f82_r8,f82_r9,f82_r10,f82_r16,f82_r17,f82_r18,f82_r19,f82_r24,f82_r25,f82_r26,f82_r27,f82_r36,f82_r42,or_self,Qs,Qt,Qu,Qv,Qw,Qx,Qy,Qz,Za,go_sem]))
   repeat (refine And.intro (by first | (simp; done) | omega | (unfold lenMax; omega) | (simp; omega) | (simp [lenMax]; omega)) ?_)
   rw [show pps o ++ [[D.int .i64 p.1,D.int .i64 p.2]] = pps (o ++ [p]) from by simp,<- hlen']
   by_cases hf : fitP g h p = true
   ·rw [hf] at c2
    have c3 := kids7 (gp := gp) g p.1 hg.s
    have c4 := kids7 (gp := gp) h p.2 hh.s
    rw [show kidsOf (ndAt g.l p.1) = kd g p.1 from rfl] at c3
    rw [show kidsOf (ndAt h.l p.2) = kd h p.2 from rfl] at c4
    have hkl := kd_len hg.s p.1
    have hfk := fit_kd hg hh hf
    have hkin := kdP_in hg hh p
    have ex := fun (t : List Pp) (ht : ∀ q ∈ t,(0 <= q.1 /\ q.1 < g.l.length) /\ (0 <= q.2 /\ q.2 < h.l.length)) => ex9 hg hh t (o ++ [p]) hn' ho' ht
    have hfin : pwF (fitP g h) (kdP g h) [p] o = pwF (fitP g h) (kdP g h) (kdP g h p) (o ++ [p]) := by
     have h1 := ex (kdP g h p) hkin
     exact (PW.step hm hf (by rw [List.append_nil]; exact h1)).eqF
    have hkz : kdP g h p = List.zip (kd g p.1) (kd h p.2) := rfl
    rw [hfin]
    generalize hA : kd g p.1 = A at *
    generalize hB : kd h p.2 = B at *
    generalize hK : kdP g h p = K at *
    have hKl : K.length = A.length := by rw [hkz]; simp; omega
    have p0 : pwF (fitP g h) (kdP g h) (K.take 0) (o ++ [p]) = (o ++ [p],true) := (PW.nil (o ++ [p])).eqF
    repeat' (first | refine Gx rfl ?_ | ((first | refine G_reg ?_ | refine G_regv ?_ | refine VO_chk ?_ | refine VO_go ?_ | refine VO_gx ?_); simp only [f82_r0,f82_r1,f82_r2,f82_r8,f82_r9,f82_r10,f82_r16,f82_r17,f82_r18,f82_r19,f82_r24,f82_r25,f82_r26,f82_r27,f82_r36,f82_r42,go_sem]) | refine VO_end ?_ | refine Sh.intro ?_ | refine ⟨_,c2,Sh.intro ?_⟩ | refine ⟨_,⟨c2,rfl⟩,Sh.intro ?_⟩ | refine ⟨_,c3,Sh.intro ?_⟩ | refine ⟨_,⟨c3,rfl⟩,Sh.intro ?_⟩ | refine ⟨_,c4,Sh.intro ?_⟩ | refine ⟨_,⟨c4,rfl⟩,Sh.intro ?_⟩ | (refine G_cond ?_; simp only [f82_r0,f82_r1,f82_r2,f82_r8,f82_r9,f82_r10,f82_r16,f82_r17,f82_r18,f82_r19,f82_r24,f82_r25,f82_r26,f82_r27,f82_r36,f82_r42,go_sem]; first | refine ⟨fun _ => ?_,fun _ => ?_⟩ | skip) | refine And.intro (fun _ => ?_) (fun _ => ?_) | ((first | refine G_fin ?_ | refine G_ret rfl ?_); simp only [f82_r0,f82_r1,f82_r2,f82_r8,f82_r9,f82_r10,f82_r16,f82_r17,f82_r18,f82_r19,f82_r24,f82_r25,f82_r26,f82_r27,f82_r36,f82_r42,or_self,Qs,Qt,Qu,Qv,Qw,Qx,Qy,Qz,Za,go_sem]))
    refine G_weak (fr 75 [(3,.one (.own 0 (o ++ [p]).length)),(4,.one (.d (.bx [.int .i64 g.root,.sl (nds g.l)]))),(5,.one (.d (.bx [.int .i64 h.root,.sl (nds h.l)]))),(10,.one (.d (.sl (ints A)))),(12,.one (.d (.sl (ints B)))),(14,vi ((0 : Nat) : Int))]) (by (simp only [go_sem]; repeat' (first | refine And.intro ?_ ?_ | exact Or.inl rfl | exact Or.inr rfl | rfl))) ?_
    refine G_loop (fun mz sz => ∃ (j : Nat) (w : List Pp),j <= A.length /\ mz = A.length - j /\ pwF (fitP g h) (kdP g h) (K.take j) (o ++ [p]) = (w,true) /\ sz = ⟨fr 75 [(3,.one (.own 0 w.length)),(4,.one (.d (.bx [.int .i64 g.root,.sl (nds g.l)]))),(5,.one (.d (.bx [.int .i64 h.root,.sl (nds h.l)]))),(10,.one (.d (.sl (ints A)))),(12,.one (.d (.sl (ints B)))),(14,vi (j : Int))],[.row 2 w.length (pps w)]⟩) A.length ⟨0,o ++ [p],Nat.zero_le _,rfl,p0,rfl⟩ ?_
    rintro _ _ ⟨j,w,hj,rfl,hw,rfl⟩
    simp only [go_sem]
    by_cases hjl : j < A.length
    ·obtain ⟨a,ha⟩ := at_lt hjl
     obtain ⟨b,hb⟩ := at_lt (l := B) (i := j) (by omega)
     have hab : K[j]? = some (a,b) := by rw [hkz,List.getElem?_zip_eq_some]; exact ⟨ha,hb⟩
     have hcr := hkin (a,b) (List.mem_of_getElem? hab)
     have w1 := ex (K.take j) fun x hx => hkin x (List.mem_of_mem_take hx)
     rw [hw] at w1
     have hwn := w1.nodup hn'
     have hwr := w1.all (P := fun x => (0 <= x.1 /\ x.1 < (g.l.length : Int)) /\ (0 <= x.2 /\ x.2 < (h.l.length : Int))) (fun x hx => hkin x (List.mem_of_mem_take hx)) ho' fun i _ => kdP_in hg hh i
     have w3 := ex9 hg hh [(a,b)] w hwn hwr (by simpa using hcr)
     obtain ⟨r,hr⟩ := w1.pre
     have hr' : w = (o ++ [p]) ++ r := hr
     have hcall := ih (a,b) w (by
      have : w.length = (o ++ [p]).length + r.length := by rw [hr',List.length_append]
      omega) hwn hwr hcr
     have hwl := pair_range (n := 0) hwn fun x hx => by
      have := hwr x hx
      omega
     have ht : K.take (j + 1) = K.take j ++ [(a,b)] := by rw [List.take_succ,hab]; rfl
     have e2 : decide ((j : Int) < (A.length : Int)) = true := decide_eq_true (by omega)
     obtain ⟨w2,b2,hwb⟩ : ∃ w2 b2,pwF (fitP g h) (kdP g h) [(a,b)] w = (w2,b2) := ⟨_,_,rfl⟩
     rw [hwb] at hcall w3
     dsimp only at hcall w3
     cases b2 with
     | false =>
      have hall : pwF (fitP g h) (kdP g h) K (o ++ [p]) = (w2,false) := by
       have h1 := w1.app rfl w3
       rw [<- ht] at h1
       have h2 := h1.halt rfl (K.drop (j + 1))
       rw [List.take_append_drop] at h2
       exact h2.eqF
      rw [hall]
      repeat' (first | refine Gx rfl ?_ | ((first | refine G_reg ?_ | refine G_regv ?_ | refine VO_chk ?_ | refine VO_go ?_ | refine VO_gx ?_); simp only [f82_r0,f82_r1,f82_r2,f82_r8,f82_r9,f82_r10,f82_r16,f82_r17,f82_r18,f82_r19,f82_r24,f82_r25,f82_r26,f82_r27,f82_r36,f82_r42,e2,go_sem]) | refine VO_end ?_ | refine Sh.intro ?_ | refine ⟨_,⟨Int.natCast_nonneg _,(by first | exact map_at ha | (rw [Int.toNat_natCast]; exact map_at ha)),rfl⟩,Sh.intro ?_⟩ | refine ⟨_,⟨Int.natCast_nonneg _,(by first | exact map_at hb | (rw [Int.toNat_natCast]; exact map_at hb)),rfl⟩,Sh.intro ?_⟩ | (refine G_cond ?_; simp only [f82_r0,f82_r1,f82_r2,f82_r8,f82_r9,f82_r10,f82_r16,f82_r17,f82_r18,f82_r19,f82_r24,f82_r25,f82_r26,f82_r27,f82_r36,f82_r42,e2,go_sem]; first | (refine ⟨fun _ => ?_,fun _ => ?_⟩ <;> try (exfalso; omega)) | skip) | (refine And.intro (fun _ => ?_) (fun _ => ?_) <;> try (exfalso; omega)) | ((first | refine G_fin ?_ | refine G_ret rfl ?_); simp only [f82_r0,f82_r1,f82_r2,f82_r8,f82_r9,f82_r10,f82_r16,f82_r17,f82_r18,f82_r19,f82_r24,f82_r25,f82_r26,f82_r27,f82_r36,f82_r42,e2,or_self,Qs,Qt,Qu,Qv,Qw,Qx,Qy,Qz,Za,go_sem]))
      refine Or.inr (Or.inr ⟨[0],.tup [.one (.own 0 w2.length),vb false],[.row 2 w2.length (pps w2)],(by simp only [CallR,rnVs,rnV,rnA,rnAs,rn0,rn0s,posN,rnCs,rnC,getC,List.isEmpty_nil,reduceCtorEq,↓reduceIte,Qa,Qb,Qc,Qd,Qe,Qf,Qg,Qh,Qi,Qj,Qk,Ql,Qm,Qn,Qo,Qp,Qq,Qr]; simp only [go_sem]; exact ⟨f82_ok,hcall⟩),Sh.intro ?_⟩)
      simp only [go_sem]
      repeat' (first | refine Gx rfl ?_ | ((first | refine G_reg ?_ | refine G_regv ?_ | refine VO_chk ?_ | refine VO_go ?_ | refine VO_gx ?_); simp only [f82_r0,f82_r1,f82_r2,f82_r8,f82_r9,f82_r10,f82_r16,f82_r17,f82_r18,f82_r19,f82_r24,f82_r25,f82_r26,f82_r36,f82_r42,go_sem]) | refine VO_end ?_ | refine Sh.intro ?_ | (refine G_cond ?_; simp only [f82_r0,f82_r1,f82_r2,f82_r8,f82_r9,f82_r10,f82_r16,f82_r17,f82_r18,f82_r19,f82_r24,f82_r25,f82_r26,f82_r36,f82_r42,go_sem]; first | (refine ⟨fun _ => ?_,fun _ => ?_⟩ <;> try (exfalso; omega)) | skip) | (refine And.intro (fun _ => ?_) (fun _ => ?_) <;> try (exfalso; omega)) | ((first | refine G_fin ?_ | refine G_ret rfl ?_); simp only [f82_r0,f82_r1,f82_r2,f82_r8,f82_r9,f82_r10,f82_r16,f82_r17,f82_r18,f82_r19,f82_r24,f82_r25,f82_r26,f82_r36,f82_r42,or_self,Qs,Qt,Qu,Qv,Qw,Qx,Qy,Qz,Za,go_sem]))
      refine G_drop 1 (by simp only [List.length_nil,List.length_cons]; decide) (by simp only [go_sem]) (by simp only [go_sem]) ?_
      simp only [go_sem]
      repeat' (first | refine Gx rfl ?_ | ((first | refine G_reg ?_ | refine G_regv ?_ | refine VO_chk ?_ | refine VO_go ?_ | refine VO_gx ?_); simp only [f82_r0,f82_r1,f82_r2,f82_r8,f82_r9,f82_r10,f82_r16,f82_r17,f82_r18,f82_r19,f82_r24,f82_r25,f82_r26,f82_r27,f82_r36,f82_r42,go_sem]) | refine VO_end ?_ | refine Sh.intro ?_ | (refine G_cond ?_; simp only [f82_r0,f82_r1,f82_r2,f82_r8,f82_r9,f82_r10,f82_r16,f82_r17,f82_r18,f82_r19,f82_r24,f82_r25,f82_r26,f82_r27,f82_r36,f82_r42,go_sem]; first | (refine ⟨fun _ => ?_,fun _ => ?_⟩ <;> try (exfalso; omega)) | skip) | (refine And.intro (fun _ => ?_) (fun _ => ?_) <;> try (exfalso; omega)) | ((first | refine G_fin ?_ | refine G_ret rfl ?_); simp only [f82_r0,f82_r1,f82_r2,f82_r8,f82_r9,f82_r10,f82_r16,f82_r17,f82_r18,f82_r19,f82_r24,f82_r25,f82_r26,f82_r27,f82_r36,f82_r42,or_self,Qs,Qt,Qu,Qv,Qw,Qx,Qy,Qz,Za,go_sem]))
      all_goals trace_state
     | true =>
      have hstep : pwF (fitP g h) (kdP g h) (K.take (j + 1)) (o ++ [p]) = (w2,true) := by
       have h1 := w1.app rfl w3
       rw [<- ht] at h1
       exact h1.eqF
      repeat' (first | refine Gx rfl ?_ | ((first | refine G_reg ?_ | refine G_regv ?_ | refine VO_chk ?_ | refine VO_go ?_ | refine VO_gx ?_); simp only [f82_r0,f82_r1,f82_r2,f82_r8,f82_r9,f82_r10,f82_r16,f82_r17,f82_r18,f82_r19,f82_r24,f82_r25,f82_r26,f82_r27,f82_r36,f82_r42,e2,go_sem]) | refine VO_end ?_ | refine Sh.intro ?_ | refine ⟨_,⟨Int.natCast_nonneg _,(by first | exact map_at ha | (rw [Int.toNat_natCast]; exact map_at ha)),rfl⟩,Sh.intro ?_⟩ | refine ⟨_,⟨Int.natCast_nonneg _,(by first | exact map_at hb | (rw [Int.toNat_natCast]; exact map_at hb)),rfl⟩,Sh.intro ?_⟩ | (refine G_cond ?_; simp only [f82_r0,f82_r1,f82_r2,f82_r8,f82_r9,f82_r10,f82_r16,f82_r17,f82_r18,f82_r19,f82_r24,f82_r25,f82_r26,f82_r27,f82_r36,f82_r42,e2,go_sem]; first | (refine ⟨fun _ => ?_,fun _ => ?_⟩ <;> try (exfalso; omega)) | skip) | (refine And.intro (fun _ => ?_) (fun _ => ?_) <;> try (exfalso; omega)) | ((first | refine G_fin ?_ | refine G_ret rfl ?_); simp only [f82_r0,f82_r1,f82_r2,f82_r8,f82_r9,f82_r10,f82_r16,f82_r17,f82_r18,f82_r19,f82_r24,f82_r25,f82_r26,f82_r27,f82_r36,f82_r42,e2,or_self,Qs,Qt,Qu,Qv,Qw,Qx,Qy,Qz,Za,go_sem]))
      refine Or.inr (Or.inr ⟨[0],.tup [.one (.own 0 w2.length),vb true],[.row 2 w2.length (pps w2)],(by simp only [CallR,rnVs,rnV,rnA,rnAs,rn0,rn0s,posN,rnCs,rnC,getC,List.isEmpty_nil,reduceCtorEq,↓reduceIte,Qa,Qb,Qc,Qd,Qe,Qf,Qg,Qh,Qi,Qj,Qk,Ql,Qm,Qn,Qo,Qp,Qq,Qr]; simp only [go_sem]; exact ⟨f82_ok,hcall⟩),Sh.intro ?_⟩)
      simp only [go_sem]
      repeat' (first | refine Gx rfl ?_ | ((first | refine G_reg ?_ | refine G_regv ?_ | refine VO_chk ?_ | refine VO_go ?_ | refine VO_gx ?_); simp only [f82_r0,f82_r1,f82_r2,f82_r8,f82_r9,f82_r10,f82_r16,f82_r17,f82_r18,f82_r19,f82_r24,f82_r25,f82_r26,f82_r27,f82_r36,f82_r42,go_sem]) | refine VO_end ?_ | refine Sh.intro ?_ | (refine G_cond ?_; simp only [f82_r0,f82_r1,f82_r2,f82_r8,f82_r9,f82_r10,f82_r16,f82_r17,f82_r18,f82_r19,f82_r24,f82_r25,f82_r26,f82_r27,f82_r36,f82_r42,go_sem]; first | (refine ⟨fun _ => ?_,fun _ => ?_⟩ <;> try (exfalso; omega)) | skip) | (refine And.intro (fun _ => ?_) (fun _ => ?_) <;> try (exfalso; omega)) | ((first | refine G_fin ?_ | refine G_ret rfl ?_); simp only [f82_r0,f82_r1,f82_r2,f82_r8,f82_r9,f82_r10,f82_r16,f82_r17,f82_r18,f82_r19,f82_r24,f82_r25,f82_r26,f82_r27,f82_r36,f82_r42,or_self,Qs,Qt,Qu,Qv,Qw,Qx,Qy,Qz,Za,go_sem]))
      refine ⟨inK_nat hjl (by unfold lenMax; omega),?_⟩
      refine G_weak (fr 75 [(3,.one (.own 0 w2.length)),(4,.one (.d (.bx [.int .i64 g.root,.sl (nds g.l)]))),(5,.one (.d (.bx [.int .i64 h.root,.sl (nds h.l)]))),(10,.one (.d (.sl (ints A)))),(12,.one (.d (.sl (ints B)))),(14,vi (j + 1))]) (by (simp only [go_sem]; repeat' (first | refine And.intro ?_ ?_ | exact Or.inl rfl | exact Or.inr rfl | rfl))) ?_
      refine G_drop 1 (by simp only [List.length_nil,List.length_cons]; decide) (by simp only [go_sem]) (by simp only [go_sem]) ?_
      simp only [go_sem]
      exact G_again ⟨A.length - (j + 1),by omega,j + 1,w2,by omega,rfl,hstep,rfl⟩
    ·obtain rfl : A.length = j := by omega
     have e2 : decide ((A.length : Int) < (A.length : Int)) = false := decide_eq_false (by omega)
     rw [List.take_of_length_le (by omega)] at hw
     rw [hw]
     repeat' (first | refine Gx rfl ?_ | ((first | refine G_reg ?_ | refine G_regv ?_ | refine VO_chk ?_ | refine VO_go ?_ | refine VO_gx ?_); simp only [f82_r0,f82_r1,f82_r2,f82_r8,f82_r9,f82_r10,f82_r16,f82_r17,f82_r18,f82_r19,f82_r24,f82_r25,f82_r26,f82_r27,f82_r36,f82_r42,e2,go_sem]) | refine VO_end ?_ | refine Sh.intro ?_ | (refine G_cond ?_; simp only [f82_r0,f82_r1,f82_r2,f82_r8,f82_r9,f82_r10,f82_r16,f82_r17,f82_r18,f82_r19,f82_r24,f82_r25,f82_r26,f82_r27,f82_r36,f82_r42,e2,go_sem]; first | (refine ⟨fun _ => ?_,fun _ => ?_⟩ <;> try (exfalso; omega)) | skip) | (refine And.intro (fun _ => ?_) (fun _ => ?_) <;> try (exfalso; omega)) | ((first | refine G_fin ?_ | refine G_ret rfl ?_); simp only [f82_r0,f82_r1,f82_r2,f82_r8,f82_r9,f82_r10,f82_r16,f82_r17,f82_r18,f82_r19,f82_r24,f82_r25,f82_r26,f82_r27,f82_r36,f82_r42,e2,or_self,Qs,Qt,Qu,Qv,Qw,Qx,Qy,Qz,Za,go_sem]))
     all_goals trace_state
   ·have hff : fitP g h p = false := by simpa using hf
    rw [hff] at c2
    have hfin : pwF (fitP g h) (kdP g h) [p] o = (o ++ [p],false) := (PW.stop hm hff).eqF
    rw [hfin]
    repeat' (first | refine Gx rfl ?_ | ((first | refine G_reg ?_ | refine G_regv ?_ | refine VO_chk ?_ | refine VO_go ?_ | refine VO_gx ?_); simp only [f82_r0,f82_r1,f82_r2,f82_r8,f82_r9,f82_r10,f82_r16,f82_r17,f82_r18,f82_r19,f82_r24,f82_r25,f82_r26,f82_r27,f82_r36,f82_r42,go_sem]) | refine VO_end ?_ | refine Sh.intro ?_ | refine ⟨_,c2,Sh.intro ?_⟩ | refine ⟨_,⟨c2,rfl⟩,Sh.intro ?_⟩ | (refine G_cond ?_; simp only [f82_r0,f82_r1,f82_r2,f82_r8,f82_r9,f82_r10,f82_r16,f82_r17,f82_r18,f82_r19,f82_r24,f82_r25,f82_r26,f82_r27,f82_r36,f82_r42,go_sem]; first | refine ⟨fun _ => ?_,fun _ => ?_⟩ | skip) | refine And.intro (fun _ => ?_) (fun _ => ?_) | ((first | refine G_fin ?_ | refine G_ret rfl ?_); simp only [f82_r0,f82_r1,f82_r2,f82_r8,f82_r9,f82_r10,f82_r16,f82_r17,f82_r18,f82_r19,f82_r24,f82_r25,f82_r26,f82_r27,f82_r36,f82_r42,or_self,Qs,Qt,Qu,Qv,Qw,Qx,Qy,Qz,Za,go_sem]))
    all_goals trace_state
end Go.Fw.L07
namespace Go.Fw.L07
open Go Go.Fw
open Go.Proofs.Tryz renaming prog -> QP
open Nat renaming reduceAdd -> Qa,reduceSub -> Qb,reduceMul -> Qc,reduceLeDiff -> Qd,reduceLT -> Qe,reduceEqDiff -> Qf
open Int renaming reduceToNat -> Qg,reduceLT -> Qh,reduceLE -> Qi,reduceGT -> Qj,reduceGE -> Qk,reduceEq -> Ql,reduceNe -> Qm,reduceBEq -> Qn,reduceBNe -> Qo,reduceAdd -> Qp,reduceSub -> Qq,reduceNeg -> Qr
open Go.Fw.V.one renaming injEq -> Qs
open Go.Fw.V.agg renaming injEq -> Qt
open Go.Fw.V.tup renaming injEq -> Qu
open Go.Fw.A.d renaming injEq -> Qv
open Go.Fw.D.bool renaming injEq -> Qw
open Go.Fw.D.int renaming injEq -> Qx
open Go.Fw.D.str renaming injEq -> Qy
open Go.Fw.D.sl renaming injEq -> Qz
open List.cons renaming injEq -> Za
set_option maxRecDepth 4000
variable {gp : Heap}
set_option maxHeartbeats 4000000 in
theorem visit9o {g h : Gr} (hg : Good g) (hh : Good h) (p : Pp) (hp : (0 <= p.1 /\ p.1 < g.l.length) /\ (0 <= p.2 /\ p.2 < h.l.length)) (o : List Pp) (ho0 : o = []) :
  Tri QP gp 82 [g.v,h.v,pv p,.one .nil] [] fun r post =>
   r = .tup [.one (.own 0 (pwF (fitP g h) (kdP g h) [p] o).1.length),vb (pwF (fitP g h) (kdP g h) [p] o).2] /\ post = [.row 2 (pwF (fitP g h) (kdP g h) [p] o).1.length (pps (pwF (fitP g h) (kdP g h) [p] o).1)] := by
 have hgl := hg.len
 have hhl := hh.len
 have hol : o.length <= 200000 := by subst ho0; simp
 have hz : 200000 - o.length <= 200000 + 1 := by omega
 have hn : o.Nodup := by subst ho0; simp
 have ho : ∀ x ∈ o,(0 <= x.1 /\ x.1 < (g.l.length : Int)) /\ (0 <= x.2 /\ x.2 < (h.l.length : Int)) := by subst ho0; simp
 have hm : p ∉ o := by subst ho0; simp
 have c1 := in9 (gp := gp) o p (by omega)
 have e1 : decide (p ∈ o) = false := decide_eq_false hm
 rw [e1] at c1
 have hn' : (o ++ [p]).Nodup := snoc_nodup hn hm
 have ho' : ∀ x ∈ o ++ [p],(0 <= x.1 /\ x.1 < g.l.length) /\ (0 <= x.2 /\ x.2 < h.l.length) := fun x hx => by
  rcases List.mem_append.1 hx with h | h
  ·exact ho x h
  ·simp at h; subst h; exact hp
 have hlen' : (o ++ [p]).length = o.length + 1 := by simp
 obtain ⟨p1,hp1⟩ := Int.eq_ofNat_of_zero_le hp.1.1
 obtain ⟨p2,hp2⟩ := Int.eq_ofNat_of_zero_le hp.2.1
 have c2 := fit9 (gp := gp) g h p1 p2 hg.s hh.s (by omega) (by omega)
 rw [<- hp1,<- hp2,show ((p.1,p.2) : Pp) = p from rfl] at c2
 refine f82_tri ?_
 simp only [go_sem]
 refine G_row0 3 2 (by decide) rfl ?_
 simp only [go_sem]
 rw [show Ch.row 2 0 [] = Ch.row 2 o.length (pps o) from by rw [ho0]; rfl,show A.own 0 0 = A.own 0 o.length from by rw [ho0]; rfl]
 repeat' (first | refine Gx rfl ?_ | ((first | refine G_reg ?_ | refine G_regv ?_ | refine VO_chk ?_ | refine VO_go ?_ | refine VO_gx ?_); simp only [f82_r0,f82_r1,f82_r2,f82_r8,f82_r9,f82_r10,f82_r16,f82_r17,f82_r18,f82_r19,f82_r24,f82_r25,f82_r26,f82_r27,f82_r36,f82_r42,go_sem]) | refine VO_end ?_ | refine Sh.intro ?_ | refine Or.inl ⟨_,⟨c1,rfl⟩,Sh.intro ?_⟩ | (refine G_cond ?_; simp only [f82_r0,f82_r1,f82_r2,f82_r8,f82_r9,f82_r10,f82_r16,f82_r17,f82_r18,f82_r19,f82_r24,f82_r25,f82_r26,f82_r27,f82_r36,f82_r42,go_sem]; first | refine ⟨fun _ => ?_,fun _ => ?_⟩ | skip) | refine And.intro (fun _ => ?_) (fun _ => ?_) | ((first | refine G_fin ?_ | refine G_ret rfl ?_); simp only [f82_r0,f82_r1,f82_r2,f82_r8,f82_r9,f82_r10,f82_r16,f82_r17,f82_r18,f82_r19,f82_r24,f82_r25,f82_r26,f82_r27,f82_r36,f82_r42,or_self,Qs,Qt,Qu,Qv,Qw,Qx,Qy,Qz,Za,go_sem]))
 repeat (refine And.intro (by first | (simp; done) | omega | (unfold lenMax; omega) | (simp; omega) | (simp [lenMax]; omega)) ?_)
 rw [show pps o ++ [[D.int .i64 p.1,D.int .i64 p.2]] = pps (o ++ [p]) from by simp,<- hlen']
 by_cases hf : fitP g h p = true
 ·rw [hf] at c2
  have c3 := kids7 (gp := gp) g p.1 hg.s
  have c4 := kids7 (gp := gp) h p.2 hh.s
  rw [show kidsOf (ndAt g.l p.1) = kd g p.1 from rfl] at c3
  rw [show kidsOf (ndAt h.l p.2) = kd h p.2 from rfl] at c4
  have hkl := kd_len hg.s p.1
  have hfk := fit_kd hg hh hf
  have hkin := kdP_in hg hh p
  have ex := fun (t : List Pp) (ht : ∀ q ∈ t,(0 <= q.1 /\ q.1 < g.l.length) /\ (0 <= q.2 /\ q.2 < h.l.length)) => ex9 hg hh t (o ++ [p]) hn' ho' ht
  have hfin : pwF (fitP g h) (kdP g h) [p] o = pwF (fitP g h) (kdP g h) (kdP g h p) (o ++ [p]) := by
   have h1 := ex (kdP g h p) hkin
   exact (PW.step hm hf (by rw [List.append_nil]; exact h1)).eqF
  have hkz : kdP g h p = List.zip (kd g p.1) (kd h p.2) := rfl
  rw [hfin]
  generalize hA : kd g p.1 = A at *
  generalize hB : kd h p.2 = B at *
  generalize hK : kdP g h p = K at *
  have hKl : K.length = A.length := by rw [hkz]; simp; omega
  have p0 : pwF (fitP g h) (kdP g h) (K.take 0) (o ++ [p]) = (o ++ [p],true) := (PW.nil (o ++ [p])).eqF
  repeat' (first | refine Gx rfl ?_ | ((first | refine G_reg ?_ | refine G_regv ?_ | refine VO_chk ?_ | refine VO_go ?_ | refine VO_gx ?_); simp only [f82_r0,f82_r1,f82_r2,f82_r8,f82_r9,f82_r10,f82_r16,f82_r17,f82_r18,f82_r19,f82_r24,f82_r25,f82_r26,f82_r27,f82_r36,f82_r42,go_sem]) | refine VO_end ?_ | refine Sh.intro ?_ | refine ⟨_,c2,Sh.intro ?_⟩ | refine ⟨_,⟨c2,rfl⟩,Sh.intro ?_⟩ | refine ⟨_,c3,Sh.intro ?_⟩ | refine ⟨_,⟨c3,rfl⟩,Sh.intro ?_⟩ | refine ⟨_,c4,Sh.intro ?_⟩ | refine ⟨_,⟨c4,rfl⟩,Sh.intro ?_⟩ | (refine G_cond ?_; simp only [f82_r0,f82_r1,f82_r2,f82_r8,f82_r9,f82_r10,f82_r16,f82_r17,f82_r18,f82_r19,f82_r24,f82_r25,f82_r26,f82_r27,f82_r36,f82_r42,go_sem]; first | refine ⟨fun _ => ?_,fun _ => ?_⟩ | skip) | refine And.intro (fun _ => ?_) (fun _ => ?_) | ((first | refine G_fin ?_ | refine G_ret rfl ?_); simp only [f82_r0,f82_r1,f82_r2,f82_r8,f82_r9,f82_r10,f82_r16,f82_r17,f82_r18,f82_r19,f82_r24,f82_r25,f82_r26,f82_r27,f82_r36,f82_r42,or_self,Qs,Qt,Qu,Qv,Qw,Qx,Qy,Qz,Za,go_sem]))
  refine G_weak (fr 75 [(3,.one (.own 0 (o ++ [p]).length)),(4,.one (.d (.bx [.int .i64 g.root,.sl (nds g.l)]))),(5,.one (.d (.bx [.int .i64 h.root,.sl (nds h.l)]))),(10,.one (.d (.sl (ints A)))),(12,.one (.d (.sl (ints B)))),(14,vi ((0 : Nat) : Int))]) (by (simp only [go_sem]; repeat' (first | refine And.intro ?_ ?_ | exact Or.inl rfl | exact Or.inr rfl | rfl))) ?_
  refine G_loop (fun mz sz => ∃ (j : Nat) (w : List Pp),j <= A.length /\ mz = A.length - j /\ pwF (fitP g h) (kdP g h) (K.take j) (o ++ [p]) = (w,true) /\ sz = ⟨fr 75 [(3,.one (.own 0 w.length)),(4,.one (.d (.bx [.int .i64 g.root,.sl (nds g.l)]))),(5,.one (.d (.bx [.int .i64 h.root,.sl (nds h.l)]))),(10,.one (.d (.sl (ints A)))),(12,.one (.d (.sl (ints B)))),(14,vi (j : Int))],[.row 2 w.length (pps w)]⟩) A.length ⟨0,o ++ [p],Nat.zero_le _,rfl,p0,rfl⟩ ?_
  rintro _ _ ⟨j,w,hj,rfl,hw,rfl⟩
  simp only [go_sem]
  by_cases hjl : j < A.length
  ·obtain ⟨a,ha⟩ := at_lt hjl
   obtain ⟨b,hb⟩ := at_lt (l := B) (i := j) (by omega)
   have hab : K[j]? = some (a,b) := by rw [hkz,List.getElem?_zip_eq_some]; exact ⟨ha,hb⟩
   have hcr := hkin (a,b) (List.mem_of_getElem? hab)
   have w1 := ex (K.take j) fun x hx => hkin x (List.mem_of_mem_take hx)
   rw [hw] at w1
   have hwn := w1.nodup hn'
   have hwr := w1.all (P := fun x => (0 <= x.1 /\ x.1 < (g.l.length : Int)) /\ (0 <= x.2 /\ x.2 < (h.l.length : Int))) (fun x hx => hkin x (List.mem_of_mem_take hx)) ho' fun i _ => kdP_in hg hh i
   have w3 := ex9 hg hh [(a,b)] w hwn hwr (by simpa using hcr)
   obtain ⟨r,hr⟩ := w1.pre
   have hr' : w = (o ++ [p]) ++ r := hr
   have hcall := visit9 (gp := gp) hg hh 200000 (a,b) w (by
    have : w.length = (o ++ [p]).length + r.length := by rw [hr',List.length_append]
    omega) hwn hwr hcr
   have hwl := pair_range (n := 0) hwn fun x hx => by
    have := hwr x hx
    omega
   have ht : K.take (j + 1) = K.take j ++ [(a,b)] := by rw [List.take_succ,hab]; rfl
   have e2 : decide ((j : Int) < (A.length : Int)) = true := decide_eq_true (by omega)
   obtain ⟨w2,b2,hwb⟩ : ∃ w2 b2,pwF (fitP g h) (kdP g h) [(a,b)] w = (w2,b2) := ⟨_,_,rfl⟩
   rw [hwb] at hcall w3
   dsimp only at hcall w3
   cases b2 with
   | false =>
    have hall : pwF (fitP g h) (kdP g h) K (o ++ [p]) = (w2,false) := by
     have h1 := w1.app rfl w3
     rw [<- ht] at h1
     have h2 := h1.halt rfl (K.drop (j + 1))
     rw [List.take_append_drop] at h2
     exact h2.eqF
    rw [hall]
    repeat' (first | refine Gx rfl ?_ | ((first | refine G_reg ?_ | refine G_regv ?_ | refine VO_chk ?_ | refine VO_go ?_ | refine VO_gx ?_); simp only [f82_r0,f82_r1,f82_r2,f82_r8,f82_r9,f82_r10,f82_r16,f82_r17,f82_r18,f82_r19,f82_r24,f82_r25,f82_r26,f82_r27,f82_r36,f82_r42,e2,go_sem]) | refine VO_end ?_ | refine Sh.intro ?_ | refine ⟨_,⟨Int.natCast_nonneg _,(by first | exact map_at ha | (rw [Int.toNat_natCast]; exact map_at ha)),rfl⟩,Sh.intro ?_⟩ | refine ⟨_,⟨Int.natCast_nonneg _,(by first | exact map_at hb | (rw [Int.toNat_natCast]; exact map_at hb)),rfl⟩,Sh.intro ?_⟩ | (refine G_cond ?_; simp only [f82_r0,f82_r1,f82_r2,f82_r8,f82_r9,f82_r10,f82_r16,f82_r17,f82_r18,f82_r19,f82_r24,f82_r25,f82_r26,f82_r27,f82_r36,f82_r42,e2,go_sem]; first | (refine ⟨fun _ => ?_,fun _ => ?_⟩ <;> try (exfalso; omega)) | skip) | (refine And.intro (fun _ => ?_) (fun _ => ?_) <;> try (exfalso; omega)) | ((first | refine G_fin ?_ | refine G_ret rfl ?_); simp only [f82_r0,f82_r1,f82_r2,f82_r8,f82_r9,f82_r10,f82_r16,f82_r17,f82_r18,f82_r19,f82_r24,f82_r25,f82_r26,f82_r27,f82_r36,f82_r42,e2,or_self,Qs,Qt,Qu,Qv,Qw,Qx,Qy,Qz,Za,go_sem]))
    refine Or.inr (Or.inr ⟨[0],.tup [.one (.own 0 w2.length),vb false],[.row 2 w2.length (pps w2)],(by simp only [CallR,rnVs,rnV,rnA,rnAs,rn0,rn0s,posN,rnCs,rnC,getC,List.isEmpty_nil,reduceCtorEq,↓reduceIte,Qa,Qb,Qc,Qd,Qe,Qf,Qg,Qh,Qi,Qj,Qk,Ql,Qm,Qn,Qo,Qp,Qq,Qr]; simp only [go_sem]; exact ⟨f82_ok,hcall⟩),Sh.intro ?_⟩)
    simp only [go_sem]
    repeat' (first | refine Gx rfl ?_ | ((first | refine G_reg ?_ | refine G_regv ?_ | refine VO_chk ?_ | refine VO_go ?_ | refine VO_gx ?_); simp only [f82_r0,f82_r1,f82_r2,f82_r8,f82_r9,f82_r10,f82_r16,f82_r17,f82_r18,f82_r19,f82_r24,f82_r25,f82_r26,f82_r36,f82_r42,go_sem]) | refine VO_end ?_ | refine Sh.intro ?_ | (refine G_cond ?_; simp only [f82_r0,f82_r1,f82_r2,f82_r8,f82_r9,f82_r10,f82_r16,f82_r17,f82_r18,f82_r19,f82_r24,f82_r25,f82_r26,f82_r36,f82_r42,go_sem]; first | (refine ⟨fun _ => ?_,fun _ => ?_⟩ <;> try (exfalso; omega)) | skip) | (refine And.intro (fun _ => ?_) (fun _ => ?_) <;> try (exfalso; omega)) | ((first | refine G_fin ?_ | refine G_ret rfl ?_); simp only [f82_r0,f82_r1,f82_r2,f82_r8,f82_r9,f82_r10,f82_r16,f82_r17,f82_r18,f82_r19,f82_r24,f82_r25,f82_r26,f82_r36,f82_r42,or_self,Qs,Qt,Qu,Qv,Qw,Qx,Qy,Qz,Za,go_sem]))
    refine G_drop 1 (by simp only [List.length_nil,List.length_cons]; decide) (by simp only [go_sem]) (by simp only [go_sem]) ?_
    simp only [go_sem]
    repeat' (first | refine Gx rfl ?_ | ((first | refine G_reg ?_ | refine G_regv ?_ | refine VO_chk ?_ | refine VO_go ?_ | refine VO_gx ?_); simp only [f82_r0,f82_r1,f82_r2,f82_r8,f82_r9,f82_r10,f82_r16,f82_r17,f82_r18,f82_r19,f82_r24,f82_r25,f82_r26,f82_r27,f82_r36,f82_r42,go_sem]) | refine VO_end ?_ | refine Sh.intro ?_ | (refine G_cond ?_; simp only [f82_r0,f82_r1,f82_r2,f82_r8,f82_r9,f82_r10,f82_r16,f82_r17,f82_r18,f82_r19,f82_r24,f82_r25,f82_r26,f82_r27,f82_r36,f82_r42,go_sem]; first | (refine ⟨fun _ => ?_,fun _ => ?_⟩ <;> try (exfalso; omega)) | skip) | (refine And.intro (fun _ => ?_) (fun _ => ?_) <;> try (exfalso; omega)) | ((first | refine G_fin ?_ | refine G_ret rfl ?_); simp only [f82_r0,f82_r1,f82_r2,f82_r8,f82_r9,f82_r10,f82_r16,f82_r17,f82_r18,f82_r19,f82_r24,f82_r25,f82_r26,f82_r27,f82_r36,f82_r42,or_self,Qs,Qt,Qu,Qv,Qw,Qx,Qy,Qz,Za,go_sem]))
    all_goals trace_state
   | true =>
    have hstep : pwF (fitP g h) (kdP g h) (K.take (j + 1)) (o ++ [p]) = (w2,true) := by
     have h1 := w1.app rfl w3
     rw [<- ht] at h1
     exact h1.eqF
    repeat' (first | refine Gx rfl ?_ | ((first | refine G_reg ?_ | refine G_regv ?_ | refine VO_chk ?_ | refine VO_go ?_ | refine VO_gx ?_); simp only [f82_r0,f82_r1,f82_r2,f82_r8,f82_r9,f82_r10,f82_r16,f82_r17,f82_r18,f82_r19,f82_r24,f82_r25,f82_r26,f82_r27,f82_r36,f82_r42,e2,go_sem]) | refine VO_end ?_ | refine Sh.intro ?_ | refine ⟨_,⟨Int.natCast_nonneg _,(by first | exact map_at ha | (rw [Int.toNat_natCast]; exact map_at ha)),rfl⟩,Sh.intro ?_⟩ | refine ⟨_,⟨Int.natCast_nonneg _,(by first | exact map_at hb | (rw [Int.toNat_natCast]; exact map_at hb)),rfl⟩,Sh.intro ?_⟩ | (refine G_cond ?_; simp only [f82_r0,f82_r1,f82_r2,f82_r8,f82_r9,f82_r10,f82_r16,f82_r17,f82_r18,f82_r19,f82_r24,f82_r25,f82_r26,f82_r27,f82_r36,f82_r42,e2,go_sem]; first | (refine ⟨fun _ => ?_,fun _ => ?_⟩ <;> try (exfalso; omega)) | skip) | (refine And.intro (fun _ => ?_) (fun _ => ?_) <;> try (exfalso; omega)) | ((first | refine G_fin ?_ | refine G_ret rfl ?_); simp only [f82_r0,f82_r1,f82_r2,f82_r8,f82_r9,f82_r10,f82_r16,f82_r17,f82_r18,f82_r19,f82_r24,f82_r25,f82_r26,f82_r27,f82_r36,f82_r42,e2,or_self,Qs,Qt,Qu,Qv,Qw,Qx,Qy,Qz,Za,go_sem]))
    refine Or.inr (Or.inr ⟨[0],.tup [.one (.own 0 w2.length),vb true],[.row 2 w2.length (pps w2)],(by simp only [CallR,rnVs,rnV,rnA,rnAs,rn0,rn0s,posN,rnCs,rnC,getC,List.isEmpty_nil,reduceCtorEq,↓reduceIte,Qa,Qb,Qc,Qd,Qe,Qf,Qg,Qh,Qi,Qj,Qk,Ql,Qm,Qn,Qo,Qp,Qq,Qr]; simp only [go_sem]; exact ⟨f82_ok,hcall⟩),Sh.intro ?_⟩)
    simp only [go_sem]
    repeat' (first | refine Gx rfl ?_ | ((first | refine G_reg ?_ | refine G_regv ?_ | refine VO_chk ?_ | refine VO_go ?_ | refine VO_gx ?_); simp only [f82_r0,f82_r1,f82_r2,f82_r8,f82_r9,f82_r10,f82_r16,f82_r17,f82_r18,f82_r19,f82_r24,f82_r25,f82_r26,f82_r27,f82_r36,f82_r42,go_sem]) | refine VO_end ?_ | refine Sh.intro ?_ | (refine G_cond ?_; simp only [f82_r0,f82_r1,f82_r2,f82_r8,f82_r9,f82_r10,f82_r16,f82_r17,f82_r18,f82_r19,f82_r24,f82_r25,f82_r26,f82_r27,f82_r36,f82_r42,go_sem]; first | (refine ⟨fun _ => ?_,fun _ => ?_⟩ <;> try (exfalso; omega)) | skip) | (refine And.intro (fun _ => ?_) (fun _ => ?_) <;> try (exfalso; omega)) | ((first | refine G_fin ?_ | refine G_ret rfl ?_); simp only [f82_r0,f82_r1,f82_r2,f82_r8,f82_r9,f82_r10,f82_r16,f82_r17,f82_r18,f82_r19,f82_r24,f82_r25,f82_r26,f82_r27,f82_r36,f82_r42,or_self,Qs,Qt,Qu,Qv,Qw,Qx,Qy,Qz,Za,go_sem]))
    refine ⟨inK_nat hjl (by unfold lenMax; omega),?_⟩
    refine G_weak (fr 75 [(3,.one (.own 0 w2.length)),(4,.one (.d (.bx [.int .i64 g.root,.sl (nds g.l)]))),(5,.one (.d (.bx [.int .i64 h.root,.sl (nds h.l)]))),(10,.one (.d (.sl (ints A)))),(12,.one (.d (.sl (ints B)))),(14,vi (j + 1))]) (by (simp only [go_sem]; repeat' (first | refine And.intro ?_ ?_ | exact Or.inl rfl | exact Or.inr rfl | rfl))) ?_
    refine G_drop 1 (by simp only [List.length_nil,List.length_cons]; decide) (by simp only [go_sem]) (by simp only [go_sem]) ?_
    simp only [go_sem]
    exact G_again ⟨A.length - (j + 1),by omega,j + 1,w2,by omega,rfl,hstep,rfl⟩
  ·obtain rfl : A.length = j := by omega
   have e2 : decide ((A.length : Int) < (A.length : Int)) = false := decide_eq_false (by omega)
   rw [List.take_of_length_le (by omega)] at hw
   rw [hw]
   repeat' (first | refine Gx rfl ?_ | ((first | refine G_reg ?_ | refine G_regv ?_ | refine VO_chk ?_ | refine VO_go ?_ | refine VO_gx ?_); simp only [f82_r0,f82_r1,f82_r2,f82_r8,f82_r9,f82_r10,f82_r16,f82_r17,f82_r18,f82_r19,f82_r24,f82_r25,f82_r26,f82_r27,f82_r36,f82_r42,e2,go_sem]) | refine VO_end ?_ | refine Sh.intro ?_ | (refine G_cond ?_; simp only [f82_r0,f82_r1,f82_r2,f82_r8,f82_r9,f82_r10,f82_r16,f82_r17,f82_r18,f82_r19,f82_r24,f82_r25,f82_r26,f82_r27,f82_r36,f82_r42,e2,go_sem]; first | (refine ⟨fun _ => ?_,fun _ => ?_⟩ <;> try (exfalso; omega)) | skip) | (refine And.intro (fun _ => ?_) (fun _ => ?_) <;> try (exfalso; omega)) | ((first | refine G_fin ?_ | refine G_ret rfl ?_); simp only [f82_r0,f82_r1,f82_r2,f82_r8,f82_r9,f82_r10,f82_r16,f82_r17,f82_r18,f82_r19,f82_r24,f82_r25,f82_r26,f82_r27,f82_r36,f82_r42,e2,or_self,Qs,Qt,Qu,Qv,Qw,Qx,Qy,Qz,Za,go_sem]))
 ·have hff : fitP g h p = false := by simpa using hf
  rw [hff] at c2
  have hfin : pwF (fitP g h) (kdP g h) [p] o = (o ++ [p],false) := (PW.stop hm hff).eqF
  rw [hfin]
  repeat' (first | refine Gx rfl ?_ | ((first | refine G_reg ?_ | refine G_regv ?_ | refine VO_chk ?_ | refine VO_go ?_ | refine VO_gx ?_); simp only [f82_r0,f82_r1,f82_r2,f82_r8,f82_r9,f82_r10,f82_r16,f82_r17,f82_r18,f82_r19,f82_r24,f82_r25,f82_r26,f82_r27,f82_r36,f82_r42,go_sem]) | refine VO_end ?_ | refine Sh.intro ?_ | refine ⟨_,c2,Sh.intro ?_⟩ | refine ⟨_,⟨c2,rfl⟩,Sh.intro ?_⟩ | (refine G_cond ?_; simp only [f82_r0,f82_r1,f82_r2,f82_r8,f82_r9,f82_r10,f82_r16,f82_r17,f82_r18,f82_r19,f82_r24,f82_r25,f82_r26,f82_r27,f82_r36,f82_r42,go_sem]; first | refine ⟨fun _ => ?_,fun _ => ?_⟩ | skip) | refine And.intro (fun _ => ?_) (fun _ => ?_) | ((first | refine G_fin ?_ | refine G_ret rfl ?_); simp only [f82_r0,f82_r1,f82_r2,f82_r8,f82_r9,f82_r10,f82_r16,f82_r17,f82_r18,f82_r19,f82_r24,f82_r25,f82_r26,f82_r27,f82_r36,f82_r42,or_self,Qs,Qt,Qu,Qv,Qw,Qx,Qy,Qz,Za,go_sem]))
set_option maxHeartbeats 2000000 in
theorem pairs9 (g h : Gr) (hs : Small g) (hs' : Small h) (hst : ∀ x ∈ g.l,x.short) (hst' : ∀ x ∈ h.l,x.short) : Does QP gp 41 [g.v,h.v] (.tup [.one (.d (.sl (pps (prG g h).1))),vb (prG g h).2,vi (checkE [g,h])]) := by
 refine f41_in ?_
 simp only [go_sem]
 have c1 : Does QP gp 17 [g.v] (.tup [vi ((chk g).getD (0,0)).1,vi (chkE g)]) := check7 g hst
 have c2 : Does QP gp 17 [h.v] (.tup [vi ((chk h).getD (0,0)).1,vi (chkE h)]) := check7 h hst'
 by_cases hc : chk g = none /\ chk h = none
 ·have hg : Good g := ⟨hc.1,hs⟩
  have hh : Good h := ⟨hc.2,hs'⟩
  rw [checkE_good hg hh,prG_good hg hh]
  rw [chkE_ok hc.1] at c1
  rw [chkE_ok hc.2] at c2
  have c3 := visit9o (gp := gp) hg hh (g.root,h.root) ⟨hg.root,hh.root⟩ [] rfl
  rw [show pwF (fitP g h) (kdP g h) [(g.root,h.root)] [] = pairsG g h from (pairs_pw hg hh).eqF] at c3
  repeat' (first | refine Gx rfl ?_ | ((first | refine G_reg ?_ | refine G_regv ?_ | refine VO_chk ?_ | refine VO_go ?_ | refine VO_gx ?_); simp only [f41_r0,f41_r1,f41_r2,f41_r3,f41_r4,f41_r10,f41_r11,f41_r18,go_sem]) | refine VO_end ?_ | refine Sh.intro ?_ | refine ⟨_,c1,Sh.intro ?_⟩ | refine ⟨_,⟨c1,rfl⟩,Sh.intro ?_⟩ | refine ⟨_,c2,Sh.intro ?_⟩ | refine ⟨_,⟨c2,rfl⟩,Sh.intro ?_⟩ | (refine G_cond ?_; simp only [f41_r0,f41_r1,f41_r2,f41_r3,f41_r4,f41_r10,f41_r11,f41_r18,go_sem]; first | refine ⟨fun _ => ?_,fun _ => ?_⟩ | skip) | refine And.intro (fun _ => ?_) (fun _ => ?_) | ((first | refine G_fin ?_ | refine G_ret rfl ?_); simp only [f41_r0,f41_r1,f41_r2,f41_r3,f41_r4,f41_r10,f41_r11,f41_r18,or_self,Qs,Qt,Qu,Qv,Qw,Qx,Qy,Qz,Za,go_sem]))
  refine G_hint 37 ?_
  simp only [go_sem]
  repeat' (first | refine Gx rfl ?_ | ((first | refine G_reg ?_ | refine G_regv ?_ | refine VO_chk ?_ | refine VO_go ?_ | refine VO_gx ?_); simp only [f41_r0,f41_r1,f41_r2,f41_r3,f41_r4,f41_r10,f41_r11,f41_r17,go_sem]) | refine VO_end ?_ | refine Sh.intro ?_ | (refine G_cond ?_; simp only [f41_r0,f41_r1,f41_r2,f41_r3,f41_r4,f41_r10,f41_r11,f41_r17,go_sem]; first | refine ⟨fun _ => ?_,fun _ => ?_⟩ | skip) | refine And.intro (fun _ => ?_) (fun _ => ?_) | ((first | refine G_fin ?_ | refine G_ret rfl ?_); simp only [f41_r0,f41_r1,f41_r2,f41_r3,f41_r4,f41_r10,f41_r11,f41_r17,or_self,Qs,Qt,Qu,Qv,Qw,Qx,Qy,Qz,Za,go_sem]))
  refine Or.inr ⟨[],.tup [.one (.own 0 (pairsG g h).1.length),vb (pairsG g h).2],[.row 2 (pairsG g h).1.length (pps (pairsG g h).1)],(by simp only [CallR,rnVs,rnV,rnA,rnAs,rn0,rn0s,posN,rnCs,rnC,getC,List.isEmpty_nil,reduceCtorEq,↓reduceIte,Qa,Qb,Qc,Qd,Qe,Qf,Qg,Qh,Qi,Qj,Qk,Ql,Qm,Qn,Qo,Qp,Qq,Qr]; simp only [go_sem]; exact ⟨f82_ok,c3⟩),Sh.intro ?_⟩
  simp only [go_sem]
  repeat' (first | refine Gx rfl ?_ | ((first | refine G_reg ?_ | refine G_regv ?_ | refine VO_chk ?_ | refine VO_go ?_ | refine VO_gx ?_); simp only [f41_r0,f41_r1,f41_r2,f41_r3,f41_r4,f41_r10,f41_r11,f41_r17,go_sem]) | refine VO_end ?_ | refine Sh.intro ?_ | (refine G_cond ?_; simp only [f41_r0,f41_r1,f41_r2,f41_r3,f41_r4,f41_r10,f41_r11,f41_r17,go_sem]; first | refine ⟨fun _ => ?_,fun _ => ?_⟩ | skip) | refine And.intro (fun _ => ?_) (fun _ => ?_) | ((first | refine G_fin ?_ | refine G_ret rfl ?_); simp only [f41_r0,f41_r1,f41_r2,f41_r3,f41_r4,f41_r10,f41_r11,f41_r17,or_self,Qs,Qt,Qu,Qv,Qw,Qx,Qy,Qz,Za,go_sem]))
  refine G_freeze 0 ?_
  simp only [go_sem]
  repeat' (first | refine Gx rfl ?_ | ((first | refine G_reg ?_ | refine G_regv ?_ | refine VO_chk ?_ | refine VO_go ?_ | refine VO_gx ?_); simp only [f41_r0,f41_r1,f41_r2,f41_r3,f41_r4,f41_r10,f41_r11,f41_r17,f41_r18,go_sem]) | refine VO_end ?_ | refine Sh.intro ?_ | (refine G_cond ?_; simp only [f41_r0,f41_r1,f41_r2,f41_r3,f41_r4,f41_r10,f41_r11,f41_r17,f41_r18,go_sem]; first | refine ⟨fun _ => ?_,fun _ => ?_⟩ | skip) | refine And.intro (fun _ => ?_) (fun _ => ?_) | ((first | refine G_fin ?_ | refine G_ret rfl ?_); simp only [f41_r0,f41_r1,f41_r2,f41_r3,f41_r4,f41_r10,f41_r11,f41_r17,f41_r18,or_self,Qs,Qt,Qu,Qv,Qw,Qx,Qy,Qz,Za,go_sem]))
 ·have e1 : prG g h = ([],false) := by unfold prG; rw [if_neg hc]
  rw [e1]
  by_cases h1 : chk g = none
  ·have h2 : chk h ≠ none := fun e => hc ⟨h1,e⟩
   have he := chkE_bad h2
   have hE : checkE [g,h] = chkE h := by unfold checkE; rw [if_pos (chkE_ok h1)]; unfold checkE; rw [if_neg he]
   rw [hE]
   rw [chkE_ok h1] at c1
   generalize chkE h = e at *
   have e2 : (e != 0) = true := by simpa using he
   repeat' (first | refine Gx rfl ?_ | ((first | refine G_reg ?_ | refine G_regv ?_ | refine VO_chk ?_ | refine VO_go ?_ | refine VO_gx ?_); simp only [f41_r0,f41_r1,f41_r2,f41_r3,f41_r4,f41_r10,f41_r11,f41_r17,f41_r18,e2,go_sem]) | refine VO_end ?_ | refine Sh.intro ?_ | refine ⟨_,c1,Sh.intro ?_⟩ | refine ⟨_,⟨c1,rfl⟩,Sh.intro ?_⟩ | refine ⟨_,c2,Sh.intro ?_⟩ | refine ⟨_,⟨c2,rfl⟩,Sh.intro ?_⟩ | (refine G_cond ?_; simp only [f41_r0,f41_r1,f41_r2,f41_r3,f41_r4,f41_r10,f41_r11,f41_r17,f41_r18,e2,go_sem]; first | refine ⟨fun _ => ?_,fun _ => ?_⟩ | skip) | refine And.intro (fun _ => ?_) (fun _ => ?_) | ((first | refine G_fin ?_ | refine G_ret rfl ?_); simp only [f41_r0,f41_r1,f41_r2,f41_r3,f41_r4,f41_r10,f41_r11,f41_r17,f41_r18,e2,or_self,Qs,Qt,Qu,Qv,Qw,Qx,Qy,Qz,Za,go_sem]))
  ·have he := chkE_bad h1
   have hE : checkE [g,h] = chkE g := by unfold checkE; rw [if_neg he]
   rw [hE]
   generalize chkE g = e at *
   have e2 : (e != 0) = true := by simpa using he
   repeat' (first | refine Gx rfl ?_ | ((first | refine G_reg ?_ | refine G_regv ?_ | refine VO_chk ?_ | refine VO_go ?_ | refine VO_gx ?_); simp only [f41_r0,f41_r1,f41_r2,f41_r3,f41_r4,f41_r10,f41_r11,f41_r17,f41_r18,e2,go_sem]) | refine VO_end ?_ | refine Sh.intro ?_ | refine ⟨_,c1,Sh.intro ?_⟩ | refine ⟨_,⟨c1,rfl⟩,Sh.intro ?_⟩ | refine ⟨_,c2,Sh.intro ?_⟩ | refine ⟨_,⟨c2,rfl⟩,Sh.intro ?_⟩ | (refine G_cond ?_; simp only [f41_r0,f41_r1,f41_r2,f41_r3,f41_r4,f41_r10,f41_r11,f41_r17,f41_r18,e2,go_sem]; first | refine ⟨fun _ => ?_,fun _ => ?_⟩ | skip) | refine And.intro (fun _ => ?_) (fun _ => ?_) | ((first | refine G_fin ?_ | refine G_ret rfl ?_); simp only [f41_r0,f41_r1,f41_r2,f41_r3,f41_r4,f41_r10,f41_r11,f41_r17,f41_r18,e2,or_self,Qs,Qt,Qu,Qv,Qw,Qx,Qy,Qz,Za,go_sem]))
section
open Classical
noncomputable def inN (l : List Pp) (i k : Nat) : Bool := decide (∀ c,c < k -> ∀ p q,l[i]? = some p -> l[c]? = some q -> (p.1 = q.1 ↔ p.2 = q.2))
noncomputable def okN (l : List Pp) (i : Nat) : Bool := decide (∀ a,a < i -> inN l a a = true)
theorem inN_zero (l : List Pp) (i : Nat) : inN l i 0 = true := by unfold inN; simp
theorem okN_zero (l : List Pp) : okN l 0 = true := by unfold okN; simp
theorem inN_step {l : List Pp} {i k : Nat} {p q : Pp} (hp : l[i]? = some p) (hq : l[k]? = some q) : inN l i (k + 1) = (inN l i k && !(!((p.1 == q.1) == (p.2 == q.2)))) := by
 have e : (!(!((p.1 == q.1) == (p.2 == q.2)))) = true ↔ (p.1 = q.1 ↔ p.2 = q.2) := by
  by_cases h1 : p.1 = q.1
  ·have b1 : (p.1 == q.1) = true := beq_iff_eq.2 h1
   by_cases h2 : p.2 = q.2
   ·have b2 : (p.2 == q.2) = true := beq_iff_eq.2 h2
    rw [b1,b2]; simp [h1,h2]
   ·have b2 : (p.2 == q.2) = false := beq_eq_false_iff_ne.2 h2
    rw [b1,b2]; simp [h1,h2]
  ·have b1 : (p.1 == q.1) = false := beq_eq_false_iff_ne.2 h1
   by_cases h2 : p.2 = q.2
   ·have b2 : (p.2 == q.2) = true := beq_iff_eq.2 h2
    rw [b1,b2]; simp [h1,h2]
   ·have b2 : (p.2 == q.2) = false := beq_eq_false_iff_ne.2 h2
    rw [b1,b2]; simp [h1,h2]
 rw [Bool.eq_iff_iff,Bool.and_eq_true,e]
 unfold inN
 rw [decide_eq_true_iff,decide_eq_true_iff]
 constructor
 ·intro h
  exact ⟨fun (c : Nat) (hc : c < k) => h c (by omega),h k (by omega) p q hp hq⟩
 ·intro ⟨h1,h2⟩ c hc p' q' hp' hq'
  by_cases hck : c < k
  ·exact h1 c hck p' q' hp' hq'
  ·obtain rfl : c = k := by omega
   rw [hp] at hp'; rw [hq] at hq'
   cases hp'; cases hq'
   exact h2
theorem okN_step (l : List Pp) (i : Nat) : okN l (i + 1) = (okN l i && inN l i i) := by
 rw [Bool.eq_iff_iff,Bool.and_eq_true]
 unfold okN
 rw [decide_eq_true_iff,decide_eq_true_iff]
 constructor
 ·intro h
  exact ⟨fun (c : Nat) (hc : c < i) => h c (by omega),h i (by omega)⟩
 ·intro ⟨h1,h2⟩ c hc
  by_cases hck : c < i
  ·exact h1 c hck
  ·obtain rfl : c = i := by omega
   exact h2
theorem okN_alike {l : List Pp} (hn : l.Nodup) : okN l l.length = (decide ((l.map Prod.fst).Nodup) && decide ((l.map Prod.snd).Nodup)) := by
 have hne : ∀ a c : Nat,c < a -> ∀ p q,l[a]? = some p -> l[c]? = some q -> p ≠ q := by
  intro a c hca p q hp hq e
  obtain ⟨g1,g2⟩ := List.getElem?_eq_some_iff.1 hp
  obtain ⟨g3,g4⟩ := List.getElem?_eq_some_iff.1 hq
  exact (List.pairwise_iff_getElem.1 hn c a g3 g1 hca) (g4.trans (e.symm.trans g2.symm))
 rw [Bool.eq_iff_iff,Bool.and_eq_true,decide_eq_true_iff,decide_eq_true_iff]
 unfold okN inN
 simp only [decide_eq_true_iff]
 have hnod : ∀ φ : Pp -> Int,(l.map φ).Nodup ↔ ∀ a c : Nat,c < a -> ∀ p q,l[a]? = some p -> l[c]? = some q -> φ p ≠ φ q := by
  intro φ
  unfold List.Nodup
  rw [List.pairwise_map,List.pairwise_iff_getElem]
  constructor
  ·intro h a c hca p q hp hq e
   obtain ⟨g1,rfl⟩ := List.getElem?_eq_some_iff.1 hp
   obtain ⟨g3,rfl⟩ := List.getElem?_eq_some_iff.1 hq
   exact h c a g3 g1 hca e.symm
  ·intro h c a hc ha hca e
   exact h a c hca _ _ (List.getElem?_eq_getElem ha) (List.getElem?_eq_getElem hc) e.symm
 rw [hnod,hnod]
 constructor
 ·intro h
  constructor <;> intro a c hca p q hp hq e
  ·have hal := (List.getElem?_eq_some_iff.1 hp).1
   have := (h a hal c hca p q hp hq).1 e
   exact hne a c hca p q hp hq (Prod.ext e this)
  ·have hal := (List.getElem?_eq_some_iff.1 hp).1
   have := (h a hal c hca p q hp hq).2 e
   exact hne a c hca p q hp hq (Prod.ext this e)
 ·intro ⟨h1,h2⟩ a ha c hc p q hp hq
  have e1 := h1 a c hc p q hp hq
  have e2 := h2 a c hc p q hp hq
  exact ⟨fun e => absurd e e1,fun e => absurd e e2⟩
theorem alG_ok {g h : Gr} (hs : Small g) (hs' : Small h) : alG g h = ((prG g h).2 && okN (prG g h).1 (prG g h).1.length) := by
 by_cases hc : chk g = none /\ chk h = none
 ·have hg : Good g := ⟨hc.1,hs⟩
  have hh : Good h := ⟨hc.2,hs'⟩
  rw [prG_good hg hh,alG_good hg hh,okN_alike ((pairs_pw hg hh).nodup (by simp))]
  rfl
 ·unfold prG alG; rw [if_neg hc,if_neg hc]; simp
end
set_option maxHeartbeats 2000000 in
theorem alike9 (g h : Gr) (hs : Small g) (hs' : Small h) (hst : ∀ x ∈ g.l,x.short) (hst' : ∀ x ∈ h.l,x.short) : Does QP gp 43 [g.v,h.v] (.tup [vb (alG g h),vi (checkE [g,h])]) := by
 have c1 := pairs9 (gp := gp) g h hs hs' hst hst'
 have hl := prG_len hs hs'
 rw [alG_ok hs hs']
 generalize (prG g h).1 = W at *
 generalize (prG g h).2 = ok at *
 generalize checkE [g,h] = e at *
 have e0 : ok = (ok && okN W 0) := by rw [okN_zero]; simp
 rw [show (vb ok) = vb (ok && okN W 0) from by rw [<- e0]] at c1
 clear e0
 refine f43_in ?_
 simp only [go_sem]
 repeat' (first | refine Gx rfl ?_ | ((first | refine G_reg ?_ | refine G_regv ?_ | refine VO_chk ?_ | refine VO_go ?_ | refine VO_gx ?_); simp only [f43_r0,f43_r1,f43_r2,f43_r3,f43_r8,f43_r9,f43_r14,f43_r15,f43_r20,f43_r27,f43_r33,go_sem]) | refine VO_end ?_ | refine Sh.intro ?_ | refine ⟨_,c1,Sh.intro ?_⟩ | refine ⟨_,⟨c1,rfl⟩,Sh.intro ?_⟩ | (refine G_cond ?_; simp only [f43_r0,f43_r1,f43_r2,f43_r3,f43_r8,f43_r9,f43_r14,f43_r15,f43_r20,f43_r27,f43_r33,go_sem]; first | refine ⟨fun _ => ?_,fun _ => ?_⟩ | skip) | refine And.intro (fun _ => ?_) (fun _ => ?_) | ((first | refine G_fin ?_ | refine G_ret rfl ?_); simp only [f43_r0,f43_r1,f43_r2,f43_r3,f43_r8,f43_r9,f43_r14,f43_r15,f43_r20,f43_r27,f43_r33,or_self,Qs,Qt,Qu,Qv,Qw,Qx,Qy,Qz,Za,go_sem]))
 refine G_weak (fr 54 [(6,.one (.d (.sl (pps W)))),(7,vb (ok && okN W 0)),(8,vi e),(9,vi ((0 : Nat) : Int))]) (by (simp only [go_sem]; repeat' (first | refine And.intro ?_ ?_ | exact Or.inl rfl | exact Or.inr rfl | rfl))) ?_
 refine G_loop (fun mz sz => ∃ i : Nat,i <= W.length /\ mz = W.length - i /\ sz = ⟨fr 54 [(6,.one (.d (.sl (pps W)))),(7,vb (ok && okN W i)),(8,vi e),(9,vi (i : Int))],[]⟩) W.length ⟨0,Nat.zero_le _,rfl,rfl⟩ ?_
 rintro _ _ ⟨i,hi,rfl,rfl⟩
 simp only [go_sem]
 by_cases hil : i < W.length
 ·obtain ⟨p,hp⟩ := at_lt hil
  have e1 : decide ((i : Int) < (W.length : Int)) = true := decide_eq_true (by omega)
  have e3 : (ok && okN W i) = (ok && okN W i && inN W i 0) := by rw [inN_zero]; simp
  repeat' (first | refine Gx rfl ?_ | ((first | refine G_reg ?_ | refine G_regv ?_ | refine VO_chk ?_ | refine VO_go ?_ | refine VO_gx ?_); simp only [f43_r0,f43_r1,f43_r2,f43_r3,f43_r8,f43_r14,f43_r15,f43_r20,f43_r27,f43_r33,e1,go_sem]) | refine VO_end ?_ | refine Sh.intro ?_ | (refine G_cond ?_; simp only [f43_r0,f43_r1,f43_r2,f43_r3,f43_r8,f43_r14,f43_r15,f43_r20,f43_r27,f43_r33,e1,go_sem]; first | refine ⟨fun _ => ?_,fun _ => ?_⟩ | skip) | refine And.intro (fun _ => ?_) (fun _ => ?_) | ((first | refine G_fin ?_ | refine G_ret rfl ?_); simp only [f43_r0,f43_r1,f43_r2,f43_r3,f43_r8,f43_r14,f43_r15,f43_r20,f43_r27,f43_r33,e1,or_self,Qs,Qt,Qu,Qv,Qw,Qx,Qy,Qz,Za,go_sem]))
  refine G_weak (fr 54 [(6,.one (.d (.sl (pps W)))),(7,vb (ok && okN W i)),(8,vi e),(9,vi (i : Int)),(10,vi ((0 : Nat) : Int))]) (by (simp only [go_sem]; repeat' (first | refine And.intro ?_ ?_ | exact Or.inl rfl | exact Or.inr rfl | rfl))) ?_
  refine G_loop (fun mz sz => ∃ j : Nat,j <= i /\ mz = i - j /\ sz = ⟨fr 54 [(6,.one (.d (.sl (pps W)))),(7,vb (ok && okN W i && inN W i j)),(8,vi e),(9,vi (i : Int)),(10,vi (j : Int))],[]⟩) i ⟨0,Nat.zero_le _,rfl,by rw [<- e3]⟩ ?_
  rintro _ _ ⟨j,hj,rfl,rfl⟩
  simp only [go_sem]
  by_cases hjl : j < i
  ·obtain ⟨q,hq⟩ := at_lt (l := W) (i := j) (by omega)
   have e2 : decide ((j : Int) < (i : Int)) = true := decide_eq_true (by omega)
   have hst := inN_step hp hq
   have hb : inK .i64 ((j : Int) + 1) := inK_nat hjl (by unfold lenMax; omega)
   cases hx : (!((p.1 == q.1) == (p.2 == q.2))) with
   | true =>
    have e4 : (ok && okN W i && inN W i (j + 1)) = false := by rw [hst,hx]; simp
    repeat' (first | refine Gx rfl ?_ | ((first | refine G_reg ?_ | refine G_regv ?_ | refine VO_chk ?_ | refine VO_go ?_ | refine VO_gx ?_); simp only [f43_r0,f43_r1,f43_r2,f43_r3,f43_r8,f43_r9,f43_r14,f43_r15,f43_r20,f43_r27,f43_r33,e2,hx,go_sem]) | refine VO_end ?_ | refine Sh.intro ?_ | refine ⟨_,⟨Int.natCast_nonneg _,(by first | exact map_at hp | (rw [Int.toNat_natCast]; exact map_at hp)),rfl⟩,Sh.intro ?_⟩ | refine ⟨_,⟨Int.natCast_nonneg _,(by first | exact map_at hq | (rw [Int.toNat_natCast]; exact map_at hq)),rfl⟩,Sh.intro ?_⟩ | (refine G_cond ?_; simp only [f43_r0,f43_r1,f43_r2,f43_r3,f43_r8,f43_r9,f43_r14,f43_r15,f43_r20,f43_r27,f43_r33,e2,hx,go_sem]; first | refine ⟨fun _ => ?_,fun _ => ?_⟩ | skip) | refine And.intro (fun _ => ?_) (fun _ => ?_) | ((first | refine G_fin ?_ | refine G_ret rfl ?_); simp only [f43_r0,f43_r1,f43_r2,f43_r3,f43_r8,f43_r9,f43_r14,f43_r15,f43_r20,f43_r27,f43_r33,e2,hx,or_self,Qs,Qt,Qu,Qv,Qw,Qx,Qy,Qz,Za,go_sem]))
    refine ⟨hb,?_⟩
    refine G_weak (fr 54 [(6,.one (.d (.sl (pps W)))),(7,vb false),(8,vi e),(9,vi (i : Int)),(10,vi (j + 1))]) (by (simp only [go_sem]; repeat' (first | refine And.intro ?_ ?_ | exact Or.inl rfl | exact Or.inr rfl | rfl))) ?_
    exact G_again ⟨i - (j + 1),by omega,j + 1,by omega,rfl,by rw [e4]; rfl⟩
   | false =>
    have e4 : (ok && okN W i && inN W i (j + 1)) = (ok && okN W i && inN W i j) := by rw [hst,hx]; simp
    repeat' (first | refine Gx rfl ?_ | ((first | refine G_reg ?_ | refine G_regv ?_ | refine VO_chk ?_ | refine VO_go ?_ | refine VO_gx ?_); simp only [f43_r0,f43_r1,f43_r2,f43_r3,f43_r8,f43_r9,f43_r14,f43_r15,f43_r20,f43_r27,f43_r33,e2,hx,go_sem]) | refine VO_end ?_ | refine Sh.intro ?_ | refine ⟨_,⟨Int.natCast_nonneg _,(by first | exact map_at hp | (rw [Int.toNat_natCast]; exact map_at hp)),rfl⟩,Sh.intro ?_⟩ | refine ⟨_,⟨Int.natCast_nonneg _,(by first | exact map_at hq | (rw [Int.toNat_natCast]; exact map_at hq)),rfl⟩,Sh.intro ?_⟩ | (refine G_cond ?_; simp only [f43_r0,f43_r1,f43_r2,f43_r3,f43_r8,f43_r9,f43_r14,f43_r15,f43_r20,f43_r27,f43_r33,e2,hx,go_sem]; first | refine ⟨fun _ => ?_,fun _ => ?_⟩ | skip) | refine And.intro (fun _ => ?_) (fun _ => ?_) | ((first | refine G_fin ?_ | refine G_ret rfl ?_); simp only [f43_r0,f43_r1,f43_r2,f43_r3,f43_r8,f43_r9,f43_r14,f43_r15,f43_r20,f43_r27,f43_r33,e2,hx,or_self,Qs,Qt,Qu,Qv,Qw,Qx,Qy,Qz,Za,go_sem]))
    refine ⟨hb,?_⟩
    refine G_weak (fr 54 [(6,.one (.d (.sl (pps W)))),(7,vb (ok && okN W i && inN W i j)),(8,vi e),(9,vi (i : Int)),(10,vi (j + 1))]) (by (simp only [go_sem]; repeat' (first | refine And.intro ?_ ?_ | exact Or.inl rfl | exact Or.inr rfl | rfl))) ?_
    exact G_again ⟨i - (j + 1),by omega,j + 1,by omega,rfl,by rw [e4]; rfl⟩
  ·obtain rfl : i = j := by omega
   have e2 : decide ((i : Int) < (i : Int)) = false := decide_eq_false (by omega)
   have e5 : (ok && okN W (i + 1)) = (ok && okN W i && inN W i i) := by rw [okN_step,Bool.and_assoc]
   repeat' (first | refine Gx rfl ?_ | ((first | refine G_reg ?_ | refine G_regv ?_ | refine VO_chk ?_ | refine VO_go ?_ | refine VO_gx ?_); simp only [f43_r0,f43_r1,f43_r2,f43_r3,f43_r8,f43_r9,f43_r14,f43_r15,f43_r20,f43_r27,f43_r33,e2,go_sem]) | refine VO_end ?_ | refine Sh.intro ?_ | (refine G_cond ?_; simp only [f43_r0,f43_r1,f43_r2,f43_r3,f43_r8,f43_r9,f43_r14,f43_r15,f43_r20,f43_r27,f43_r33,e2,go_sem]; first | refine ⟨fun _ => ?_,fun _ => ?_⟩ | skip) | refine And.intro (fun _ => ?_) (fun _ => ?_) | ((first | refine G_fin ?_ | refine G_ret rfl ?_); simp only [f43_r0,f43_r1,f43_r2,f43_r3,f43_r8,f43_r9,f43_r14,f43_r15,f43_r20,f43_r27,f43_r33,e2,or_self,Qs,Qt,Qu,Qv,Qw,Qx,Qy,Qz,Za,go_sem]))
   refine ⟨inK_nat hil (by unfold lenMax; omega),?_⟩
   refine G_weak (fr 54 [(6,.one (.d (.sl (pps W)))),(7,vb (ok && okN W i && inN W i i)),(8,vi e),(9,vi (i + 1))]) (by (simp only [go_sem]; repeat' (first | refine And.intro ?_ ?_ | exact Or.inl rfl | exact Or.inr rfl | rfl))) ?_
   exact G_again ⟨W.length - (i + 1),by omega,i + 1,by omega,rfl,by rw [e5]; rfl⟩
 ·obtain rfl : W.length = i := by omega
  have e1 : decide ((W.length : Int) < (W.length : Int)) = false := decide_eq_false (by omega)
  repeat' (first | refine Gx rfl ?_ | ((first | refine G_reg ?_ | refine G_regv ?_ | refine VO_chk ?_ | refine VO_go ?_ | refine VO_gx ?_); simp only [f43_r0,f43_r1,f43_r2,f43_r3,f43_r8,f43_r9,f43_r14,f43_r15,f43_r20,f43_r27,f43_r33,e1,go_sem]) | refine VO_end ?_ | refine Sh.intro ?_ | (refine G_cond ?_; simp only [f43_r0,f43_r1,f43_r2,f43_r3,f43_r8,f43_r9,f43_r14,f43_r15,f43_r20,f43_r27,f43_r33,e1,go_sem]; first | refine ⟨fun _ => ?_,fun _ => ?_⟩ | skip) | refine And.intro (fun _ => ?_) (fun _ => ?_) | ((first | refine G_fin ?_ | refine G_ret rfl ?_); simp only [f43_r0,f43_r1,f43_r2,f43_r3,f43_r8,f43_r9,f43_r14,f43_r15,f43_r20,f43_r27,f43_r33,e1,or_self,Qs,Qt,Qu,Qv,Qw,Qx,Qy,Qz,Za,go_sem]))
end Go.Fw.L07
