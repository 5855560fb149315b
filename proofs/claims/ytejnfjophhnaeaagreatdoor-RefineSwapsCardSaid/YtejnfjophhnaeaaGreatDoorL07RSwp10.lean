/- Chapter 10: the law RefineSwaps. -/
import Derived.Test.YtejnfjophhnaeaaGreatDoorL07S10
import Derived.Test.YtejnfjophhnaeaaGreatDoorL07Swp
set_option linter.all false
namespace Go.Fw.L07
open Go Go.Fw
open Go.Fw.Sh renaming intro -> Kg
open Go.Fw renaming G_reg -> Ka,G_regw -> Ka,VO_chk -> Kb,VO_go -> Kc,VO_gx -> Kd,G_cond -> Ke,VO_end -> Kf,G_fin -> Kh,G_ret -> Ki,G_weak -> Kj,G_drop -> Kk,G_again -> Kl,G_loop -> Km,Gx -> Kn,Gw -> Ko
open And renaming intro -> Kp
open Go.Proofs.Tryz renaming prog -> QP
open Go.Fw.V.one renaming injEq -> Qs
open Go.Fw.V.agg renaming injEq -> Qt
open Go.Fw.V.tup renaming injEq -> Qu
open Go.Fw.A.d renaming injEq -> Qv
open Go.Fw.D.bool renaming injEq -> Qw
open Go.Fw.D.int renaming injEq -> Qx
open Go.Fw.D.str renaming injEq -> Qy
open Go.Fw.D.sl renaming injEq -> Qz
open List.cons renaming injEq -> Za
set_option maxRecDepth 4000
variable {gp : Heap}
abbrev rawR (x : Nd) (v : Value) : List D := [.int .i64 x.k,.int .i64 x.x.k,.int .i64 x.x.n,.str x.x.s,.sl (scs x.keys),.raw v]
def rawL (l : List Nd) (vs : List Value) : List (List D) := List.zipWith rawR l vs
def poolL (l : List Nd) (vs : List Value) : List (Option (Value × List (List D))) := List.zipWith (fun x v => some (v,ints x.kids)) l vs
theorem zip_snoc {α β γ : Type} (f : α -> β -> γ) : ∀ {l : List α} {vs : List β} {x : α} {v : β},l[vs.length]? = some x -> List.zipWith f l vs ++ [f x v] = List.zipWith f l (vs ++ [v])
 | a :: l,[],x,v,h => by simp at h; subst h; simp
 | [],[],x,v,h => by simp at h
 | a :: l,b :: vs,x,v,h => by
  have ih := zip_snoc f (l := l) (vs := vs) (x := x) (v := v) (by simpa using h)
  simp only [List.zipWith_cons_cons,List.cons_append,ih]
 | [],b :: vs,x,v,h => by simp at h
theorem rawL_len {l : List Nd} {vs : List Value} (h : vs.length <= l.length) : (rawL l vs).length = vs.length := by unfold rawL; rw [List.length_zipWith]; omega
theorem poolL_len {l : List Nd} {vs : List Value} (h : vs.length <= l.length) : (poolL l vs).length = vs.length := by unfold poolL; rw [List.length_zipWith]; omega
theorem rawL_get {l : List Nd} {vs : List Value} {i : Nat} {x : Nd} {v : Value} (hx : l[i]? = some x) (hv : vs[i]? = some v) : (rawL l vs)[i]? = some (rawR x v) := by unfold rawL; rw [List.getElem?_zipWith,hx,hv]
theorem poolL_get {l : List Nd} {vs : List Value} {i : Nat} {x : Nd} {v : Value} (hx : l[i]? = some x) (hv : vs[i]? = some v) : (poolL l vs)[i]? = some (some (v,ints x.kids)) := by unfold poolL; rw [List.getElem?_zipWith,hx,hv]
theorem ripe_swap {l : List Nd} {vs : List Value} (hl : vs.length = l.length) {i : Nat} {x : Nd} {u : Value} (hx : l[i]? = some x) (k : Nat) (to : Int) :
  RipeL ((poolL l vs).set i (some (u,ints (x.kids.set k to)))) ((rawL l vs).set i (rawR x u)) (nds (l.set i (swapN x k to))) := by
 have hil := (List.getElem?_eq_some_iff.1 hx).1
 have hrl := rawL_len (l := l) (vs := vs) (by omega)
 have hpl := poolL_len (l := l) (vs := vs) (by omega)
 refine ⟨by simp [nds]; omega,fun n x' hx' => ?_⟩
 unfold nds at hx'
 rw [List.getElem?_map,List.getElem?_set] at hx'
 rw [List.getElem?_set]
 by_cases e : i = n
 ·subst e
  rw [if_pos rfl,if_pos hil] at hx'
  cases hx'
  rw [if_pos rfl,if_pos (by omega)]
  refine ⟨_,rfl,rfl,fun j y' hy' => ?_⟩
  match j,hy' with
  | 0,h => cases h; exact ⟨_,rfl,.inl rfl⟩
  | 1,h => cases h; exact ⟨_,rfl,.inl rfl⟩
  | 2,h => cases h; exact ⟨_,rfl,.inl rfl⟩
  | 3,h => cases h; exact ⟨_,rfl,.inl rfl⟩
  | 4,h => cases h; exact ⟨_,rfl,.inl rfl⟩
  | 5,h => cases h; exact ⟨_,rfl,.inr ⟨i,u,_,by rw [List.getElem?_set,if_pos rfl,if_pos (by omega)]; rfl,rfl,rfl⟩⟩
 ·rw [if_neg e] at hx' ⊢
  cases hn : l[n]? with
  | none => rw [hn] at hx'; cases hx'
  | some z =>
   rw [hn] at hx'; cases hx'
   have hnl := (List.getElem?_eq_some_iff.1 hn).1
   obtain ⟨w,hw⟩ := at_lt (l := vs) (i := n) (by omega)
   refine ⟨_,rawL_get hn hw,rfl,fun j y' hy' => ?_⟩
   match j,hy' with
   | 0,h => cases h; exact ⟨_,rfl,.inl rfl⟩
   | 1,h => cases h; exact ⟨_,rfl,.inl rfl⟩
   | 2,h => cases h; exact ⟨_,rfl,.inl rfl⟩
   | 3,h => cases h; exact ⟨_,rfl,.inl rfl⟩
   | 4,h => cases h; exact ⟨_,rfl,.inl rfl⟩
   | 5,h => cases h; exact ⟨_,rfl,.inr ⟨n,w,_,by rw [List.getElem?_set,if_neg e]; exact poolL_get hn hw,rfl,rfl⟩⟩
theorem G_cut {S : Sx} {m : MI} {l K : List MI} {s : St} (hl : l = K) (h : ∀ K',K' = K -> G S (m :: K') s) : G S (m :: l) s := h l hl
set_option maxHeartbeats 4000000 in
theorem refine_swaps (h : Env10 gp) (g : Gr) (i0 k0 t0 : Int) : Does QP gp 5 [g.v,vi i0,vi k0,vi t0] (vb true) := by
 refine f5_in ?_
 simp only [go_sem]
 have cs := shown10_ok h
 have cg := small9 (gp := gp) g 30
 have hs := smallG_small10 g 30
 have hst := smallG_short10 g 30
 generalize smallG g 30 = q at *
 have c1 := classes10 h q hs hst
 by_cases hc : chk q = none
 ·have hg : Good q := ⟨hc,hs⟩
  have hgl := hg.len
  have hCl := clsL_len hg.fine
  rw [cOf_good hg,chkE_ok hc] at c1
  by_cases hi : 0 <= i0 /\ i0 < q.l.length
  ·have hir : inL q.l i0 := hi
   obtain ⟨i,rfl⟩ := Int.eq_ofNat_of_zero_le hi.1
   obtain ⟨x,hx⟩ := at_lt (l := q.l) (i := i) (by omega)
   have hnd : ndAt q.l i = x := by unfold ndAt; rw [if_pos hi,Int.toNat_natCast,hx]; rfl
   have d1 : decide ((i : Int) < 0) = false := decide_eq_false (by omega)
   have d2 : decide ((i : Int) >= (q.l.length : Int)) = false := decide_eq_false (by omega)
   by_cases hk : 0 <= k0 /\ k0 < x.kids.length
   ·obtain ⟨k,rfl⟩ := Int.eq_ofNat_of_zero_le hk.1
    obtain ⟨kf,hfr⟩ := at_lt (l := x.kids) (i := k) (by omega)
    have d3 : decide ((k : Int) < 0) = false := decide_eq_false (by omega)
    have d4 : decide ((k : Int) >= (x.kids.length : Int)) = false := decide_eq_false (by omega)
    by_cases ht : 0 <= t0 /\ t0 < q.l.length
    ·have d5 : decide (t0 < 0) = false := decide_eq_false (by omega)
     have d6 : decide (t0 >= (q.l.length : Int)) = false := decide_eq_false (by omega)
     generalize hC : clsL q.l = C at *
     repeat' (first | refine Kn rfl ?_ | ((first | refine Ka ?_ | refine Kb ?_ | refine Kc ?_ | refine Kd ?_ | refine Ke ?_); simp only [hCl,d1,d2,d3,d4,d5,d6,go_sem]) | refine Kf ?_ | refine Kg ?_ | refine ⟨_,cs,Sh.intro ?_⟩ | refine ⟨_,⟨cs,rfl⟩,Sh.intro ?_⟩ | refine ⟨_,cg,Sh.intro ?_⟩ | refine ⟨_,⟨cg,rfl⟩,Sh.intro ?_⟩ | refine ⟨_,c1,Sh.intro ?_⟩ | refine ⟨_,⟨c1,rfl⟩,Sh.intro ?_⟩ | refine ⟨_,⟨Int.natCast_nonneg _,map_at hx,rfl⟩,Sh.intro ?_⟩ | (refine Kp (fun _ => ?_) (fun _ => ?_) <;> try (exfalso; omega)) | ((first | refine Kh ?_ | refine Ki rfl ?_); simp only [hCl,d1,d2,d3,d4,d5,d6,or_self,Qs,Qt,Qu,Qv,Qw,Qx,Qy,Qz,Za,go_sem]))
     refine G_row0c 1 1 6 (by decide) rfl rfl ?_
     simp only [go_sem]
     refine G_pool0 1 ?_
     simp only [go_sem]
     refine Kj (fr 188 [(1,vi i),(2,vi k),(3,vi t0),(4,.one (.ptr 0 0)),(9,vb true),(10,.one (.d (.sl (ints C)))),(11,vi 0),(12,.one (.ptr 1 0)),(13,vi ((0 : Nat) : Int))]) (by (simp only [go_sem]; repeat' (first | refine Kp ?_ ?_ | exact Or.inl rfl | exact Or.inr rfl | rfl))) ?_
     refine Km (fun mz sz => ∃ (n : Nat) (vs : List Value),n <= q.l.length /\ mz = q.l.length - n /\ vs.length = n /\ sz = ⟨fr 188 [(1,vi i),(2,vi k),(3,vi t0),(4,.one (.ptr 0 0)),(9,vb true),(10,.one (.d (.sl (ints C)))),(11,vi 0),(12,.one (.ptr 1 0)),(13,vi (n : Int))],[.cells q.as,.cells [.d (.int .i64 q.root),.own 2 n],.row 6 n (rawL q.l vs),.pool 1 (poolL q.l vs)]⟩) q.l.length ⟨0,[],Nat.zero_le _,rfl,rfl,by simp [rawL,poolL]⟩ ?_
     rintro _ _ ⟨n,vs,hn,rfl,hvs,rfl⟩
     simp only [go_sem]
     by_cases hnl : n < q.l.length
     ·obtain ⟨y,hy⟩ := at_lt hnl
      have e1 : decide ((n : Int) < (q.l.length : Int)) = true := decide_eq_true (by omega)
      repeat' (first | refine Kn rfl ?_ | ((first | refine Ka ?_ | refine Kb ?_ | refine Kc ?_ | refine Kd ?_ | refine Ke ?_); simp only [e1,go_sem]) | refine Kf ?_ | refine Kg ?_ | refine ⟨_,⟨Int.natCast_nonneg _,map_at hy,rfl⟩,Sh.intro ?_⟩ | (refine Kp (fun _ => ?_) (fun _ => ?_) <;> try (exfalso; omega)) | ((first | refine Kh ?_ | refine Ki rfl ?_); simp only [e1,or_self,Qs,Qt,Qu,Qv,Qw,Qx,Qy,Qz,Za,go_sem]))
      have hy12 := (hs y (List.mem_of_getElem? hy)).2
      refine ⟨fun p hp => by simp [ints] at hp; obtain ⟨_,_,rfl⟩ := hp; rfl,by omega,by unfold lenMax; omega,?_⟩
      refine G_pinC 4 5 5 3 rfl rfl rfl rfl fun v => ?_
      simp only [List.set_cons_succ,List.set_cons_zero,go_sem]
      repeat' (first | refine Kn rfl ?_ | ((first | refine Ka ?_ | refine Kb ?_ | refine Kc ?_ | refine Kd ?_ | refine Ke ?_); simp only [e1,go_sem]) | refine Kf ?_ | refine Kg ?_ | (refine Kp (fun _ => ?_) (fun _ => ?_) <;> try (exfalso; omega)) | ((first | refine Kh ?_ | refine Ki rfl ?_); simp only [e1,or_self,Qs,Qt,Qu,Qv,Qw,Qx,Qy,Qz,Za,go_sem]))
      have hrl := rawL_len (l := q.l) (vs := vs) (by omega)
      subst hvs
      refine ⟨by simp,by omega,by unfold lenMax; omega,?_⟩
      rw [show rawL q.l vs ++ [[.int .i64 y.k,.int .i64 y.x.k,.int .i64 y.x.n,.str y.x.s,.sl (scs y.keys),.raw v]] = rawL q.l (vs ++ [v]) from zip_snoc rawR hy,show poolL q.l vs ++ [some (v,ints y.kids)] = poolL q.l (vs ++ [v]) from zip_snoc (fun (x : Nd) (w : Value) => (some (w,ints x.kids) : Option (Value × List (List D)))) hy]
      repeat' (first | refine Kn rfl ?_ | ((first | refine Ka ?_ | refine Kb ?_ | refine Kc ?_ | refine Kd ?_ | refine Ke ?_); simp only [e1,go_sem]) | refine Kf ?_ | refine Kg ?_ | (refine Kp (fun _ => ?_) (fun _ => ?_) <;> try (exfalso; omega)) | ((first | refine Kh ?_ | refine Ki rfl ?_); simp only [e1,or_self,Qs,Qt,Qu,Qv,Qw,Qx,Qy,Qz,Za,go_sem]))
      refine ⟨inK_nat hnl (by unfold lenMax; omega),?_⟩
      refine Kj (fr 188 [(1,vi i),(2,vi k),(3,vi t0),(4,.one (.ptr 0 0)),(9,vb true),(10,.one (.d (.sl (ints C)))),(11,vi 0),(12,.one (.ptr 1 0)),(13,vi (vs.length + 1))]) (by (simp only [go_sem]; repeat' (first | refine Kp ?_ ?_ | exact Or.inl rfl | exact Or.inr rfl | rfl))) ?_
      simp only [go_sem]
      refine Kk 4 (by simp only [List.length_nil,List.length_cons]; decide) (by simp only [go_sem]) (by simp only [go_sem]) ?_
      simp only [go_sem]
      exact Kl ⟨q.l.length - (vs.length + 1),by omega,vs.length + 1,vs ++ [v],by omega,rfl,by simp,rfl⟩
     ·obtain rfl : n = q.l.length := by omega
      have e1 : decide ((q.l.length : Int) < (q.l.length : Int)) = false := decide_eq_false (by omega)
      repeat' (first | refine Ko rfl ?_ | ((first | refine Ka ?_ | refine Kb ?_ | refine Kc ?_ | refine Kd ?_ | refine Ke ?_); simp only [e1,go_sem]) | refine Kf ?_ | refine Kg ?_ | (refine Kp (fun _ => ?_) (fun _ => ?_) <;> try (exfalso; omega)) | ((first | refine Kh ?_ | refine Ki rfl ?_); simp only [e1,or_self,Qs,Qt,Qu,Qv,Qw,Qx,Qy,Qz,Za,go_sem]))
      refine G_exit rfl ?_
      have hrl := rawL_len (l := q.l) (vs := vs) (by omega)
      obtain ⟨v,hv⟩ := at_lt (l := vs) (i := i) (by omega)
      have hrg := rawL_get hx hv
      have hpg := poolL_get hx hv
      refine G_toA 2 rfl (fun e => by rw [e] at hrl; simp at hrl; omega) ?_
      simp only [go_sem]
      refine G_pout 2 i 5 3 i rfl (map_at hrg) rfl rfl hpg ?_
      simp only [go_sem]
      have hgS : (((rawL q.l vs).map (fun x => x.map A.d)).set i [.d (.int .i64 x.k),.d (.int .i64 x.x.k),.d (.int .i64 x.x.n),.d (.str x.x.s),.d (.sl (scs x.keys)),.own 4 0])[i]? = some [.d (.int .i64 x.k),.d (.int .i64 x.x.k),.d (.int .i64 x.x.n),.d (.str x.x.s),.d (.sl (scs x.keys)),.own 4 0] := by
       rw [List.getElem?_set,if_pos rfl,if_pos (by rw [List.length_map]; omega)]
      have hlS : i < (((rawL q.l vs).map (fun x => x.map A.d)).set i [.d (.int .i64 x.k),.d (.int .i64 x.x.k),.d (.int .i64 x.x.n),.d (.str x.x.s),.d (.sl (scs x.keys)),.own 4 0]).length := by rw [List.length_set,List.length_map]; omega
      have hset : ∀ v' : Value,(((rawL q.l vs).map (fun x => x.map A.d)).set i [.d (.int .i64 x.k),.d (.int .i64 x.x.k),.d (.int .i64 x.x.n),.d (.str x.x.s),.d (.sl (scs x.keys)),.own 4 0]).set i [.d (.int .i64 x.k),.d (.int .i64 x.x.k),.d (.int .i64 x.x.n),.d (.str x.x.s),.d (.sl (scs x.keys)),.d (.raw v')] = ((rawL q.l vs).set i (rawR x v')).map fun x => x.map A.d := fun v' => by
       rw [List.set_set,List.map_set]; rfl
      generalize ((rawL q.l vs).map (fun x => x.map A.d)).set i [.d (.int .i64 x.k),.d (.int .i64 x.x.k),.d (.int .i64 x.x.n),.d (.str x.x.s),.d (.sl (scs x.keys)),.own 4 0] = XA at hgS hlS hset ⊢
      have hkl : k < x.kids.length := by omega
      refine G_seq ?_
      refine G_cut rfl fun K hK => ?_
      repeat' (first | refine Kn rfl ?_ | ((first | refine Ka ?_ | refine Kb ?_ | refine Kc ?_ | refine Kd ?_ | refine Ke ?_); simp only [go_sem]) | refine Kf ?_ | refine Kg ?_ | refine ⟨Int.natCast_nonneg _,hlS,_,⟨hgS,of_decide_eq_true rfl⟩,Sh.intro ?_⟩ | refine ⟨Int.natCast_nonneg _,hkl,_,⟨map_at hfr,of_decide_eq_true rfl⟩,Sh.intro ?_⟩ | (refine Kp (fun _ => ?_) (fun _ => ?_) <;> try (exfalso; omega)) | ((first | refine Kh ?_ | refine Ki rfl ?_); simp only [or_self,Qs,Qt,Qu,Qv,Qw,Qx,Qy,Qz,Za,go_sem]))
      subst hK
      refine G_seq ?_
      refine G_cut rfl fun K hK => ?_
      repeat' (first | refine Kn rfl ?_ | ((first | refine Ka ?_ | refine Kb ?_ | refine Kc ?_ | refine Kd ?_ | refine Ke ?_); simp only [go_sem]) | refine Kf ?_ | refine Kg ?_ | refine ⟨Int.natCast_nonneg _,hlS,_,⟨hgS,of_decide_eq_true rfl⟩,Sh.intro ?_⟩ | refine ⟨Int.natCast_nonneg _,hkl,_,⟨map_at hfr,of_decide_eq_true rfl⟩,Sh.intro ?_⟩ | (refine Kp (fun _ => ?_) (fun _ => ?_) <;> try (exfalso; omega)) | ((first | refine Kh ?_ | refine Ki rfl ?_); simp only [or_self,Qs,Qt,Qu,Qv,Qw,Qx,Qy,Qz,Za,go_sem]))
      subst hK
      have hpl := poolL_len (l := q.l) (vs := vs) (by omega)
      refine G_pinA 2 i 5 4 3 i rfl hgS rfl rfl rfl (by rw [List.getElem?_set,if_pos rfl,if_pos (by omega)]) fun v' => ?_
      simp only [go_sem]
      rw [hset v',List.set_set,show (ints x.kids).set k [.int .i64 t0] = ints (x.kids.set k t0) from by simp [ints,List.map_set]]
      refine G_ofA 2 ((rawL q.l vs).set i (rawR x v')) rfl ?_
      simp only [go_sem]
      refine G_ripe 2 3 (nds (q.l.set i (swapN x k t0))) rfl rfl (ripe_swap hvs hx k t0) ?_
      simp only [go_sem]
      refine G_freeze 2 ?_
      simp only [go_sem]
      have hto : inL q.l t0 := ht
      have hF : Fine (q.l.set i (swapN x k t0)) := by
       have := swap_fine hg.fine hir (k := k) hto
       rwa [hnd,Int.toNat_natCast] at this
      have hN : Near q.l (q.l.set i (swapN x k t0)) kf t0 := by
       have := swap_near hg.fine hir (k := k) (fr := kf) (to := t0) (by rw [hnd]; exact hfr)
       rwa [hnd,Int.toNat_natCast] at this
      have hsx := hs x (List.mem_of_getElem? hx)
      have hstx := hst x (List.mem_of_getElem? hx)
      have hs2 : Small ⟨q.root,q.l.set i (swapN x k t0)⟩ := set_small hs (by simpa [swapN] using hsx)
      have hst2 : ∀ y ∈ q.l.set i (swapN x k t0),y.short := fun y hy => by
       rcases List.mem_or_eq_of_mem_set hy with hy | rfl
       ·exact hst y hy
       ·exact ⟨hstx.1,by simpa [swapN] using hstx.2.1,hstx.2.2⟩
      have hc2 : chk ⟨q.root,q.l.set i (swapN x k t0)⟩ = none := chk_of (by simpa using hgl) (by simpa using hg.root) fun y hy => hF.node y hy
      have hg2 : Good ⟨q.root,q.l.set i (swapN x k t0)⟩ := ⟨hc2,hs2⟩
      have c2 := classes10 h ⟨q.root,q.l.set i (swapN x k t0)⟩ hs2 hst2
      have c3 := bisim10 h q ⟨q.root,q.l.set i (swapN x k t0)⟩ hs hs2 hst hst2
      rw [cOf_good hg2,chkE_ok hc2] at c2
      rw [show bisE q ⟨q.root,q.l.set i (swapN x k t0)⟩ = 0 from by unfold bisE; rw [if_pos (chkE_ok hc),chkE_ok hc2]] at c3
      have hxr := hg.fine.node x (List.mem_of_getElem? hx)
      have hkfi : inL q.l kf := by
       have hm := List.mem_of_getElem? hfr
       rcases kind_right hxr with h0 | h0 | h0
       ·rw [(one_right hxr h0).2] at hm; cases hm
       ·exact (seq_right hxr h0).2 kf hm
       ·exact (map_right hxr h0).2.2 kf hm
      obtain ⟨cf,hcf⟩ := cls_ex hg.fine hkfi
      obtain ⟨ct,hct⟩ := cls_ex hg.fine hto
      have hiff := cls_iff hg.fine hkfi hto
      rw [hC] at hcf hct hiff
      dsimp only at c2 c3
      by_cases hcc : cf = ct
      ·subst hcc
       have hS := hiff.1 (by rw [hcf,hct])
       have hcl := hN.cls hg.fine hF hS
       have hb : bisB q ⟨q.root,q.l.set i (swapN x k t0)⟩ = true := by
        unfold bisB
        rw [if_pos ⟨hc,hc2⟩]
        exact (simB_good hg hg2).2 (hN.sim hg.fine hF hS hg.in)
       rw [hb] at c3
       rw [<- hcl,hC] at c2
       have c4 := ints_eq (gp := gp) C C
       rw [decide_eq_true rfl] at c4
       repeat' (first | refine Kn rfl ?_ | ((first | refine Ka ?_ | refine Kb ?_ | refine Kc ?_ | refine Kd ?_ | refine Ke ?_); simp only [hCl,go_sem]) | refine Kf ?_ | refine Kg ?_ | refine ⟨_,c2,Sh.intro ?_⟩ | refine ⟨_,⟨c2,rfl⟩,Sh.intro ?_⟩ | refine ⟨_,c3,Sh.intro ?_⟩ | refine ⟨_,⟨c3,rfl⟩,Sh.intro ?_⟩ | refine ⟨_,c4,Sh.intro ?_⟩ | refine ⟨_,⟨c4,rfl⟩,Sh.intro ?_⟩ | refine ⟨_,⟨hkfi.1,ints_get hcf,rfl⟩,Sh.intro ?_⟩ | refine ⟨_,⟨hto.1,ints_get hct,rfl⟩,Sh.intro ?_⟩ | (refine Kp (fun _ => ?_) (fun _ => ?_) <;> try (exfalso; omega)) | ((first | refine Kh ?_ | refine Ki rfl ?_); simp only [hCl,or_self,Qs,Qt,Qu,Qv,Qw,Qx,Qy,Qz,Za,go_sem]))
      ·have hne : (cf != ct) = true := by simpa using hcc
       repeat' (first | refine Kn rfl ?_ | ((first | refine Ka ?_ | refine Kb ?_ | refine Kc ?_ | refine Kd ?_ | refine Ke ?_); simp only [hCl,hne,go_sem]) | refine Kf ?_ | refine Kg ?_ | refine ⟨_,c2,Sh.intro ?_⟩ | refine ⟨_,⟨c2,rfl⟩,Sh.intro ?_⟩ | refine ⟨_,c3,Sh.intro ?_⟩ | refine ⟨_,⟨c3,rfl⟩,Sh.intro ?_⟩ | refine ⟨_,⟨hkfi.1,ints_get hcf,rfl⟩,Sh.intro ?_⟩ | refine ⟨_,⟨hto.1,ints_get hct,rfl⟩,Sh.intro ?_⟩ | (refine Kp (fun _ => ?_) (fun _ => ?_) <;> try (exfalso; omega)) | ((first | refine Kh ?_ | refine Ki rfl ?_); simp only [hCl,hne,or_self,Qs,Qt,Qu,Qv,Qw,Qx,Qy,Qz,Za,go_sem]))
    ·by_cases h0 : t0 < 0
     ·have dd : decide (t0 < 0) = true := decide_eq_true h0
      repeat' (first | refine Kn rfl ?_ | ((first | refine Ka ?_ | refine Kb ?_ | refine Kc ?_ | refine Kd ?_ | refine Ke ?_); simp only [hCl,d1,d2,d3,d4,dd,go_sem]) | refine Kf ?_ | refine Kg ?_ | refine ⟨_,cs,Sh.intro ?_⟩ | refine ⟨_,⟨cs,rfl⟩,Sh.intro ?_⟩ | refine ⟨_,cg,Sh.intro ?_⟩ | refine ⟨_,⟨cg,rfl⟩,Sh.intro ?_⟩ | refine ⟨_,c1,Sh.intro ?_⟩ | refine ⟨_,⟨c1,rfl⟩,Sh.intro ?_⟩ | refine ⟨_,⟨Int.natCast_nonneg _,map_at hx,rfl⟩,Sh.intro ?_⟩ | (refine Kp (fun _ => ?_) (fun _ => ?_) <;> try (exfalso; omega)) | ((first | refine Kh ?_ | refine Ki rfl ?_); simp only [hCl,d1,d2,d3,d4,dd,or_self,Qs,Qt,Qu,Qv,Qw,Qx,Qy,Qz,Za,go_sem]))
     ·have d0 : decide (t0 < 0) = false := decide_eq_false h0
      have dd : decide (t0 >= (q.l.length : Int)) = true := decide_eq_true (by omega)
      repeat' (first | refine Kn rfl ?_ | ((first | refine Ka ?_ | refine Kb ?_ | refine Kc ?_ | refine Kd ?_ | refine Ke ?_); simp only [hCl,d1,d2,d3,d4,d0,dd,go_sem]) | refine Kf ?_ | refine Kg ?_ | refine ⟨_,cs,Sh.intro ?_⟩ | refine ⟨_,⟨cs,rfl⟩,Sh.intro ?_⟩ | refine ⟨_,cg,Sh.intro ?_⟩ | refine ⟨_,⟨cg,rfl⟩,Sh.intro ?_⟩ | refine ⟨_,c1,Sh.intro ?_⟩ | refine ⟨_,⟨c1,rfl⟩,Sh.intro ?_⟩ | refine ⟨_,⟨Int.natCast_nonneg _,map_at hx,rfl⟩,Sh.intro ?_⟩ | (refine Kp (fun _ => ?_) (fun _ => ?_) <;> try (exfalso; omega)) | ((first | refine Kh ?_ | refine Ki rfl ?_); simp only [hCl,d1,d2,d3,d4,d0,dd,or_self,Qs,Qt,Qu,Qv,Qw,Qx,Qy,Qz,Za,go_sem]))
   ·by_cases h0 : k0 < 0
    ·have dd : decide (k0 < 0) = true := decide_eq_true h0
     repeat' (first | refine Kn rfl ?_ | ((first | refine Ka ?_ | refine Kb ?_ | refine Kc ?_ | refine Kd ?_ | refine Ke ?_); simp only [hCl,d1,d2,dd,go_sem]) | refine Kf ?_ | refine Kg ?_ | refine ⟨_,cs,Sh.intro ?_⟩ | refine ⟨_,⟨cs,rfl⟩,Sh.intro ?_⟩ | refine ⟨_,cg,Sh.intro ?_⟩ | refine ⟨_,⟨cg,rfl⟩,Sh.intro ?_⟩ | refine ⟨_,c1,Sh.intro ?_⟩ | refine ⟨_,⟨c1,rfl⟩,Sh.intro ?_⟩ | refine ⟨_,⟨Int.natCast_nonneg _,map_at hx,rfl⟩,Sh.intro ?_⟩ | (refine Kp (fun _ => ?_) (fun _ => ?_) <;> try (exfalso; omega)) | ((first | refine Kh ?_ | refine Ki rfl ?_); simp only [hCl,d1,d2,dd,or_self,Qs,Qt,Qu,Qv,Qw,Qx,Qy,Qz,Za,go_sem]))
    ·have d0 : decide (k0 < 0) = false := decide_eq_false h0
     have dd : decide (k0 >= (x.kids.length : Int)) = true := decide_eq_true (by omega)
     repeat' (first | refine Kn rfl ?_ | ((first | refine Ka ?_ | refine Kb ?_ | refine Kc ?_ | refine Kd ?_ | refine Ke ?_); simp only [hCl,d1,d2,d0,dd,go_sem]) | refine Kf ?_ | refine Kg ?_ | refine ⟨_,cs,Sh.intro ?_⟩ | refine ⟨_,⟨cs,rfl⟩,Sh.intro ?_⟩ | refine ⟨_,cg,Sh.intro ?_⟩ | refine ⟨_,⟨cg,rfl⟩,Sh.intro ?_⟩ | refine ⟨_,c1,Sh.intro ?_⟩ | refine ⟨_,⟨c1,rfl⟩,Sh.intro ?_⟩ | refine ⟨_,⟨Int.natCast_nonneg _,map_at hx,rfl⟩,Sh.intro ?_⟩ | (refine Kp (fun _ => ?_) (fun _ => ?_) <;> try (exfalso; omega)) | ((first | refine Kh ?_ | refine Ki rfl ?_); simp only [hCl,d1,d2,d0,dd,or_self,Qs,Qt,Qu,Qv,Qw,Qx,Qy,Qz,Za,go_sem]))
  ·by_cases h0 : i0 < 0
   ·have dd : decide (i0 < 0) = true := decide_eq_true h0
    repeat' (first | refine Kn rfl ?_ | ((first | refine Ka ?_ | refine Kb ?_ | refine Kc ?_ | refine Kd ?_ | refine Ke ?_); simp only [hCl,dd,go_sem]) | refine Kf ?_ | refine Kg ?_ | refine ⟨_,cs,Sh.intro ?_⟩ | refine ⟨_,⟨cs,rfl⟩,Sh.intro ?_⟩ | refine ⟨_,cg,Sh.intro ?_⟩ | refine ⟨_,⟨cg,rfl⟩,Sh.intro ?_⟩ | refine ⟨_,c1,Sh.intro ?_⟩ | refine ⟨_,⟨c1,rfl⟩,Sh.intro ?_⟩ | (refine Kp (fun _ => ?_) (fun _ => ?_) <;> try (exfalso; omega)) | ((first | refine Kh ?_ | refine Ki rfl ?_); simp only [hCl,dd,or_self,Qs,Qt,Qu,Qv,Qw,Qx,Qy,Qz,Za,go_sem]))
   ·have d0 : decide (i0 < 0) = false := decide_eq_false h0
    have dd : decide (i0 >= (q.l.length : Int)) = true := decide_eq_true (by omega)
    repeat' (first | refine Kn rfl ?_ | ((first | refine Ka ?_ | refine Kb ?_ | refine Kc ?_ | refine Kd ?_ | refine Ke ?_); simp only [hCl,d0,dd,go_sem]) | refine Kf ?_ | refine Kg ?_ | refine ⟨_,cs,Sh.intro ?_⟩ | refine ⟨_,⟨cs,rfl⟩,Sh.intro ?_⟩ | refine ⟨_,cg,Sh.intro ?_⟩ | refine ⟨_,⟨cg,rfl⟩,Sh.intro ?_⟩ | refine ⟨_,c1,Sh.intro ?_⟩ | refine ⟨_,⟨c1,rfl⟩,Sh.intro ?_⟩ | (refine Kp (fun _ => ?_) (fun _ => ?_) <;> try (exfalso; omega)) | ((first | refine Kh ?_ | refine Ki rfl ?_); simp only [hCl,d0,dd,or_self,Qs,Qt,Qu,Qv,Qw,Qx,Qy,Qz,Za,go_sem]))
 ·have he := chkE_bad hc
  have e0 : cOf q = [] := by unfold cOf; rw [if_neg hc]
  rw [e0] at c1
  generalize chkE q = e at *
  have hne : (e != 0) = true := by simpa using he
  repeat' (first | refine Kn rfl ?_ | ((first | refine Ka ?_ | refine Kb ?_ | refine Kc ?_ | refine Kd ?_ | refine Ke ?_); simp only [hne,go_sem]) | refine Kf ?_ | refine Kg ?_ | refine ⟨_,cs,Sh.intro ?_⟩ | refine ⟨_,⟨cs,rfl⟩,Sh.intro ?_⟩ | refine ⟨_,cg,Sh.intro ?_⟩ | refine ⟨_,⟨cg,rfl⟩,Sh.intro ?_⟩ | refine ⟨_,c1,Sh.intro ?_⟩ | refine ⟨_,⟨c1,rfl⟩,Sh.intro ?_⟩ | (refine Kp (fun _ => ?_) (fun _ => ?_) <;> try (exfalso; omega)) | ((first | refine Kh ?_ | refine Ki rfl ?_); simp only [hne,or_self,Qs,Qt,Qu,Qv,Qw,Qx,Qy,Qz,Za,go_sem]))
  all_goals first | (exfalso; simp_all; done) | simp_all | trace_state
end Go.Fw.L07
