/- Chapter 13: a node's items. -/
import Derived.Test.YtakgmpkfpkmkaaaGreatDoorNb
import Derived.Test.YtakgmpkfpkmkaaaGreatDoorEb
import Derived.Test.YtakgmpkfpkmkaaaGreatDoorVy
set_option linter.all false
namespace Go.Fw.L07
open Go Go.Fw
open Go.Fw.Sh renaming intro -> Kg
open Go.Fw renaming G_reg -> Ka,VO_chk -> Kb,VO_go -> Kc,VO_gx -> Kd,G_cond -> Ke,VO_end -> Kf,G_fin -> Kh,G_ret -> Ki,G_weak -> Kj,G_drop -> Kk,G_again -> Kl,G_loop -> Km,Gx -> Kn
open Int renaming natCast_nonneg -> Kq
open List renaming getElem?_eq_some_iff -> Kr
open And renaming intro -> Kp
open Go.Proofs.Tryz renaming prog -> QP
open Nat renaming reduceAdd -> Qa,reduceSub -> Qb,reduceMul -> Qc,reduceLeDiff -> Qd,reduceLT -> Qe,reduceEqDiff -> Qf
open Int renaming reduceToNat -> Qg,reduceLT -> Qh,reduceLE -> Qi,reduceGT -> Qj,reduceGE -> Qk,reduceEq -> Ql,reduceNe -> Qm,reduceBEq -> Qn,reduceBNe -> Qo,reduceAdd -> Qp,reduceSub -> Qq,reduceNeg -> Qr
open Go.Fw.V.one renaming injEq -> Qs
open Go.Fw.V.agg renaming injEq -> Qt
open Go.Fw.V.tup renaming injEq -> Qu
open Go.Fw.A.d renaming injEq -> Qv
open Go.Fw.D.bool renaming injEq -> Qw
open Go.Fw.D.int renaming injEq -> Qx
open Go.Fw.D.str renaming injEq -> Qy
open Go.Fw.D.sl renaming injEq -> Qz
open List.cons renaming injEq -> Za
set_option maxRecDepth 4000
variable {gp : Heap}
abbrev mpC (met : List Int) : Ch := .map (metM met)
abbrev lpR (l : Nat) (rc : Loop) : Ch := .lp l frP rc .ready none
abbrev lpD (l : Nat) (rc : Loop) : Ch := .lp l frP rc .done (some (.exit 0))
def ItR (g : Gr) (l : Nat) (rc : Loop) (met' : List Int) (out new : List (List UInt8)) (r : V) (post : List Ch) : Prop :=
 (sizeL (out ++ new) <= 8000 -> r = vb true /\ post = stC (mpC met') g (out ++ new) (lpR l rc) []) /\ (8000 < sizeL (out ++ new) -> r = vb false /\ post = stC .dead g (stopL out new) (lpD l rc) [])
theorem getD_take_snoc {α : Type} {l : List α} {j : Nat} {x : α} (h : l[j]? = some x) : l.take (j + 1) = l.take j ++ [x] := (take_snoc h).symm
theorem lnK_snoc (n : Nat) : ∀ (hs : List (List UInt8)) (q : List Tr) (j : Nat) (h : List UInt8) (t : Tr),hs[j]? = some h -> q[j]? = some t -> lnK n (hs.take (j + 1)) (q.take (j + 1)) = lnK n (hs.take j) (q.take j) ++ lnT n h t
 | h0 :: hs,t0 :: q,0,h,t,e1,e2 => by
  simp at e1 e2; subst e1 e2
  simp only [List.take_succ_cons,List.take_zero]
  simp [lnK_cons,lnK_nil]
 | h0 :: hs,t0 :: q,j + 1,h,t,e1,e2 => by
  simp only [List.take_succ_cons]
  rw [lnK_cons,lnK_cons,lnK_snoc n hs q j h t (by simpa using e1) (by simpa using e2),List.append_assoc]
 | [],_,_,_,_,e,_ => by simp at e
 | _ :: _,[],_,_,_,_,e => by simp at e
theorem lnK_split (n : Nat) (hs : List (List UInt8)) (q : List Tr) (j : Nat) : lnK n hs q = lnK n (hs.take j) (q.take j) ++ lnK n (hs.drop j) (q.drop j) := by
 induction j generalizing hs q with
 | zero => simp [lnK_nil]
 | succ j ih =>
  cases hs with
  | nil => cases q <;> simp [lnK]
  | cons h hs =>
   cases q with
   | nil => simp [lnK_nil]
   | cons t q => simp only [List.take_succ_cons,List.drop_succ_cons]; rw [lnK_cons,lnK_cons,ih hs q,List.append_assoc]
theorem len_flat13 {α β : Type} (f : α -> List β) {l : List α} {x : α} (h : x ∈ l) : (f x).length <= (l.flatMap f).length := by
 induction l with
 | nil => cases h
 | cons y l ih =>
  rw [List.flatMap_cons,List.length_append]
  rcases List.mem_cons.1 h with rfl | h
  ·omega
  ·have := ih h; omega
theorem heads_len {g : Gr} (hg : Tdy g) {i : Nat} {x : Nd} (hx : g.l[i]? = some x) (hk : x.kids ≠ []) : (heads13 x.k x.keys x.kids.length).length = x.kids.length := by
 rcases nd_kind hg hx with ⟨_,h1,_⟩ | ⟨h0,_⟩ | ⟨h0,h1,_⟩
 ·exact absurd h1 hk
 ·unfold heads13; rw [if_pos h0]; simp
 ·unfold heads13; rw [if_neg (by omega)]; simp [h1]
theorem heads_short {g : Gr} (hg : Tdy g) (hst : ∀ x ∈ g.l,x.short) {i : Nat} {x : Nd} (hx : g.l[i]? = some x) : ∀ h ∈ heads13 x.k x.keys x.kids.length,h.length <= 1700001 := by
 intro h hm
 rcases nd_kind hg hx with ⟨h0,_,h2,_⟩ | ⟨h0,_⟩ | ⟨h0,_,h2,_⟩
 ·unfold heads13 at hm; rw [if_neg (by omega),h2] at hm; simp at hm
 ·unfold heads13 at hm; rw [if_pos h0,List.mem_replicate] at hm; rw [hm.2]; simp
 ·unfold heads13 at hm
  rw [if_neg (by omega)] at hm
  obtain ⟨y,hy,rfl⟩ := List.mem_map.1 hm
  have := scB_len (List.all_eq_true.1 h2 y hy) ((hst x (List.mem_of_getElem? hx)).2.2.2 y hy)
  simp; omega
theorem bare_short {g : Gr} (hg : Tdy g) (hst : ∀ x ∈ g.l,x.short) {i : Nat} {x : Nd} (hx : g.l[i]? = some x) : (bareN x).length <= 1700000 := by
 rcases nd_kind hg hx with ⟨h0,_,_,h2⟩ | ⟨h0,_⟩ | ⟨h0,_⟩
 ·have := scB_len h2 (hst x (List.mem_of_getElem? hx)).2.2.1
  show (if x.k = 0 then scB x.x else if x.k = 1 then _ else _ : List UInt8).length <= _
  rw [if_pos h0]; exact this
 ·show (if x.k = 0 then scB x.x else if x.k = 1 then _ else _ : List UInt8).length <= _
  rw [if_neg (by omega),if_pos h0]; simp
 ·show (if x.k = 0 then scB x.x else if x.k = 1 then _ else _ : List UInt8).length <= _
  rw [if_neg (by omega),if_neg (by omega)]; simp
theorem aName_short (n : Int) (h : n <= 1000) : (aName n).data.toList.length <= 22 := by
 by_cases h0 : 0 < n
 ·rw [aName_list h0]
  have := Lib.itoa_length_le n (by omega) (by omega)
  simp only [List.length_cons]; omega
 ·rw [aName_nil h0]; simp
theorem it_int (d : Nat) (h : 2 <= d) : ((2 * (d - 2) : Nat) : Int) + 2 = ((2 * (d + 1 - 2) : Nat) : Int) := by omega
set_option maxHeartbeats 4000000 in
theorem items_c (h : Env13 gp) {g : Gr} (hg : Tdy g) (hst : ∀ x ∈ g.l,x.short) {l : Nat} {rc : Loop} (hR : RoundsOK gp g l rc) : ∀ (N : Nat) {d i : Nat} {x : Nd} {met met' : List Int} {q : List Tr} {out : List (List UInt8)},
  (q.flatMap flatT).length <= N -> g.l[i]? = some x -> x.kids ≠ [] -> EmW g d x.kids met q met' -> 2 <= d -> d <= 24 -> sizeL out <= 8000 ->
  Tri QP gp 85 [.one (.ptr 1 0),yV l,vi i,vi ((2 * (d - 2) : Nat) : Int)] (stC (mpC met) g out (lpR l rc) []) (ItR g l rc met' out (lnK (2 * (d - 2)) (heads13 x.k x.keys x.kids.length) q)) := by
 intro N
 induction N with
 | zero =>
  intro d i x met met' q out hN hx hk hem
  exfalso
  have h1 := flat_len18' q
  have h2 := hem.len
  have : 0 < x.kids.length := by cases hc : x.kids with | nil => exact absurd hc hk | cons => simp
  omega
 | succ N ih =>
 intro d i x met met' q out hN hx hk hem hd2 hd24 hout
 have c1 := heads_c h hg hst (ancL g) met hx hk
 have c2 := kids (gp := gp) g i hg.good.s
 rw [show atE g.l i = 0 from by unfold atE; rw [if_pos (by have := (Kr.1 hx).1; omega)],ndAt_nat hx,hg.kids x (List.mem_of_getElem? hx)] at c2
 have hhl := heads_len hg hx hk
 have hhs := heads_short hg hst hx
 have hsx := hg.good.s x (List.mem_of_getElem? hx)
 have hql := hem.len
 generalize hhd : heads13 x.k x.keys x.kids.length = hd at *
 refine f85_tri ?_
 simp only [go_sem]
 repeat' (first | refine Kn rfl ?_ | ((first | refine Ka ?_ | refine Kb ?_ | refine Kc ?_ | refine Kd ?_ | refine Ke ?_); simp only [go_sem]) | refine Kf ?_ | refine Kg ?_ | (refine Kp (fun _ => ?_) (fun _ => ?_) <;> try (exfalso; omega)))
 refine Or.inr (Or.inr ⟨[1,0],.one (.d (.sl (strD hd))),[prC g (ancL g),.map (metM met)],(by simp only [CallR,rnVs,rnV,rnA,rnAs,rn0,rn0s,posN,rnCs,rnC,getC,List.isEmpty_nil,metM_refs,reduceCtorEq,↓reduceIte,Qa,Qb,Qc,Qd,Qe,Qf,Qg,Qh,Qi,Qj,Qk,Ql,Qm,Qn,Qo,Qp,Qq,Qr]; simp only [go_sem]; exact ⟨f125_ok,c1⟩),Kg ?_⟩)
 simp only [bkO,bkC,metM_refs]
 simp only [go_sem]
 repeat' (first | refine Kn rfl ?_ | ((first | refine Ka ?_ | refine Kb ?_ | refine Kc ?_ | refine Kd ?_ | refine Ke ?_); simp only [go_sem]) | refine Kf ?_ | refine Kg ?_ | refine ⟨_,c2,Kg ?_⟩ | refine ⟨_,⟨c2,rfl⟩,Kg ?_⟩ | (refine Kp (fun _ => ?_) (fun _ => ?_) <;> try (exfalso; omega)))
 have hin := it_int d hd2
 refine Kj (fr 72 [(0,.one (.ptr 1 0)),(1,yV l),(3,vi ((2 * (d - 2) : Nat) : Int)),(8,vb false),(9,.one (.d (.sl (strD hd)))),(30,.one (.d (.sl (ints x.kids)))),(31,vi x.kids.length),(32,vi ((0 : Nat) : Int))]) (by (simp only [go_sem]; repeat' (first | refine Kp ?_ ?_ | exact Or.inl rfl | exact Or.inr rfl | rfl))) ?_
 refine Kk 7 (by simp only [List.length_nil,List.length_cons]; decide) (by simp only [go_sem]) (by simp only [List.take_succ_cons,List.take_zero,List.all_cons,List.all_nil,metM_refs]; simp only [frP_refs,go_sem]) ?_
 simp only [go_sem]
 refine Km (fun mz sz => ∃ (j : Nat) (mj : List Int),j <= x.kids.length /\ mz = x.kids.length - j /\ EmW g d (x.kids.drop j) mj (q.drop j) met' /\ sizeL (out ++ lnK (2 * (d - 2)) (hd.take j) (q.take j)) <= 8000 /\
  sz = ⟨fr 72 [(0,.one (.ptr 1 0)),(1,yV l),(3,vi ((2 * (d - 2) : Nat) : Int)),(8,vb false),(9,.one (.d (.sl (strD hd)))),(30,.one (.d (.sl (ints x.kids)))),(31,vi x.kids.length),(32,vi (j : Int))],stC (mpC mj) g (out ++ lnK (2 * (d - 2)) (hd.take j) (q.take j)) (lpR l rc) []⟩) _ ⟨0,met,Nat.zero_le _,rfl,hem,by rw [List.take_zero,List.take_zero,lnK_nil,List.append_nil]; exact hout,by rw [List.take_zero,List.take_zero,lnK_nil,List.append_nil]; rfl⟩ ?_
 rintro _ _ ⟨j,mj,hj,rfl,hemj,hoj,rfl⟩
 simp only [go_sem]
 by_cases hjl : j < x.kids.length
 case neg =>
  obtain rfl : x.kids.length = j := by omega
  rw [show hd.take x.kids.length = hd from List.take_of_length_le (by omega),show q.take x.kids.length = q from List.take_of_length_le (by omega)] at hoj ⊢
  rw [List.drop_of_length_le (Nat.le_refl _)] at hemj
  rw [show q.drop x.kids.length = [] from List.drop_of_length_le (by omega)] at hemj
  cases hemj
  repeat' (first | refine Kn rfl ?_ | ((first | refine Ka ?_ | refine Kb ?_ | refine Kc ?_ | refine Kd ?_ | refine Ke ?_); simp only [go_sem]) | refine Kf ?_ | refine Kg ?_ | (refine Kp (fun _ => ?_) (fun _ => ?_) <;> try (exfalso; omega)) | ((first | refine Kh ?_ | refine Ki rfl ?_); simp only [or_self,Qs,Qt,Qu,Qv,Qw,Qx,Qy,Qz,Za,go_sem]))
  exact ⟨rfl,rfl⟩
 case pos =>
  obtain ⟨cj,hcj⟩ := at_lt hjl
  obtain ⟨hdj,hhj⟩ := at_lt (l := hd) (i := j) (by omega)
  obtain ⟨tj,htj⟩ := at_lt (l := q) (i := j) (by omega)
  have hsn := lnK_snoc (2 * (d - 2)) hd q j hdj tj hhj htj
  have hspl := lnK_split (2 * (d - 2)) hd q (j + 1)
  have e1 : x.kids.drop j = cj :: x.kids.drop (j + 1) := by
   obtain ⟨h2,rfl⟩ := Kr.1 hcj
   exact List.drop_eq_getElem_cons h2
  have e2 : q.drop j = tj :: q.drop (j + 1) := by
   obtain ⟨h2,rfl⟩ := Kr.1 htj
   exact List.drop_eq_getElem_cons h2
  rw [e1,e2] at hemj
  have hhdj : hdj.length <= 1700001 := hhs hdj (List.mem_of_getElem? hhj)
  have hnew : lnK (2 * (d - 2)) hd q = lnK (2 * (d - 2)) (hd.take j) (q.take j) ++ (lnT (2 * (d - 2)) hdj tj ++ lnK (2 * (d - 2)) (hd.drop (j + 1)) (q.drop (j + 1))) := by
   rw [hspl,hsn,List.append_assoc]
  have hflat : (flatT tj).length <= N + 1 := by
   have h1 := hN
   obtain ⟨hl2,rfl⟩ := Kr.1 htj
   have h2 := len_flat13 flatT (List.getElem_mem hl2)
   omega
  generalize hB : lnK (2 * (d - 2)) (hd.drop (j + 1)) (q.drop (j + 1)) = B at *
  generalize hnn : lnK (2 * (d - 2)) hd q = new at *
  generalize hP : lnK (2 * (d - 2)) (hd.take j) (q.take j) = P at *
  generalize hP2 : lnK (2 * (d - 2)) (hd.take (j + 1)) (q.take (j + 1)) = P2 at *
  have hstop : ∀ s r,lnT (2 * (d - 2)) hdj tj ++ B = s :: r -> stopL out new = stopL (out ++ P) (s :: r) := fun s r hs => by rw [hnew,hs,stopL_app out P _ hoj]
  have hsize : sizeL (out ++ new) = sizeL (out ++ P) + (sizeL (lnT (2 * (d - 2)) hdj tj) + sizeL B) := by rw [hnew,<- List.append_assoc,sizeL_app,sizeL_app (lnT _ _ _)]
  have hik : inK .i64 ((j : Int) + 1) := by simp [inK,IntKind.min,IntKind.max,IntKind.signed,IntKind.bits]; omega
  have key : (∃ w,stB tj = 32 :: w /\ tj.kids = [] /\ w.length <= 1700000 /\ EmW g d (x.kids.drop (j + 1)) mj (q.drop (j + 1)) met' /\
    Tri QP gp 83 [.one (.ptr 0 0),vi cj] [prC g (ancL g),.map (metM mj)] (fun r post => r = .one (.d (wordD (bT w))) /\ post = [prC g (ancL g),.map (metM mj)])) \/
    (∃ (i' : Nat) (y : Nd) (q1 : List Tr) (met1 : List Int),cj = (i' : Int) /\ g.l[i']? = some y /\ y.kids ≠ [] /\ d < 24 /\ EmW g (d + 1) y.kids (mj ++ [cj]) q1 met1 /\ EmW g d (x.kids.drop (j + 1)) met1 (q.drop (j + 1)) met' /\ tj = .mk y.k (aName (anc g i')) y.x y.keys q1 /\
    Tri QP gp 83 [.one (.ptr 0 0),vi cj] [prC g (ancL g),.map (metM mj)] (fun r post => r = .one (.d (openD cj (aName (anc g i')))) /\ post = [prC g (ancL g),.map (metM (mj ++ [cj]))])) := by
   clear hR ih hsn hspl hnew hB hnn hP hP2 hstop hsize
   generalize x.kids.drop (j + 1) = tl at *
   generalize q.drop (j + 1) = ql at *
   cases hemj with
   | @leaf _ i' y _ _ _ _ hy hyk hrest =>
    refine .inl ⟨bareN y,?_,rfl,bare_short hg hst hy,hrest,stands_leaf h hg hst (ancL g) mj hy hyk⟩
    show (if y.k = 3 then _ else if ([] : List Tr) = [] then _ else _) = _
    rw [if_neg (kind_not3 hg hy),if_pos rfl]
   | @ref _ i' y _ _ _ _ hy hyk hm ha hrest =>
    refine .inl ⟨42 :: (aName (anc g i')).data.toList,?_,rfl,?_,hrest,stands_ref h hg mj hy hyk hm ha⟩
    ·show (if (3 : Int) = 3 then _ else _) = _
     rw [if_pos rfl]; rfl
    ·have := aName_short (anc g i') (stands_nm h hg (Kr.1 hy).1)
     simp only [List.length_cons]; omega
   | @node _ i' y _ _ met1 _ q1 _ hy hyk hm hd24' h1 h2 =>
    exact .inr ⟨i',y,q1,met1,rfl,hy,hyk,hd24',h1,h2,rfl,stands_open h hg mj hy hyk hm⟩
  rw [lnT_eq] at hsize
  simp only [lnT_eq] at hstop
  rcases key with ⟨w,hw,hwk,hwl,hrest,c3⟩ | ⟨i',y,q1,met1,rfl,hy,hyk,hdd,hem1,hrest,rfl,c3⟩
  ·have c4 := word_text (gp := gp) (bT w) (by rw [bT_size]; omega)
   have c5 : Does QP gp 84 [vi ((2 * (d - 2) : Nat) : Int),vi (-1),.one (.d (.sl [[.str (bT hdj)],[.str (bT (32 :: w))]]))] (itV (blk13 (2 * (d - 2)) ++ (hdj ++ stB tj)) ((2 * (d - 2) : Nat) : Int) (-1)) := by
    have := line13 (gp := gp) (2 * (d - 2)) (by omega) (-1) [bT hdj,bT (32 :: w)] (by simp) (by simp [bT]; omega) (by simp)
    rw [hw]
    have e : ([bT hdj,bT (32 :: w)].flatMap fun s => s.data.toList) = hdj ++ 32 :: w := by simp [bT]
    rw [e] at this
    exact this
   rw [hwk,lnK_nil] at hsize
   rw [hwk,lnK_nil] at hstop
   generalize hs1 : blk13 (2 * (d - 2)) ++ (hdj ++ stB tj) = s1 at *
   have hs1l : s1.length <= 100000000 := by rw [<- hs1,hw]; simp [blk13]; omega
   have hst1 : sizeL (out ++ P ++ [s1]) = sizeL (out ++ P) + sizeL [s1] := sizeL_app _ _
   have hr := fun (S : Sx) h1 h2 E => hR S h1 h2 (mpC mj) E (out ++ P) s1 ((2 * (d - 2) : Nat) : Int) (-1) (metM_refs mj) hoj hs1l
   have hPn : out ++ P2 = out ++ P ++ [s1] := by rw [hsn,lnT_eq,hwk,lnK_nil,hs1,List.append_assoc]
   by_cases hfit : sizeL (out ++ P ++ [s1]) <= 8000
   case' pos =>
    have hb1 : decide (sizeL (out ++ P ++ [s1]) <= 8000) = true := decide_eq_true hfit
    have hb2 : ¬ sizeL (out ++ P ++ [s1]) > 8000 := by omega
    simp only [hb1,if_neg hb2] at hr
   case' neg =>
    have hb1 : decide (sizeL (out ++ P ++ [s1]) <= 8000) = false := decide_eq_false hfit
    have hb2 : sizeL (out ++ P ++ [s1]) > 8000 := by omega
    simp only [hb1,if_pos hb2] at hr
   all_goals
    repeat' (first | refine Kn rfl ?_ | ((first | refine Ka ?_ | refine Kb ?_ | refine Kc ?_ | refine Kd ?_ | refine Ke ?_); simp only [go_sem]) | refine Kf ?_ | refine Kg ?_ | refine ⟨_,⟨Kq _,(by first | exact map_at hcj | (rw [Int.toNat_natCast]; exact map_at hcj)),rfl⟩,Kg ?_⟩ | (refine Kp (fun _ => ?_) (fun _ => ?_) <;> try (exfalso; omega)))
    refine Or.inr (Or.inr ⟨[1,0],.one (.d (wordD (bT w))),[prC g (ancL g),.map (metM mj)],(by simp only [CallR,rnVs,rnV,rnA,rnAs,rn0,rn0s,posN,rnCs,rnC,getC,List.isEmpty_nil,metM_refs,reduceCtorEq,↓reduceIte,Qa,Qb,Qc,Qd,Qe,Qf,Qg,Qh,Qi,Qj,Qk,Ql,Qm,Qn,Qo,Qp,Qq,Qr]; simp only [go_sem]; exact ⟨f83_ok,c3⟩),Kg ?_⟩)
    simp only [bkO,bkC,metM_refs]
    simp only [go_sem]
    repeat' (first | refine Kn rfl ?_ | ((first | refine Ka ?_ | refine Kb ?_ | refine Kc ?_ | refine Kd ?_ | refine Ke ?_); simp only [go_sem]) | refine Kf ?_ | refine Kg ?_ | refine ⟨_,c5,Kg ?_⟩ | refine ⟨_,⟨c5,rfl⟩,Kg ?_⟩ | refine ⟨_,⟨Kq _,(by first | exact map_at hhj | (rw [Int.toNat_natCast]; exact map_at hhj)),rfl⟩,Kg ?_⟩ | refine ⟨_,_,⟨invW,c4⟩,Kg ?_⟩ | (refine Kp (fun _ => ?_) (fun _ => ?_) <;> try (exfalso; omega)))
    refine ⟨_,_,?_,hr _ rfl rfl _,Kg ?_⟩
    ·simp
    simp only [go_sem]
    repeat' (first | refine Kn rfl ?_ | ((first | refine Ka ?_ | refine Kb ?_ | refine Kc ?_ | refine Kd ?_ | refine Ke ?_); simp only [go_sem]) | refine Kf ?_ | refine Kg ?_ | refine ⟨hik,?_⟩ | (refine Kp (fun _ => ?_) (fun _ => ?_) <;> try (exfalso; omega)))
   · -- too many
    have hT := hstop _ _ rfl
    simp only [stopL,if_pos hb2] at hT
    refine G_kill 0 ?_
    simp only [go_sem]
    refine Kj (fr 72 [(8,vb false)]) (by (simp only [go_sem]; repeat' (first | refine Kp ?_ ?_ | exact Or.inl rfl | exact Or.inr rfl | rfl))) ?_
    refine Kk 7 (by simp only [List.length_nil,List.length_cons]; decide) (by simp only [go_sem]) (by simp only [List.take_succ_cons,List.take_zero,List.all_cons,List.all_nil,metM_refs]; simp only [frP_refs,go_sem]) ?_
    simp only [go_sem]
    repeat' (first | refine Kn rfl ?_ | ((first | refine Ka ?_ | refine Kb ?_ | refine Kc ?_ | refine Kd ?_ | refine Ke ?_); simp only [go_sem]) | refine Kf ?_ | refine Kg ?_ | (refine Kp (fun _ => ?_) (fun _ => ?_) <;> try (exfalso; omega)) | ((first | refine Kh ?_ | refine Ki rfl ?_); simp only [or_self,Qs,Qt,Qu,Qv,Qw,Qx,Qy,Qz,Za,go_sem]))
    exact ⟨rfl,by rw [hT]⟩
   · -- one more
    refine Kj (fr 72 [(0,.one (.ptr 1 0)),(1,yV l),(3,vi ((2 * (d - 2) : Nat) : Int)),(8,vb false),(9,.one (.d (.sl (strD hd)))),(30,.one (.d (.sl (ints x.kids)))),(31,vi x.kids.length),(32,vi ((j + 1 : Nat) : Int))]) (by (simp only [go_sem]; repeat' (first | refine Kp ?_ ?_ | exact Or.inl rfl | exact Or.inr rfl | rfl))) ?_
    refine Kk 7 (by simp only [List.length_nil,List.length_cons]; decide) (by simp only [go_sem]) (by simp only [List.take_succ_cons,List.take_zero,List.all_cons,List.all_nil,metM_refs]; simp only [frP_refs,go_sem]) ?_
    simp only [go_sem]
    exact Kl ⟨x.kids.length - (j + 1),by omega,j + 1,mj,by omega,rfl,hrest,by rw [hP2,hPn]; exact hfit,by rw [hP2,hPn]⟩
  ·have hi' := (Kr.1 hy).1
   have hnl := aName_short (anc g i') (stands_nm h hg hi')
   have hst0 : stB (.mk y.k (aName (anc g i')) y.x y.keys q1) = if aName (anc g i') = ⟨#[]⟩ then [] else 32 :: 38 :: (aName (anc g i')).data.toList := by
    have hq1 : q1 ≠ [] := fun e => hyk (List.eq_nil_of_length_eq_zero (by rw [<- hem1.len,e]; rfl))
    show (if y.k = 3 then _ else if q1 = [] then _ else _) = _
    rw [if_neg (kind_not3 hg hy),if_neg hq1]
    rfl
   have c4 := open_text (gp := gp) (i' : Int) (aName (anc g i')) (by
    have : (aName (anc g i')).size = (aName (anc g i')).data.toList.length := by simp
    omega)
   rw [<- hst0] at c4
   generalize hw : stB (.mk y.k (aName (anc g i')) y.x y.keys q1) = w at *
   have hwl : w.length <= 100 := by rw [hst0]; split <;> (simp only [List.length_cons,List.length_nil]; omega)
   have c5 : Does QP gp 84 [vi ((2 * (d - 2) : Nat) : Int),vi i',.one (.d (.sl [[.str (bT hdj)],[.str (bT w)]]))] (itV (blk13 (2 * (d - 2)) ++ (hdj ++ w)) ((2 * (d - 2) : Nat) : Int) i') := by
    have := line13 (gp := gp) (2 * (d - 2)) (by omega) (i' : Int) [bT hdj,bT w] (by simp) (by simp [bT]; omega) (by simp)
    have e : ([bT hdj,bT w].flatMap fun s => s.data.toList) = hdj ++ w := by simp [bT]
    rw [e] at this
    exact this
   have hd2' : 2 * (d + 1 - 2) = 2 * (d - 2) + 2 := by omega
   have hflq : (q1.flatMap flatT).length <= N := by
    rw [flatT_eq] at hflat
    simp only [Tr.kids,List.length_cons] at hflat
    omega
   have hql1 := hem1.len
   have hih := fun o ho => ih (d := d + 1) (i := i') (x := y) (met := mj ++ [(i' : Int)]) (met' := met1) (q := q1) (out := o) hflq hy hyk hem1 (by omega) (by omega) ho
   rw [hd2'] at hih
   simp only [Tr.k,Tr.keys,Tr.kids,hw] at hstop hsize
   rw [hql1] at hstop hsize
   generalize hn1 : lnK (2 * (d - 2) + 2) (heads13 y.k y.keys y.kids.length) q1 = new1 at *
   generalize hs1 : blk13 (2 * (d - 2)) ++ (hdj ++ w) = s1 at *
   have hs1l : s1.length <= 100000000 := by rw [<- hs1]; simp [blk13]; omega
   have hcons : sizeL (s1 :: new1) = sizeL [s1] + sizeL new1 := sizeL_app [s1] new1
   have hst1 : sizeL (out ++ P ++ [s1]) = sizeL (out ++ P) + sizeL [s1] := sizeL_app _ _
   have hst2 : sizeL (out ++ P ++ [s1] ++ new1) = sizeL (out ++ P ++ [s1]) + sizeL new1 := sizeL_app _ _
   have hmr := metM_refs (mj ++ [(i' : Int)])
   have hr := fun (S : Sx) h1 h2 E => hR S h1 h2 (mpC (mj ++ [(i' : Int)])) E (out ++ P) s1 ((2 * (d - 2) : Nat) : Int) i' hmr hoj hs1l
   have hPn : out ++ P2 = out ++ P ++ [s1] ++ new1 := by
    rw [hsn,lnT_eq]
    simp only [Tr.k,Tr.keys,Tr.kids,hw]
    rw [hql1,hn1,hs1]; simp
   have hik2 : inK .i64 ((2 * (d - 2) + 2 : Nat) : Int) := by simp [inK,IntKind.min,IntKind.max,IntKind.signed,IntKind.bits]; omega
   have hin2 : ((2 * (d - 2) : Nat) : Int) + 2 = ((2 * (d - 2) + 2 : Nat) : Int) := by omega
   by_cases hfit : sizeL (out ++ P ++ [s1]) <= 8000
   case' pos =>
    have hb1 : decide (sizeL (out ++ P ++ [s1]) <= 8000) = true := decide_eq_true hfit
    have hb2 : ¬ sizeL (out ++ P ++ [s1]) > 8000 := by omega
    simp only [hb1,if_neg hb2] at hr
   case' neg =>
    have hb1 : decide (sizeL (out ++ P ++ [s1]) <= 8000) = false := decide_eq_false hfit
    have hb2 : sizeL (out ++ P ++ [s1]) > 8000 := by omega
    simp only [hb1,if_pos hb2] at hr
   all_goals
    repeat' (first | refine Kn rfl ?_ | ((first | refine Ka ?_ | refine Kb ?_ | refine Kc ?_ | refine Kd ?_ | refine Ke ?_); simp only [go_sem]) | refine Kf ?_ | refine Kg ?_ | refine ⟨_,⟨Kq _,(by first | exact map_at hcj | (rw [Int.toNat_natCast]; exact map_at hcj)),rfl⟩,Kg ?_⟩ | (refine Kp (fun _ => ?_) (fun _ => ?_) <;> try (exfalso; omega)))
    refine Or.inr (Or.inr ⟨[1,0],.one (.d (openD i' (aName (anc g i')))),[prC g (ancL g),.map (metM (mj ++ [(i' : Int)]))],(by simp only [CallR,rnVs,rnV,rnA,rnAs,rn0,rn0s,posN,rnCs,rnC,getC,List.isEmpty_nil,metM_refs,reduceCtorEq,↓reduceIte,Qa,Qb,Qc,Qd,Qe,Qf,Qg,Qh,Qi,Qj,Qk,Ql,Qm,Qn,Qo,Qp,Qq,Qr]; simp only [go_sem]; exact ⟨f83_ok,c3⟩),Kg ?_⟩)
    simp only [bkO,bkC,metM_refs]
    simp only [go_sem]
    repeat' (first | refine Kn rfl ?_ | ((first | refine Ka ?_ | refine Kb ?_ | refine Kc ?_ | refine Kd ?_ | refine Ke ?_); simp only [go_sem]) | refine Kf ?_ | refine Kg ?_ | refine ⟨_,c5,Kg ?_⟩ | refine ⟨_,⟨c5,rfl⟩,Kg ?_⟩ | refine ⟨_,⟨Kq _,(by first | exact map_at hhj | (rw [Int.toNat_natCast]; exact map_at hhj)),rfl⟩,Kg ?_⟩ | refine ⟨_,_,⟨invO,c4⟩,Kg ?_⟩ | (refine Kp (fun _ => ?_) (fun _ => ?_) <;> try (exfalso; omega)))
    refine ⟨_,_,?_,hr _ rfl rfl _,Kg ?_⟩
    ·simp
    simp only [go_sem]
    repeat' (first | refine Kn rfl ?_ | ((first | refine Ka ?_ | refine Kb ?_ | refine Kc ?_ | refine Kd ?_ | refine Ke ?_); simp only [hin2,go_sem]) | refine Kf ?_ | refine Kg ?_ | refine ⟨hik2,?_⟩ | (refine Kp (fun _ => ?_) (fun _ => ?_) <;> try (exfalso; omega)))
   · -- too many
    have hT := hstop _ _ rfl
    simp only [List.cons_append,stopL,if_pos hb2] at hT
    refine G_kill 0 ?_
    simp only [go_sem]
    refine Kj (fr 72 [(8,vb false)]) (by (simp only [go_sem]; repeat' (first | refine Kp ?_ ?_ | exact Or.inl rfl | exact Or.inr rfl | rfl))) ?_
    refine Kk 7 (by simp only [List.length_nil,List.length_cons]; decide) (by simp only [go_sem]) (by simp only [List.take_succ_cons,List.take_zero,List.all_cons,List.all_nil,metM_refs]; simp only [frP_refs,go_sem]) ?_
    simp only [go_sem]
    repeat' (first | refine Kn rfl ?_ | ((first | refine Ka ?_ | refine Kb ?_ | refine Kc ?_ | refine Kd ?_ | refine Ke ?_); simp only [go_sem]) | refine Kf ?_ | refine Kg ?_ | (refine Kp (fun _ => ?_) (fun _ => ?_) <;> try (exfalso; omega)) | ((first | refine Kh ?_ | refine Ki rfl ?_); simp only [or_self,Qs,Qt,Qu,Qv,Qw,Qx,Qy,Qz,Za,go_sem]))
    exact ⟨rfl,by rw [hT]⟩
   · -- what stands in it
    have hcall := hih (out ++ P ++ [s1]) hfit
    by_cases hfit2 : sizeL (out ++ P ++ [s1] ++ new1) <= 8000
    ·have hc := tri_imp hcall fun r c hr => hr.1 hfit2
     refine Or.inr (Or.inr ⟨[0,1,2,3,4,5,6],vb true,stC (mpC met1) g (out ++ P ++ [s1] ++ new1) (lpR l rc) [],(by simp only [CallR,rnVs,rnV,rnA,rnAs,rn0,rn0s,posN,rnCs,rnC,getC,List.isEmpty_nil,metM_refs,frP_rn,reduceCtorEq,↓reduceIte,Qa,Qb,Qc,Qd,Qe,Qf,Qg,Qh,Qi,Qj,Qk,Ql,Qm,Qn,Qo,Qp,Qq,Qr]; simp only [go_sem]; exact ⟨f85_ok,hc⟩),Kg ?_⟩)
     simp only [bkO,bkC,metM_refs,frP_bk]
     simp only [go_sem]
     repeat' (first | refine Kn rfl ?_ | ((first | refine Ka ?_ | refine Kb ?_ | refine Kc ?_ | refine Kd ?_ | refine Ke ?_); simp only [go_sem]) | refine Kf ?_ | refine Kg ?_ | refine ⟨hik,?_⟩ | (refine Kp (fun _ => ?_) (fun _ => ?_) <;> try (exfalso; omega)))
     refine Kj (fr 72 [(0,.one (.ptr 1 0)),(1,yV l),(3,vi ((2 * (d - 2) : Nat) : Int)),(8,vb false),(9,.one (.d (.sl (strD hd)))),(30,.one (.d (.sl (ints x.kids)))),(31,vi x.kids.length),(32,vi ((j + 1 : Nat) : Int))]) (by (simp only [go_sem]; repeat' (first | refine Kp ?_ ?_ | exact Or.inl rfl | exact Or.inr rfl | rfl))) ?_
     refine Kk 7 (by simp only [List.length_nil,List.length_cons]; decide) (by simp only [go_sem]) (by simp only [List.take_succ_cons,List.take_zero,List.all_cons,List.all_nil,metM_refs]; simp only [frP_refs,go_sem]) ?_
     simp only [go_sem]
     exact Kl ⟨x.kids.length - (j + 1),by omega,j + 1,met1,by omega,rfl,hrest,by rw [hP2,hPn]; exact hfit2,by rw [hP2,hPn]⟩
    ·have hc := tri_imp hcall fun r c hr => hr.2 (by omega)
     have hT := hstop _ _ rfl
     simp only [List.cons_append,stopL,if_neg hb2] at hT
     change stopL out new = stopL (out ++ P ++ [s1]) (new1 ++ B) at hT
     rw [stopL_stop (out ++ P ++ [s1]) new1 B (by omega) hfit] at hT
     refine Or.inr (Or.inr ⟨[0,1,2,3,4,5,6],vb false,stC .dead g (stopL (out ++ P ++ [s1]) new1) (lpD l rc) [],(by simp only [CallR,rnVs,rnV,rnA,rnAs,rn0,rn0s,posN,rnCs,rnC,getC,List.isEmpty_nil,metM_refs,frP_rn,reduceCtorEq,↓reduceIte,Qa,Qb,Qc,Qd,Qe,Qf,Qg,Qh,Qi,Qj,Qk,Ql,Qm,Qn,Qo,Qp,Qq,Qr]; simp only [go_sem]; exact ⟨f85_ok,hc⟩),Kg ?_⟩)
     simp only [bkO,bkC,metM_refs,frP_bk]
     simp only [go_sem]
     repeat' (first | refine Kn rfl ?_ | ((first | refine Ka ?_ | refine Kb ?_ | refine Kc ?_ | refine Kd ?_ | refine Ke ?_); simp only [go_sem]) | refine Kf ?_ | refine Kg ?_ | (refine Kp (fun _ => ?_) (fun _ => ?_) <;> try (exfalso; omega)))
     refine Kj (fr 72 [(8,vb false)]) (by (simp only [go_sem]; repeat' (first | refine Kp ?_ ?_ | exact Or.inl rfl | exact Or.inr rfl | rfl))) ?_
     refine Kk 7 (by simp only [List.length_nil,List.length_cons]; decide) (by simp only [go_sem]) (by simp only [List.take_succ_cons,List.take_zero,List.all_cons,List.all_nil,metM_refs]; simp only [frP_refs,go_sem]) ?_
     simp only [go_sem]
     repeat' (first | refine Kn rfl ?_ | ((first | refine Ka ?_ | refine Kb ?_ | refine Kc ?_ | refine Kd ?_ | refine Ke ?_); simp only [go_sem]) | refine Kf ?_ | refine Kg ?_ | (refine Kp (fun _ => ?_) (fun _ => ?_) <;> try (exfalso; omega)) | ((first | refine Kh ?_ | refine Ki rfl ?_); simp only [or_self,Qs,Qt,Qu,Qv,Qw,Qx,Qy,Qz,Za,go_sem]))
     exact ⟨rfl,by rw [hT]⟩
def okAt (g : Gr) (i : Nat) : Prop := ∀ (x : Nd) (d : Int),g.l[i]? = some x -> (depL g)[i]? = some d -> d <= 24 /\ (d = 24 -> x.kids = [])
theorem deepQ_iff (g : Gr) : deepQ g ↔ ∀ i,okAt g i := ⟨fun h i x d hx hd => h i x d hx hd,fun h i x d hx hd => h i x d hx hd⟩
theorem dep_r13 {g : Gr} (hg : Tdy g) : ∀ (i : Nat) (y : Int),(depL g)[i]? = some y -> 1 <= y /\ y <= i + 1 := by
 intro i
 induction i using Nat.strongRecOn with
 | ind i ih =>
  intro y hy
  by_cases h0 : i = 0
  ·subst h0
   have := hg.dep_ok.1
   rw [this] at hy; cases hy; omega
  ·have hi := (Kr.1 hy).1
   rw [hg.dep_len] at hi
   obtain ⟨j,z,h1,h2,h3,h4⟩ := hg.dep_ok.2 i (by omega) hi
   have := ih j h1 z h3
   rw [h4] at hy; cases hy; omega
theorem dep_small {g : Gr} (hg : Tdy g) {i : Nat} {d : Int} (hd : (depL g)[i]? = some d) : 1 <= d /\ d <= 1000 := by
 have h1 := dep_r13 hg i d hd
 have h2 := (Kr.1 hd).1
 have h3 := hg.dep_len
 have h4 := hg.good.len
 omega
theorem deep_c (h : Env gp) {g : Gr} (hg : Tdy g) {b : Bool} (hb : b = true ↔ ¬ deepQ g) : Does QP gp 54 [g.v] (vb b) := by
 have c2 := depths_g h hg
 have hdl := hg.dep_len
 have hlen := hg.good.len
 refine f54_in ?_
 simp only [go_sem]
 repeat' (first | refine Kn rfl ?_ | ((first | refine Ka ?_ | refine Kb ?_ | refine Kc ?_ | refine Kd ?_ | refine Ke ?_); simp only [go_sem]) | refine Kf ?_ | refine Kg ?_ | refine ⟨_,c2,Kg ?_⟩ | refine ⟨_,⟨c2,rfl⟩,Kg ?_⟩ | (refine Kp (fun _ => ?_) (fun _ => ?_) <;> try (exfalso; omega)))
 refine Kj (fr 32 [(1,.one (.d (.bx [.int .i64 g.root,.sl (nds g.l)]))),(2,vb false),(12,.one (.d (.sl (ints (depL g))))),(13,vi (depL g).length),(14,vi (0 : Nat))]) (by (simp only [go_sem]; repeat' (first | refine Kp ?_ ?_ | exact Or.inl rfl | exact Or.inr rfl | rfl))) ?_
 refine Km (fun mz sz => ∃ j : Nat,j <= (depL g).length /\ mz = (depL g).length - j /\ (∀ k,k < j -> okAt g k) /\ sz = ⟨fr 32 [(1,.one (.d (.bx [.int .i64 g.root,.sl (nds g.l)]))),(2,vb false),(12,.one (.d (.sl (ints (depL g))))),(13,vi (depL g).length),(14,vi j)],[]⟩) ((depL g).length) ⟨0,Nat.zero_le _,(Nat.sub_zero _).symm,?_,rfl⟩ ?_
 ·intro k hk; omega
 rintro _ _ ⟨j,hj,rfl,hz,rfl⟩
 simp only [go_sem]
 by_cases hjl : j < (depL g).length
 ·obtain ⟨d,hd⟩ := at_lt hjl
  obtain ⟨x,hx⟩ := at_lt (l := g.l) (i := j) (by omega)
  have hik : inK .i64 ((j : Int) + 1) := by simp [inK,IntKind.min,IntKind.max,IntKind.signed,IntKind.bits]; omega
  have hdr := dep_small hg hd
  have hid : inK .i64 (d + 1) := by simp [inK,IntKind.min,IntKind.max,IntKind.signed,IntKind.bits]; omega
  by_cases hok : okAt g j
  ·obtain ⟨o1,o2⟩ := hok x d hx hd
   have hnext : ∀ k,k < j + 1 -> okAt g k := fun k hk => by
    by_cases e : k = j
    ·subst e; exact hok
    ·exact hz k (by omega)
   by_cases hk : x.kids = []
   case' pos =>
    have e1 : decide ((x.kids.length : Int) > 0) = false := by simp [hk]
    have e2 : decide (d > 24) = false := by simp; omega
    repeat' (first | refine Kn rfl ?_ | ((first | refine Ka ?_ | refine Kb ?_ | refine Kc ?_ | refine Kd ?_ | refine Ke ?_); simp only [e1,e2,go_sem]) | refine Kf ?_ | refine Kg ?_ | refine ⟨_,⟨Kq _,(by first | exact map_at hd | (rw [Int.toNat_natCast]; exact map_at hd)),rfl⟩,Kg ?_⟩ | refine ⟨_,⟨Kq _,(by first | exact map_at hx | (rw [Int.toNat_natCast]; exact map_at hx)),rfl⟩,Kg ?_⟩ | refine ⟨hik,?_⟩ | refine ⟨hid,?_⟩ | (refine Kp (fun _ => ?_) (fun _ => ?_) <;> try (exfalso; omega)))
   case' neg =>
    have e1 : decide ((x.kids.length : Int) > 0) = true := by simp; exact List.length_pos_iff.2 hk
    have e2 : decide (d + 1 > 24) = false := by
     have : d ≠ 24 := fun e => hk (o2 e)
     simp; omega
    repeat' (first | refine Kn rfl ?_ | ((first | refine Ka ?_ | refine Kb ?_ | refine Kc ?_ | refine Kd ?_ | refine Ke ?_); simp only [e1,e2,go_sem]) | refine Kf ?_ | refine Kg ?_ | refine ⟨_,⟨Kq _,(by first | exact map_at hd | (rw [Int.toNat_natCast]; exact map_at hd)),rfl⟩,Kg ?_⟩ | refine ⟨_,⟨Kq _,(by first | exact map_at hx | (rw [Int.toNat_natCast]; exact map_at hx)),rfl⟩,Kg ?_⟩ | refine ⟨hik,?_⟩ | refine ⟨hid,?_⟩ | (refine Kp (fun _ => ?_) (fun _ => ?_) <;> try (exfalso; omega)))
   all_goals
    refine Kj (fr 32 [(1,.one (.d (.bx [.int .i64 g.root,.sl (nds g.l)]))),(2,vb false),(12,.one (.d (.sl (ints (depL g))))),(13,vi (depL g).length),(14,vi (j + 1))]) (by (simp only [go_sem]; repeat' (first | refine Kp ?_ ?_ | exact Or.inl rfl | exact Or.inr rfl | rfl))) ?_
    refine Kl ⟨(depL g).length - (j + 1),by omega,j + 1,by omega,rfl,?_,rfl⟩
    exact hnext
  ·have hbt : b = true := hb.2 fun h => hok ((deepQ_iff g).1 h j)
   subst hbt
   have hno : d > 24 \/ (d = 24 /\ x.kids ≠ []) := by
    refine Classical.byContradiction fun hh => hok fun x' d' hx' hd' => ?_
    rw [hx] at hx'; cases hx'
    rw [hd] at hd'; cases hd'
    refine ⟨by omega,fun e => Classical.byContradiction fun hne => hh (.inr ⟨e,hne⟩)⟩
   by_cases hk : x.kids = []
   ·have e1 : decide ((x.kids.length : Int) > 0) = false := by simp [hk]
    have e2 : decide (d > 24) = true := by
     simp
     rcases hno with h1 | ⟨_,h1⟩
     ·omega
     ·exact absurd hk h1
    repeat' (first | refine Kn rfl ?_ | ((first | refine Ka ?_ | refine Kb ?_ | refine Kc ?_ | refine Kd ?_ | refine Ke ?_); simp only [e1,e2,go_sem]) | refine Kf ?_ | refine Kg ?_ | refine ⟨_,⟨Kq _,(by first | exact map_at hd | (rw [Int.toNat_natCast]; exact map_at hd)),rfl⟩,Kg ?_⟩ | refine ⟨_,⟨Kq _,(by first | exact map_at hx | (rw [Int.toNat_natCast]; exact map_at hx)),rfl⟩,Kg ?_⟩ | refine ⟨hik,?_⟩ | refine ⟨hid,?_⟩ | (refine Kp (fun _ => ?_) (fun _ => ?_) <;> try (exfalso; omega)) | ((first | refine Kh ?_ | refine Ki rfl ?_); simp only [e1,e2,or_self,Qs,Qt,Qu,Qv,Qw,Qx,Qy,Qz,Za,go_sem]))
    all_goals trace_state
   ·have e1 : decide ((x.kids.length : Int) > 0) = true := by simp; exact List.length_pos_iff.2 hk
    have e2 : decide (d + 1 > 24) = true := by simp; rcases hno with h1 | ⟨h1,_⟩ <;> omega
    repeat' (first | refine Kn rfl ?_ | ((first | refine Ka ?_ | refine Kb ?_ | refine Kc ?_ | refine Kd ?_ | refine Ke ?_); simp only [e1,e2,go_sem]) | refine Kf ?_ | refine Kg ?_ | refine ⟨_,⟨Kq _,(by first | exact map_at hd | (rw [Int.toNat_natCast]; exact map_at hd)),rfl⟩,Kg ?_⟩ | refine ⟨_,⟨Kq _,(by first | exact map_at hx | (rw [Int.toNat_natCast]; exact map_at hx)),rfl⟩,Kg ?_⟩ | refine ⟨hik,?_⟩ | refine ⟨hid,?_⟩ | (refine Kp (fun _ => ?_) (fun _ => ?_) <;> try (exfalso; omega)) | ((first | refine Kh ?_ | refine Ki rfl ?_); simp only [e1,e2,or_self,Qs,Qt,Qu,Qv,Qw,Qx,Qy,Qz,Za,go_sem]))
    all_goals trace_state
 ·obtain rfl : (depL g).length = j := by omega
  have hbf : b = false := by
   cases b with
   | false => rfl
   | true =>
    exfalso
    refine (hb.1 rfl) ((deepQ_iff g).2 fun i => ?_)
    by_cases hi : i < (depL g).length
    ·exact hz i hi
    ·intro x d hx hd
     rw [List.getElem?_eq_none (by omega)] at hd; cases hd
  subst hbf
  repeat' (first | refine Kn rfl ?_ | ((first | refine Ka ?_ | refine Kb ?_ | refine Kc ?_ | refine Kd ?_ | refine Ke ?_); simp only [go_sem]) | refine Kf ?_ | refine Kg ?_ | (refine Kp (fun _ => ?_) (fun _ => ?_) <;> try (exfalso; omega)) | ((first | refine Kh ?_ | refine Ki rfl ?_); simp only [or_self,Qs,Qt,Qu,Qv,Qw,Qx,Qy,Qz,Za,go_sem]))
  all_goals trace_state
theorem plc_small {g : Gr} (hg : Tdy g) (hf : (flat g).length <= 3000) : ∀ i : Nat,i <= g.l.length -> 0 <= sumN (fun i => if 0 < anc g i then 1 else (((0 :: flat g).count (i : Int) : Nat) : Int)) i /\ sumN (fun i => if 0 < anc g i then 1 else (((0 :: flat g).count (i : Int) : Nat) : Int)) i <= 3001 * i
 | 0,_ => by simp [sumN]
 | i + 1,h => by
  obtain ⟨h1,h2⟩ := plc_small hg hf i (by omega)
  simp only [sumN]
  have h3 := List.count_le_length (a := (i : Int)) (l := 0 :: flat g)
  simp only [List.length_cons] at h3
  split <;> omega
theorem flat_small13 {g : Gr} (hg : Tdy g) : (flat g).length <= 3000 := by
 have h1 := hg.good.len
 have : ∀ l : List Nd,(∀ x ∈ l,x.kids.length <= 12) -> (l.flatMap Nd.kids).length <= 12 * l.length := by
  intro l
  induction l with
  | nil => intro _; simp
  | cons x l ih =>
   intro h
   have := ih fun y hy => h y (by simp [hy])
   have := h x (by simp)
   rw [List.flatMap_cons,List.length_append,List.length_cons]; omega
 have := this g.l fun x hx => (hg.good.s x hx).2
 unfold flat; omega
theorem places13 (h : Env gp) {g : Gr} (hg : Tdy g) : Does QP gp 56 [g.v,.one (.d (.sl (ints (ancL g))))] (vi (placeL g)) := by
 have c2 := uses_g h hg
 have hul := usesL_len g
 have hlen := hg.good.len
 refine f56_in ?_
 simp only [go_sem]
 repeat' (first | refine Kn rfl ?_ | ((first | refine Ka ?_ | refine Kb ?_ | refine Kc ?_ | refine Kd ?_ | refine Ke ?_); simp only [go_sem]) | refine Kf ?_ | refine Kg ?_ | refine ⟨_,c2,Kg ?_⟩ | refine ⟨_,⟨c2,rfl⟩,Kg ?_⟩ | (refine Kp (fun _ => ?_) (fun _ => ?_) <;> try (exfalso; omega)))
 show G _ _ ⟨_,_⟩
 refine Kj (fr 32 [(1,.one (.d (.sl (ints (ancL g))))),(7,vi (sumN (fun i => if 0 < anc g i then 1 else (((0 :: flat g).count (i : Int) : Nat) : Int)) 0)),(15,.one (.d (.sl (ints (usesL g))))),(16,vi (usesL g).length),(17,vi ((0 : Nat) : Int))]) (by simp only [sumN,go_sem]; repeat' (first | refine Kp ?_ ?_ | exact Or.inl rfl | exact Or.inr rfl | rfl)) ?_
 refine Kj (fr 32 [(1,.one (.d (.sl (ints (ancL g))))),(7,vi (sumN (fun i => if 0 < anc g i then 1 else (((0 :: flat g).count (i : Int) : Nat) : Int)) (0 : Nat))),(15,.one (.d (.sl (ints (usesL g))))),(16,vi (usesL g).length),(17,vi (0 : Nat))]) (by (simp only [go_sem]; repeat' (first | refine Kp ?_ ?_ | exact Or.inl rfl | exact Or.inr rfl | rfl))) ?_
 refine Km (fun mz sz => ∃ j : Nat,j <= (usesL g).length /\ mz = (usesL g).length - j /\ (0 <= j) /\ sz = ⟨fr 32 [(1,.one (.d (.sl (ints (ancL g))))),(7,vi (sumN (fun i => if 0 < anc g i then 1 else (((0 :: flat g).count (i : Int) : Nat) : Int)) j)),(15,.one (.d (.sl (ints (usesL g))))),(16,vi (usesL g).length),(17,vi j)],[]⟩) ((usesL g).length) ⟨0,Nat.zero_le _,(Nat.sub_zero _).symm,?_,rfl⟩ ?_
 ·exact Nat.zero_le _
 rintro _ _ ⟨j,hj,rfl,-,rfl⟩
 simp only [go_sem]
 by_cases hjl : j < (usesL g).length
 ·have hjg : j < g.l.length := by omega
  have hu := usesL_at hjg
  have han := anc_get hjg
  have hik : inK .i64 ((j : Int) + 1) := by simp [inK,IntKind.min,IntKind.max,IntKind.signed,IntKind.bits]; omega
  have hs := plc_small hg (flat_small13 hg) (j + 1) (by omega)
  have hsu : sumN (fun i => if 0 < anc g i then 1 else (((0 :: flat g).count (i : Int) : Nat) : Int)) (j + 1) = sumN (fun i => if 0 < anc g i then 1 else (((0 :: flat g).count (i : Int) : Nat) : Int)) j + (if 0 < anc g j then 1 else (((0 :: flat g).count (j : Int) : Nat) : Int)) := rfl
  by_cases ha : 0 < anc g j
  case' pos =>
   have e1 : decide (anc g j > 0) = true := by simp; omega
   rw [if_pos ha] at hsu
   have hi2 : inK .i64 (sumN (fun i => if 0 < anc g i then 1 else (((0 :: flat g).count (i : Int) : Nat) : Int)) j + 1) := by rw [<- hsu]; simp [inK,IntKind.min,IntKind.max,IntKind.signed,IntKind.bits]; omega
   repeat' (first | refine Kn rfl ?_ | ((first | refine Ka ?_ | refine Kb ?_ | refine Kc ?_ | refine Kd ?_ | refine Ke ?_); simp only [e1,go_sem]) | refine Kf ?_ | refine Kg ?_ | refine ⟨_,⟨Kq _,(by first | exact map_at hu | (rw [Int.toNat_natCast]; exact map_at hu)),rfl⟩,Kg ?_⟩ | refine ⟨_,⟨Kq _,(by first | exact map_at han | (rw [Int.toNat_natCast]; exact map_at han)),rfl⟩,Kg ?_⟩ | refine ⟨hik,?_⟩ | refine ⟨hi2,?_⟩ | (refine Kp (fun _ => ?_) (fun _ => ?_) <;> try (exfalso; omega)))
  case' neg =>
   have e1 : decide (anc g j > 0) = false := by simp; omega
   rw [if_neg ha] at hsu
   have hi2 : inK .i64 (sumN (fun i => if 0 < anc g i then 1 else (((0 :: flat g).count (i : Int) : Nat) : Int)) j + (((0 :: flat g).count (j : Int) : Nat) : Int)) := by rw [<- hsu]; simp [inK,IntKind.min,IntKind.max,IntKind.signed,IntKind.bits]; omega
   repeat' (first | refine Kn rfl ?_ | ((first | refine Ka ?_ | refine Kb ?_ | refine Kc ?_ | refine Kd ?_ | refine Ke ?_); simp only [e1,go_sem]) | refine Kf ?_ | refine Kg ?_ | refine ⟨_,⟨Kq _,(by first | exact map_at hu | (rw [Int.toNat_natCast]; exact map_at hu)),rfl⟩,Kg ?_⟩ | refine ⟨_,⟨Kq _,(by first | exact map_at han | (rw [Int.toNat_natCast]; exact map_at han)),rfl⟩,Kg ?_⟩ | refine ⟨hik,?_⟩ | refine ⟨hi2,?_⟩ | (refine Kp (fun _ => ?_) (fun _ => ?_) <;> try (exfalso; omega)))
  all_goals
   rw [<- hsu]
   refine Kj (fr 32 [(1,.one (.d (.sl (ints (ancL g))))),(7,vi (sumN (fun i => if 0 < anc g i then 1 else (((0 :: flat g).count (i : Int) : Nat) : Int)) (j + 1))),(15,.one (.d (.sl (ints (usesL g))))),(16,vi (usesL g).length),(17,vi (j + 1))]) (by (simp only [go_sem]; repeat' (first | refine Kp ?_ ?_ | exact Or.inl rfl | exact Or.inr rfl | rfl))) ?_
   refine Kl ⟨(usesL g).length - (j + 1),by omega,j + 1,by omega,rfl,?_,rfl⟩
   exact Nat.zero_le _
 ·obtain rfl : (usesL g).length = j := by omega
  repeat' (first | refine Kn rfl ?_ | ((first | refine Ka ?_ | refine Kb ?_ | refine Kc ?_ | refine Kd ?_ | refine Ke ?_); simp only [go_sem]) | refine Kf ?_ | refine Kg ?_ | (refine Kp (fun _ => ?_) (fun _ => ?_) <;> try (exfalso; omega)) | ((first | refine Kh ?_ | refine Ki rfl ?_); simp only [or_self,Qs,Qt,Qu,Qv,Qw,Qx,Qy,Qz,Za,go_sem]))
  unfold placeL; rw [hul]
theorem getC_end (E : List Ch) (c : Ch) : getC (E ++ [c]) E.length = c := by
 induction E with
 | nil => rfl
 | cons e E ih => simpa [getC] using ih
theorem setC_end (E : List Ch) (c d : Ch) : setC (E ++ [c]) E.length d = E ++ [d] := by
 induction E with
 | nil => rfl
 | cons e E ih => simp [setC,ih]
theorem G_cutL {S : Sx} {m : MI} {l K : List MI} {s : St} (hl : l = K) (h : ∀ K',K' = K -> G S (m :: K') s) : G S (m :: l) s := h l hl
theorem lines_c (g : Gr) : Tri QP gp 57 [.one (.ptr 0 0)] [prC g (ancL g),.map (metM [])] fun r post => r = .one (.clo (.func 82) [.ptr 2 0]) /\ post = [prC g (ancL g),.map (metM []),.cells [.ptr 0 0]] := by
 refine f57_tri ?_
 simp only [go_sem]
 repeat' (first | refine Kn rfl ?_ | ((first | refine Ka ?_ | refine Kb ?_ | refine Kc ?_ | refine Kd ?_ | refine Ke ?_); simp only [go_sem]) | refine Kf ?_ | refine Kg ?_ | (refine Kp (fun _ => ?_) (fun _ => ?_) <;> try (exfalso; omega)) | ((first | refine Kh ?_ | refine Ki rfl ?_); simp only [or_self,Qs,Qt,Qu,Qv,Qw,Qx,Qy,Qz,Za,go_sem]))
 all_goals trace_state
abbrev lpE (l : Nat) (rc : Loop) (T : List (List UInt8)) : Ch := .lp l frP rc (if sizeL T > 8000 then .done else .ready) (if sizeL T > 8000 then some (.exit 0) else none)
def EndR (g : Gr) (l : Nat) (rc : Loop) (T : List (List UInt8)) (post : List Ch) : Prop := ∃ m rest,post = stC m g T (lpE l rc T) rest
set_option maxHeartbeats 4000000 in
theorem lines1_c (h : Env13 gp) {g : Gr} (hg : Tdy g) (hst : ∀ x ∈ g.l,x.short) {l : Nat} {rc : Loop} (hR : RoundsOK gp g l rc) {t : Tr} {met : List Int} (hem : EmW g 1 [0] [] [t] met) :
  Tri QP gp 82 [yV l,.one (.ptr 5 0)] (stC (mpC []) g [] (lpR l rc) []) fun _ post => EndR g l rc (stopL [] (topL t)) post := by
 generalize h00 : (0 : Int) = z at hem
 generalize htt : [t] = ts at hem
 generalize hzz : [z] = zs at hem
 cases hem with
 | nil => cases htt
 | ref hy hk hm ha hrest => cases hm
 | @leaf _ i y _ _ _ _ hy hyk hrest =>
  obtain ⟨rfl,_⟩ := List.cons.inj hzz
  obtain ⟨rfl,_⟩ := List.cons.inj htt
  obtain rfl : i = 0 := by omega
  have hw : topL (.mk y.k ⟨#[]⟩ y.x y.keys []) = [bareN y] := by unfold topL; rw [if_pos (show (Tr.mk y.k ⟨#[]⟩ y.x y.keys []).kids = [] from rfl)]
  rw [hw]
  have hwl := bare_short hg hst hy
  have c3 : Tri QP gp 83 [.one (.ptr 0 0),vi 0] [prC g (ancL g),.map (metM [])] _ := stands_leaf h hg hst (ancL g) [] hy hyk
  generalize bareN y = w at *
  have c5 : Does QP gp 84 [vi 0,vi (-1),.one (.d (.sl [[.str (bT w)]]))] (itV w 0 (-1)) := by
   have := line13 (gp := gp) 0 (by omega) (-1) [bT w] (by simp) (by simp [bT]; omega) (by simp)
   have e : (blk13 0 ++ [bT w].flatMap fun s => s.data.toList) = w := by simp [bT,blk13]
   rw [e] at this
   exact this
  have hr := fun (S : Sx) h1 h2 E => hR S h1 h2 (mpC []) E [] w 0 (-1) (metM_refs []) (by simp [sizeL]) (by omega)
  have hT : stopL [] [w] = [w] := by simp only [stopL]; split <;> rfl
  rw [hT]
  refine f82_tri ?_
  simp only [go_sem]
  repeat' (first | refine Kn rfl ?_ | ((first | refine Ka ?_ | refine Kb ?_ | refine Kc ?_ | refine Kd ?_ | refine Ke ?_); simp only [go_sem]) | refine Kf ?_ | refine Kg ?_ | (refine Kp (fun _ => ?_) (fun _ => ?_) <;> try (exfalso; omega)))
  refine Or.inr (Or.inr ⟨[1,0],.one (.d (wordD (bT w))),[prC g (ancL g),.map (metM [])],(by simp only [CallR,rnVs,rnV,rnA,rnAs,rn0,rn0s,posN,rnCs,rnC,getC,List.isEmpty_nil,metM_refs,reduceCtorEq,↓reduceIte,Qa,Qb,Qc,Qd,Qe,Qf,Qg,Qh,Qi,Qj,Qk,Ql,Qm,Qn,Qo,Qp,Qq,Qr]; simp only [go_sem]; exact ⟨f83_ok,c3⟩),Kg ?_⟩)
  simp only [bkO,bkC,metM_refs]
  simp only [go_sem]
  repeat' (first | refine Kn rfl ?_ | ((first | refine Ka ?_ | refine Kb ?_ | refine Kc ?_ | refine Kd ?_ | refine Ke ?_); simp only [go_sem]) | refine Kf ?_ | refine Kg ?_ | refine ⟨_,c5,Kg ?_⟩ | refine ⟨_,⟨c5,rfl⟩,Kg ?_⟩ | (refine Kp (fun _ => ?_) (fun _ => ?_) <;> try (exfalso; omega)))
  refine ⟨_,_,?_,hr _ rfl rfl _,Kg ?_⟩
  ·simp
  simp only [go_sem]
  repeat' (first | refine Kn rfl ?_ | ((first | refine Ka ?_ | refine Kb ?_ | refine Kc ?_ | refine Kd ?_ | refine Ke ?_); simp only [go_sem]) | refine Kf ?_ | refine Kg ?_ | (refine Kp (fun _ => ?_) (fun _ => ?_) <;> try (exfalso; omega)) | ((first | refine Kh ?_ | refine Ki rfl ?_); simp only [or_self,Qs,Qt,Qu,Qv,Qw,Qx,Qy,Qz,Za,go_sem]))
  exact ⟨_,_,rfl⟩
 | @node _ i y _ _ met1 _ q1 _ hy hyk hm hdd hem1 hrest =>
  obtain ⟨rfl,_⟩ := List.cons.inj hzz
  obtain ⟨rfl,_⟩ := List.cons.inj htt
  obtain rfl : i = 0 := by omega
  have hq1 : q1 ≠ [] := fun e => hyk (List.eq_nil_of_length_eq_zero (by rw [<- hem1.len,e]; rfl))
  have hw : topL (.mk y.k (aName (anc g 0)) y.x y.keys q1) = (if aName (anc g 0) = ⟨#[]⟩ then [] else [38 :: (aName (anc g 0)).data.toList]) ++ lnK 0 (heads13 y.k y.keys y.kids.length) q1 := by
   unfold topL; rw [if_neg (show ¬ (Tr.mk y.k (aName (anc g 0)) y.x y.keys q1).kids = [] from hq1),<- hem1.len]; rfl
  rw [hw]
  have hi' := (Kr.1 hy).1
  have hnl := aName_short (anc g 0) (stands_nm h hg hi')
  have c3 : Tri QP gp 83 [.one (.ptr 0 0),vi 0] [prC g (ancL g),.map (metM [])] (fun r post => r = .one (.d (openD 0 (aName (anc g 0)))) /\ post = [prC g (ancL g),.map (metM [0])]) := stands_open h hg [] hy hyk hm
  have hit := fun out ho => items_c h hg hst hR _ (d := 2) (i := 0) (x := y) (met := [0]) (met' := met1) (q := q1) (out := out) (Nat.le_refl _) hy hyk hem1 (by omega) (by omega) ho
  have hit : ∀ out,sizeL out <= 8000 -> Tri QP gp 85 [.one (.ptr 1 0),yV l,vi 0,vi 0] (stC (mpC [0]) g out (lpR l rc) []) (ItR g l rc met1 out (lnK 0 (heads13 y.k y.keys y.kids.length) q1)) := hit
  generalize lnK 0 (heads13 y.k y.keys y.kids.length) q1 = L at *
  have hcalls : ∀ out,sizeL out <= 8000 -> ∃ b m,Tri QP gp 85 [.one (.ptr 1 0),yV l,vi 0,vi 0] (stC (mpC [0]) g out (lpR l rc) []) (fun r post => r = vb b /\ post = stC m g (stopL out L) (lpE l rc (stopL out L)) []) /\ ∀ n,bkC n [0,1,2,3,4,5,6] m = m := fun out ho => by
   by_cases hf : sizeL (out ++ L) <= 8000
   ·have e : stopL out L = out ++ L := by have := stopL_app out L [] hf; rw [List.append_nil] at this; rw [this]; rfl
    refine ⟨true,mpC met1,?_,fun n => by simp only [bkC,metM_refs]; rfl⟩
    rw [e]
    unfold lpE
    rw [if_neg (by omega),if_neg (by omega)]
    exact tri_imp (hit out ho) fun r c hr => hr.1 hf
   ·have e := stopL_big L out (by omega)
    refine ⟨false,.dead,?_,fun n => rfl⟩
    unfold lpE
    rw [if_pos (by omega),if_pos (by omega)]
    exact tri_imp (hit out ho) fun r c hr => hr.2 (by omega)
  by_cases hn : aName (anc g 0) = ⟨#[]⟩
  ·have hd1 : decide (aName (anc g 0) = ⟨#[]⟩) = true := by simp [hn]
   rw [if_pos hn,List.nil_append]
   obtain ⟨b,m,hc,hm2⟩ := hcalls [] (by simp [sizeL])
   refine f82_tri ?_
   simp only [go_sem]
   repeat' (first | refine Kn rfl ?_ | ((first | refine Ka ?_ | refine Kb ?_ | refine Kc ?_ | refine Kd ?_ | refine Ke ?_); simp only [go_sem]) | refine Kf ?_ | refine Kg ?_ | (refine Kp (fun _ => ?_) (fun _ => ?_) <;> try (exfalso; omega)))
   refine Or.inr (Or.inr ⟨[1,0],.one (.d (openD 0 (aName (anc g 0)))),[prC g (ancL g),.map (metM [0])],(by simp only [CallR,rnVs,rnV,rnA,rnAs,rn0,rn0s,posN,rnCs,rnC,getC,List.isEmpty_nil,metM_refs,reduceCtorEq,↓reduceIte,Qa,Qb,Qc,Qd,Qe,Qf,Qg,Qh,Qi,Qj,Qk,Ql,Qm,Qn,Qo,Qp,Qq,Qr]; simp only [go_sem]; exact ⟨f83_ok,c3⟩),Kg ?_⟩)
   simp only [bkO,bkC,metM_refs]
   simp only [go_sem]
   repeat' (first | refine Kn rfl ?_ | ((first | refine Ka ?_ | refine Kb ?_ | refine Kc ?_ | refine Kd ?_ | refine Ke ?_); simp only [hd1,go_sem]) | refine Kf ?_ | refine Kg ?_ | (refine Kp (fun _ => ?_) (fun _ => ?_) <;> try (exfalso; omega)))
   refine Or.inr (Or.inr ⟨[0,1,2,3,4,5,6],vb b,stC m g (stopL [] L) (lpE l rc (stopL [] L)) [],(by simp only [CallR,rnVs,rnV,rnA,rnAs,rn0,rn0s,posN,rnCs,rnC,getC,List.isEmpty_nil,metM_refs,frP_rn,reduceCtorEq,↓reduceIte,Qa,Qb,Qc,Qd,Qe,Qf,Qg,Qh,Qi,Qj,Qk,Ql,Qm,Qn,Qo,Qp,Qq,Qr]; simp only [go_sem]; exact ⟨f85_ok,hc⟩),Kg ?_⟩)
   simp only [bkO,hm2,bkC,metM_refs,frP_bk]
   simp only [go_sem]
   repeat' (first | refine Kn rfl ?_ | ((first | refine Ka ?_ | refine Kb ?_ | refine Kc ?_ | refine Kd ?_ | refine Ke ?_); simp only [go_sem]) | refine Kf ?_ | refine Kg ?_ | (refine Kp (fun _ => ?_) (fun _ => ?_) <;> try (exfalso; omega)) | ((first | refine Kh ?_ | refine Ki rfl ?_); simp only [or_self,Qs,Qt,Qu,Qv,Qw,Qx,Qy,Qz,Za,go_sem]))
   exact ⟨_,_,rfl⟩
  ·have hd1 : decide (aName (anc g 0) = ⟨#[]⟩) = false := by simp [hn]
   rw [if_neg hn]
   have c5 : Does QP gp 84 [vi 0,vi 0,.one (.d (.sl [[.str (bT (38 :: (aName (anc g 0)).data.toList))]]))] (itV (38 :: (aName (anc g 0)).data.toList) 0 0) := by
    have := line13 (gp := gp) 0 (by omega) 0 [bT (38 :: (aName (anc g 0)).data.toList)] (by simp) (by simp [bT] at hnl ⊢; omega) (by simp)
    have e : (blk13 0 ++ [bT (38 :: (aName (anc g 0)).data.toList)].flatMap fun s => s.data.toList) = 38 :: (aName (anc g 0)).data.toList := by simp [bT,blk13]
    rw [e] at this
    exact this
   have hsz : ((#[(38 : UInt8)].size + (aName (anc g 0)).size : Nat) : Int) <= 9223372036854775807 := by
    have : (aName (anc g 0)).size = (aName (anc g 0)).data.toList.length := by simp
    rw [this]; simp only [List.size_toArray,List.length_cons,List.length_nil]; omega
   have e2 : (⟨#[38]⟩ : ByteArray) ++ aName (anc g 0) = bT (38 :: (aName (anc g 0)).data.toList) := bT_cat [38] _
   have hsl : (38 :: (aName (anc g 0)).data.toList).length <= 100 := by simp only [List.length_cons]; omega
   generalize hs1 : 38 :: (aName (anc g 0)).data.toList = s1 at *
   have hsm : sizeL [s1] <= 8000 := by simp only [sizeL,List.map_cons,List.map_nil,List.sum_cons,List.sum_nil]; omega
   obtain ⟨b,m,hc,hm2⟩ := hcalls [s1] hsm
   have hT : stopL [] ([s1] ++ L) = stopL [s1] L := by
    show (if sizeL ([] ++ [s1]) > 8000 then _ else _) = _
    rw [if_neg (by rw [List.nil_append]; omega)]; rfl
   rw [hT]
   have hb1 : decide (sizeL [s1] <= 8000) = true := decide_eq_true hsm
   have hb2 : ¬ sizeL [s1] > 8000 := by omega
   have hr := fun (S : Sx) h1 h2 E => hR S h1 h2 (mpC [0]) E [] s1 0 0 (metM_refs [0]) (by simp [sizeL]) (by omega)
   simp only [List.nil_append,hb1,if_neg hb2] at hr
   refine f82_tri ?_
   simp only [go_sem]
   repeat' (first | refine Kn rfl ?_ | ((first | refine Ka ?_ | refine Kb ?_ | refine Kc ?_ | refine Kd ?_ | refine Ke ?_); simp only [go_sem]) | refine Kf ?_ | refine Kg ?_ | (refine Kp (fun _ => ?_) (fun _ => ?_) <;> try (exfalso; omega)))
   refine Or.inr (Or.inr ⟨[1,0],.one (.d (openD 0 (aName (anc g 0)))),[prC g (ancL g),.map (metM [0])],(by simp only [CallR,rnVs,rnV,rnA,rnAs,rn0,rn0s,posN,rnCs,rnC,getC,List.isEmpty_nil,metM_refs,reduceCtorEq,↓reduceIte,Qa,Qb,Qc,Qd,Qe,Qf,Qg,Qh,Qi,Qj,Qk,Ql,Qm,Qn,Qo,Qp,Qq,Qr]; simp only [go_sem]; exact ⟨f83_ok,c3⟩),Kg ?_⟩)
   simp only [bkO,bkC,metM_refs]
   simp only [go_sem]
   repeat' (first | refine Kn rfl ?_ | ((first | refine Ka ?_ | refine Kb ?_ | refine Kc ?_ | refine Kd ?_ | refine Ke ?_); simp only [hd1,e2,go_sem]) | refine Kf ?_ | refine Kg ?_ | refine ⟨_,c5,Kg ?_⟩ | refine ⟨_,⟨c5,rfl⟩,Kg ?_⟩ | refine ⟨hsz,?_⟩ | (refine Kp (fun _ => ?_) (fun _ => ?_) <;> try (exfalso; omega)))
   refine ⟨_,_,?_,hr _ rfl rfl _,Kg ?_⟩
   ·simp
   simp only [go_sem]
   repeat' (first | refine Kn rfl ?_ | ((first | refine Ka ?_ | refine Kb ?_ | refine Kc ?_ | refine Kd ?_ | refine Ke ?_); simp only [go_sem]) | refine Kf ?_ | refine Kg ?_ | (refine Kp (fun _ => ?_) (fun _ => ?_) <;> try (exfalso; omega)))
   refine Or.inr (Or.inr ⟨[0,1,2,3,4,5,6],vb b,stC m g (stopL [s1] L) (lpE l rc (stopL [s1] L)) [],(by simp only [CallR,rnVs,rnV,rnA,rnAs,rn0,rn0s,posN,rnCs,rnC,getC,List.isEmpty_nil,metM_refs,frP_rn,reduceCtorEq,↓reduceIte,Qa,Qb,Qc,Qd,Qe,Qf,Qg,Qh,Qi,Qj,Qk,Ql,Qm,Qn,Qo,Qp,Qq,Qr]; simp only [go_sem]; exact ⟨f85_ok,hc⟩),Kg ?_⟩)
   simp only [bkO,hm2,bkC,metM_refs,frP_bk]
   simp only [go_sem]
   repeat' (first | refine Kn rfl ?_ | ((first | refine Ka ?_ | refine Kb ?_ | refine Kc ?_ | refine Kd ?_ | refine Ke ?_); simp only [go_sem]) | refine Kf ?_ | refine Kg ?_ | (refine Kp (fun _ => ?_) (fun _ => ?_) <;> try (exfalso; omega)) | ((first | refine Kh ?_ | refine Ki rfl ?_); simp only [or_self,Qs,Qt,Qu,Qv,Qw,Qx,Qy,Qz,Za,go_sem]))
   exact ⟨_,_,rfl⟩
theorem printed_w (h : Env13 gp) {g : Gr} (hg : Tdy g) (hst : ∀ x ∈ g.l,x.short) (hd : deepQ g) (hp : ¬ placeL g > 200) {t : Tr} {met : List Int} (hem : EmW g 1 [0] [] [t] met) :
  Does QP gp 26 [g.v] (.tup [.one (.d (.sl (strD (if sizeL (topL t) > 8000 then [] else topL t)))),vi (if sizeL (topL t) > 8000 then 20 else 0)]) := by
 have c1 := tidy_is h.e g hg.good.s
 rw [decide_eq_true ⟨hg.good.c,hg.self⟩] at c1
 have c2 := deep_c (b := false) h.e hg (by simp [hd])
 have c3 := anchors_g h.e hg
 have c4 := places13 h.e hg
 have e1 : decide (placeL g > 200) = false := decide_eq_false hp
 refine f26_in ?_
 simp only [go_sem]
 refine Kn rfl ?_
 refine G_cutL rfl fun K hK => ?_
 repeat' (first | refine Kn rfl ?_ | ((first | refine Ka ?_ | refine Kb ?_ | refine Kc ?_ | refine Kd ?_ | refine Ke ?_); simp only [e1,go_sem]) | refine Kf ?_ | refine Kg ?_ | refine ⟨_,c1,Kg ?_⟩ | refine ⟨_,⟨c1,rfl⟩,Kg ?_⟩ | refine ⟨_,c2,Kg ?_⟩ | refine ⟨_,⟨c2,rfl⟩,Kg ?_⟩ | refine ⟨_,c3,Kg ?_⟩ | refine ⟨_,⟨c3,rfl⟩,Kg ?_⟩ | refine ⟨_,c4,Kg ?_⟩ | refine ⟨_,⟨c4,rfl⟩,Kg ?_⟩ | (refine Kp (fun _ => ?_) (fun _ => ?_) <;> try (exfalso; omega)))
 subst hK
 refine Kn rfl ?_
 refine Kn rfl ?_
 refine G_cutL rfl fun K hK => ?_
 repeat' (first | refine Kn rfl ?_ | ((first | refine Ka ?_ | refine Kb ?_ | refine Kc ?_ | refine Kd ?_ | refine Ke ?_); simp only [e1,go_sem]) | refine Kf ?_ | refine Kg ?_ | refine ⟨_,c1,Kg ?_⟩ | refine ⟨_,⟨c1,rfl⟩,Kg ?_⟩ | refine ⟨_,c2,Kg ?_⟩ | refine ⟨_,⟨c2,rfl⟩,Kg ?_⟩ | refine ⟨_,c3,Kg ?_⟩ | refine ⟨_,⟨c3,rfl⟩,Kg ?_⟩ | refine ⟨_,c4,Kg ?_⟩ | refine ⟨_,⟨c4,rfl⟩,Kg ?_⟩ | (refine Kp (fun _ => ?_) (fun _ => ?_) <;> try (exfalso; omega)))
 subst hK
 refine Kn rfl ?_
 refine G_cutL rfl fun K hK => ?_
 repeat' (first | refine Kn rfl ?_ | ((first | refine Ka ?_ | refine Kb ?_ | refine Kc ?_ | refine Kd ?_ | refine Ke ?_); simp only [e1,go_sem]) | refine Kf ?_ | refine Kg ?_ | refine ⟨_,c1,Kg ?_⟩ | refine ⟨_,⟨c1,rfl⟩,Kg ?_⟩ | refine ⟨_,c2,Kg ?_⟩ | refine ⟨_,⟨c2,rfl⟩,Kg ?_⟩ | refine ⟨_,c3,Kg ?_⟩ | refine ⟨_,⟨c3,rfl⟩,Kg ?_⟩ | refine ⟨_,c4,Kg ?_⟩ | refine ⟨_,⟨c4,rfl⟩,Kg ?_⟩ | (refine Kp (fun _ => ?_) (fun _ => ?_) <;> try (exfalso; omega)))
 subst hK
 refine Kn rfl ?_
 refine G_cutL rfl fun K hK => ?_
 repeat' (first | refine Kn rfl ?_ | ((first | refine Ka ?_ | refine Kb ?_ | refine Kc ?_ | refine Kd ?_ | refine Ke ?_); simp only [e1,go_sem]) | refine Kf ?_ | refine Kg ?_ | refine ⟨_,c1,Kg ?_⟩ | refine ⟨_,⟨c1,rfl⟩,Kg ?_⟩ | refine ⟨_,c2,Kg ?_⟩ | refine ⟨_,⟨c2,rfl⟩,Kg ?_⟩ | refine ⟨_,c3,Kg ?_⟩ | refine ⟨_,⟨c3,rfl⟩,Kg ?_⟩ | refine ⟨_,c4,Kg ?_⟩ | refine ⟨_,⟨c4,rfl⟩,Kg ?_⟩ | (refine Kp (fun _ => ?_) (fun _ => ?_) <;> try (exfalso; omega)))
 subst hK
 refine Kn rfl ?_
 refine G_cutL rfl fun K hK => ?_
 repeat' (first | refine Kn rfl ?_ | ((first | refine Ka ?_ | refine Kb ?_ | refine Kc ?_ | refine Kd ?_ | refine Ke ?_); simp only [e1,go_sem]) | refine Kf ?_ | refine Kg ?_ | refine ⟨_,c1,Kg ?_⟩ | refine ⟨_,⟨c1,rfl⟩,Kg ?_⟩ | refine ⟨_,c2,Kg ?_⟩ | refine ⟨_,⟨c2,rfl⟩,Kg ?_⟩ | refine ⟨_,c3,Kg ?_⟩ | refine ⟨_,⟨c3,rfl⟩,Kg ?_⟩ | refine ⟨_,c4,Kg ?_⟩ | refine ⟨_,⟨c4,rfl⟩,Kg ?_⟩ | (refine Kp (fun _ => ?_) (fun _ => ?_) <;> try (exfalso; omega)))
 subst hK
 refine Kn rfl ?_
 refine G_cutL rfl fun K hK => ?_
 repeat' (first | refine Kn rfl ?_ | ((first | refine Ka ?_ | refine Kb ?_ | refine Kc ?_ | refine Kd ?_ | refine Ke ?_); simp only [e1,go_sem]) | refine Kf ?_ | refine Kg ?_ | refine ⟨_,c1,Kg ?_⟩ | refine ⟨_,⟨c1,rfl⟩,Kg ?_⟩ | refine ⟨_,c2,Kg ?_⟩ | refine ⟨_,⟨c2,rfl⟩,Kg ?_⟩ | refine ⟨_,c3,Kg ?_⟩ | refine ⟨_,⟨c3,rfl⟩,Kg ?_⟩ | refine ⟨_,c4,Kg ?_⟩ | refine ⟨_,⟨c4,rfl⟩,Kg ?_⟩ | (refine Kp (fun _ => ?_) (fun _ => ?_) <;> try (exfalso; omega)))
 subst hK
 refine Kn rfl ?_
 refine G_cutL rfl fun K hK => ?_
 repeat' (first | refine Kn rfl ?_ | ((first | refine Ka ?_ | refine Kb ?_ | refine Kc ?_ | refine Kd ?_ | refine Ke ?_); simp only [e1,go_sem]) | refine Kf ?_ | refine Kg ?_ | refine ⟨_,c1,Kg ?_⟩ | refine ⟨_,⟨c1,rfl⟩,Kg ?_⟩ | refine ⟨_,c2,Kg ?_⟩ | refine ⟨_,⟨c2,rfl⟩,Kg ?_⟩ | refine ⟨_,c3,Kg ?_⟩ | refine ⟨_,⟨c3,rfl⟩,Kg ?_⟩ | refine ⟨_,c4,Kg ?_⟩ | refine ⟨_,⟨c4,rfl⟩,Kg ?_⟩ | (refine Kp (fun _ => ?_) (fun _ => ?_) <;> try (exfalso; omega)))
 subst hK
 refine Kn rfl ?_
 refine G_cutL rfl fun K hK => ?_
 repeat' (first | refine Kn rfl ?_ | ((first | refine Ka ?_ | refine Kb ?_ | refine Kc ?_ | refine Kd ?_ | refine Ke ?_); simp only [e1,go_sem]) | refine Kf ?_ | refine Kg ?_ | refine ⟨_,c1,Kg ?_⟩ | refine ⟨_,⟨c1,rfl⟩,Kg ?_⟩ | refine ⟨_,c2,Kg ?_⟩ | refine ⟨_,⟨c2,rfl⟩,Kg ?_⟩ | refine ⟨_,c3,Kg ?_⟩ | refine ⟨_,⟨c3,rfl⟩,Kg ?_⟩ | refine ⟨_,c4,Kg ?_⟩ | refine ⟨_,⟨c4,rfl⟩,Kg ?_⟩ | (refine Kp (fun _ => ?_) (fun _ => ?_) <;> try (exfalso; omega)))
 subst hK
 refine G_row0c 2 0 1 (by decide) rfl rfl ?_
 simp only [go_sem]
 repeat' (first | refine Kn rfl ?_ | ((first | refine Ka ?_ | refine Kb ?_ | refine Kc ?_ | refine Kd ?_ | refine Ke ?_); simp only [go_sem]) | refine Kf ?_ | refine Kg ?_ | (refine Kp (fun _ => ?_) (fun _ => ?_) <;> try (exfalso; omega)))
 refine Or.inr (Or.inr ⟨[1,0],.one (.clo (.func 82) [.ptr 2 0]),[prC g (ancL g),.map (metM []),.cells [.ptr 0 0]],(by simp only [CallR,rnVs,rnV,rnA,rnAs,rn0,rn0s,posN,rnCs,rnC,getC,List.isEmpty_nil,metM_refs,reduceCtorEq,↓reduceIte,Qa,Qb,Qc,Qd,Qe,Qf,Qg,Qh,Qi,Qj,Qk,Ql,Qm,Qn,Qo,Qp,Qq,Qr]; simp only [go_sem]; exact ⟨f57_ok,lines_c g⟩),Kg ?_⟩)
 simp only [bkO,bkC,metM_refs]
 simp only [go_sem]
 repeat' (first | refine Kn rfl ?_ | ((first | refine Ka ?_ | refine Kb ?_ | refine Kc ?_ | refine Kd ?_ | refine Ke ?_); simp only [go_sem]) | refine Kf ?_ | refine Kg ?_ | (refine Kp (fun _ => ?_) (fun _ => ?_) <;> try (exfalso; omega)))
 have hst0 : stopL [] (topL t) = if sizeL (topL t) > 8000 then stopL [] (topL t) else topL t := by
  by_cases hf : sizeL (topL t) > 8000
  ·rw [if_pos hf]
  ·rw [if_neg hf]
   have := stopL_app [] (topL t) [] (by rw [List.nil_append]; omega)
   rw [List.append_nil] at this; rw [this]; rfl
 have hst1 : sizeL (stopL [] (topL t)) > 8000 ↔ sizeL (topL t) > 8000 := by
  by_cases hf : sizeL (topL t) > 8000
  ·exact ⟨fun _ => hf,fun _ => stopL_big _ _ (by rw [List.nil_append]; exact hf)⟩
  ·rw [hst0,if_neg hf]
 refine Kj (fr 48 [(7,.one (.ptr 2 0)),(8,.one (.ptr 3 0)),(30,.one (.clo (.func 82) [.ptr 5 0]))]) (by (simp only [go_sem]; repeat' (first | refine Kp ?_ ?_ | exact Or.inl rfl | exact Or.inr rfl | rfl))) ?_
 refine Kk 6 (by simp only [List.length_nil,List.length_cons]; decide) (by simp only [go_sem]) (by simp only [List.take_succ_cons,List.take_zero,List.all_cons,List.all_nil,metM_refs]; simp only [go_sem]) ?_
 simp only [go_sem]
 refine G_rf (f2 := 82) (caps := [.one (.ptr 5 0)]) (fun pd own' => pd = (if sizeL (topL t) > 8000 then some (.exit 0) else none) /\ ∃ m rest,own' = m :: pbC g :: .cells [.own 4 (stopL [] (topL t)).length] :: .cells [.d (.int .i64 (sizeL (stopL [] (topL t))))] :: .row 1 (stopL [] (topL t)).length (strD (stopL [] (topL t))) :: rest) rfl ?_ f82_ok ?_ ?_ ?_
 ·intro y; simp only [go_sem]
 ·rintro b rc hps ⟨hs,hta,htb⟩
  have hR : RoundsOK gp g b rc := by
   rintro ⟨P0,gp0,np0,rs0,R0,rd0⟩ hP hgp m E out s n of hm hsz hsl
   dsimp only at hP hgp
   subst hP hgp
   refine ⟨6,frP,rc,hs,_,_,stC m g (out ++ [s]) .dead (E ++ [.cells (itA s n of)]),(if sizeL (out ++ [s]) > 8000 then some (.exit 0) else none),rfl,by rw [<- Array.length_toList,hps]; rfl,hta,htb,?_,rfl,?_⟩
   ·rw [hps]
    unfold frP
    simp only [getC_end,setC_end,go_sem]
    repeat' (first | refine Kn rfl ?_ | ((first | refine Ka ?_ | refine Kb ?_ | refine Kc ?_ | refine Kd ?_ | refine Ke ?_); simp only [getC_end,setC_end,go_sem]) | refine Kf ?_ | refine Kg ?_ | (refine Kp (fun _ => ?_) (fun _ => ?_) <;> try (exfalso; omega)))
    refine G_rnd ⟨rfl,?_⟩
    have hbs : (bT s).size = s.length := bT_size s
    have hge := sizeL_ge out
    have hk1 : inK .i64 (((bT s).size : Int) + 1) := by rw [hbs]; simp [inK,IntKind.min,IntKind.max,IntKind.signed,IntKind.bits]; omega
    have hsum : (sizeL out : Int) + (((bT s).size : Int) + 1) = ((sizeL (out ++ [s]) : Nat) : Int) := by rw [sizeL_snoc,hbs]; omega
    have hk2 : inK .i64 ((sizeL (out ++ [s]) : Nat) : Int) := by rw [sizeL_snoc]; simp [inK,IntKind.min,IntKind.max,IntKind.signed,IntKind.bits]; omega
    have hp1 : (out.length + 1) * 16 <= 140737488355328 := by omega
    have hp2 : out.length + 1 < lenMax := by unfold lenMax; omega
    have hlen : (out ++ [s]).length = out.length + 1 := by simp
    have hrow : strD (out ++ [s]) = strD out ++ [[.str (bT s)]] := by simp
    by_cases hf : sizeL (out ++ [s]) > 8000
    ·have e3 : decide (((sizeL (out ++ [s]) : Nat) : Int) > 8000) = true := by simp; omega
     have e4 : decide (sizeL (out ++ [s]) <= 8000) = false := decide_eq_false (by omega)
     rw [if_pos hf,e4]
     repeat' (first | refine Kn rfl ?_ | ((first | refine Ka ?_ | refine Kb ?_ | refine Kc ?_ | refine Kd ?_ | refine Ke ?_); simp only [getC_end,setC_end,hsum,e3,go_sem]) | refine Kf ?_ | refine Kg ?_ | refine ⟨by simp,hp1,hp2,?_⟩ | refine ⟨hk1,?_⟩ | refine ⟨hk2,?_⟩ | (refine Kp (fun _ => ?_) (fun _ => ?_) <;> try (exfalso; omega)))
     exact G_exit_rnd (id := 0) rfl ⟨⟨rfl,rfl⟩,by simp only [stC,hlen,hrow]⟩
    ·have e3 : decide (((sizeL (out ++ [s]) : Nat) : Int) > 8000) = false := by simp; omega
     have e4 : decide (sizeL (out ++ [s]) <= 8000) = true := decide_eq_true (by omega)
     rw [if_neg hf,e4]
     repeat' (first | refine Kn rfl ?_ | ((first | refine Ka ?_ | refine Kb ?_ | refine Kc ?_ | refine Kd ?_ | refine Ke ?_); simp only [getC_end,setC_end,hsum,e3,go_sem]) | refine Kf ?_ | refine Kg ?_ | refine ⟨by simp,hp1,hp2,?_⟩ | refine ⟨hk1,?_⟩ | refine ⟨hk2,?_⟩ | (refine Kp (fun _ => ?_) (fun _ => ?_) <;> try (exfalso; omega)))
     exact G_rnd ⟨⟨rfl,rfl⟩,by simp only [stC,hlen,hrow]⟩
   ·by_cases hf : sizeL (out ++ [s]) > 8000
    ·rw [if_pos hf,if_pos hf]; rfl
    ·rw [if_neg hf,if_neg hf]; rfl
  refine tri_imp (lines1_c h hg hst hR hem) fun r post ⟨m,rest,hpost⟩ => ?_
  rw [hpost]
  refine ⟨_,_,rfl,?_,?_,m,_,rfl⟩
  ·split <;> simp
  ·by_cases hf : sizeL (topL t) > 8000
   ·rw [if_pos (hst1.2 hf),if_pos hf]
   ·rw [if_neg (fun e => hf (hst1.1 e)),if_neg hf]
 ·rintro own' ⟨hpd,m,rest,rfl⟩
  have hf : ¬ sizeL (topL t) > 8000 := fun hf => by rw [if_pos hf] at hpd; cases hpd
  have e2 : decide ((sizeL (topL t) : Int) > 8000) = false := by simp; omega
  rw [hst0,if_neg hf,if_neg hf,if_neg hf]
  simp only [go_sem]
  repeat' (first | refine Kn rfl ?_ | ((first | refine Ka ?_ | refine Kb ?_ | refine Kc ?_ | refine Kd ?_ | refine Ke ?_); simp only [e2,go_sem]) | refine Kf ?_ | refine Kg ?_ | (refine Kp (fun _ => ?_) (fun _ => ?_) <;> try (exfalso; omega)))
  refine G_freeze 4 ?_
  simp only [go_sem]
  repeat' (first | refine Kn rfl ?_ | ((first | refine Ka ?_ | refine Kb ?_ | refine Kc ?_ | refine Kd ?_ | refine Ke ?_); simp only [go_sem]) | refine Kf ?_ | refine Kg ?_ | (refine Kp (fun _ => ?_) (fun _ => ?_) <;> try (exfalso; omega)) | ((first | refine Kh ?_ | refine Ki rfl ?_); simp only [or_self,Qs,Qt,Qu,Qv,Qw,Qx,Qy,Qz,Za,go_sem]))
  all_goals trace_state
 ·rintro c own' ⟨hpd,m,rest,rfl⟩
  have hf : sizeL (topL t) > 8000 := Classical.byContradiction fun hf => by rw [if_neg hf] at hpd; cases hpd
  rw [if_pos hf] at hpd
  cases hpd
  have e2 : decide ((sizeL (stopL [] (topL t)) : Int) > 8000) = true := by have := hst1.2 hf; simp; omega
  refine ⟨_,rfl,?_⟩
  rw [if_pos hf,if_pos hf]
  simp only [go_sem]
  repeat' (first | refine Kn rfl ?_ | ((first | refine Ka ?_ | refine Kb ?_ | refine Kc ?_ | refine Kd ?_ | refine Ke ?_); simp only [e2,go_sem]) | refine Kf ?_ | refine Kg ?_ | (refine Kp (fun _ => ?_) (fun _ => ?_) <;> try (exfalso; omega)) | ((first | refine Kh ?_ | refine Ki rfl ?_); simp only [e2,or_self,Qs,Qt,Qu,Qv,Qw,Qx,Qy,Qz,Za,go_sem]))
  all_goals trace_state
open Classical in
noncomputable def emT (g : Gr) : Tr := if h : ∃ (t : Tr) (met : List Int),EmW g 1 [0] [] [t] met /\ NmW 0 [t] (ancC g g.l.length) /\ (flatT t).length = 1 + (flat g).length then h.choose else .mk 0 ⟨#[]⟩ z13 [] []
theorem emT_ok {g : Gr} (hg : Tdy g) (hd : deepQ g) : ∃ met,EmW g 1 [0] [] [emT g] met /\ NmW 0 [emT g] (ancC g g.l.length) /\ (flatT (emT g)).length = 1 + (flat g).length := by
 have h := em_whole hg hd
 unfold emT
 rw [dif_pos h]
 exact h.choose_spec
open Classical in
noncomputable def outE (g : Gr) : List (List UInt8) × Int :=
 if chk g = none /\ g = tidyG g then (if deepQ g then (if placeL g > 200 then ([],71) else if sizeL (topL (emT g)) > 8000 then ([],20) else (topL (emT g),0)) else ([],73)) else ([],72)
theorem tdy_of {g : Gr} (hs : Small g) (h : chk g = none /\ g = tidyG g) : Tdy g := by
 have := Good.tdy ⟨h.1,hs⟩
 rwa [<- h.2] at this
theorem outE_bad {g : Gr} (h : ¬ (chk g = none /\ g = tidyG g)) : outE g = ([],72) := by unfold outE; rw [if_neg h]
theorem outE_deep {g : Gr} (h : chk g = none /\ g = tidyG g) (hd : ¬ deepQ g) : outE g = ([],73) := by unfold outE; rw [if_pos h,if_neg hd]
theorem outE_many {g : Gr} (h : chk g = none /\ g = tidyG g) (hd : deepQ g) (hp : placeL g > 200) : outE g = ([],71) := by unfold outE; rw [if_pos h,if_pos hd,if_pos hp]
theorem outE_long {g : Gr} (h : chk g = none /\ g = tidyG g) (hd : deepQ g) (hp : ¬ placeL g > 200) (hl : sizeL (topL (emT g)) > 8000) : outE g = ([],20) := by unfold outE; rw [if_pos h,if_pos hd,if_neg hp,if_pos hl]
theorem outE_ok {g : Gr} (h : chk g = none /\ g = tidyG g) (hd : deepQ g) (hp : ¬ placeL g > 200) (hl : ¬ sizeL (topL (emT g)) > 8000) : outE g = (topL (emT g),0) := by unfold outE; rw [if_pos h,if_pos hd,if_neg hp,if_neg hl]
theorem outE_size (g : Gr) : sizeL (outE g).1 <= 8000 := by
 unfold outE
 split
 ·split
  ·split
   ·simp [sizeL]
   ·split
    ·simp [sizeL]
    ·show sizeL (topL (emT g)) <= 8000; omega
  ·simp [sizeL]
 ·simp [sizeL]
theorem printed13 (h : Env13 gp) {g : Gr} (hs : Small g) (hst : ∀ x ∈ g.l,x.short) : Does QP gp 26 [g.v] (.tup [.one (.d (.sl (strD (outE g).1))),vi (outE g).2]) := by
 by_cases ht : chk g = none /\ g = tidyG g
 ·have hg := tdy_of hs ht
  have c1 := tidy_is h.e g hs
  rw [decide_eq_true ht] at c1
  by_cases hd : deepQ g
  ·by_cases hp : placeL g > 200
   ·have c2 := deep_c (b := false) h.e hg (by simp [hd])
    have c3 := anchors_g h.e hg
    have c4 := places13 h.e hg
    have e1 : decide (placeL g > 200) = true := decide_eq_true hp
    rw [outE_many ht hd hp]
    refine f26_in ?_
    simp only [go_sem]
    repeat' (first | refine Kn rfl ?_ | ((first | refine Ka ?_ | refine Kb ?_ | refine Kc ?_ | refine Kd ?_ | refine Ke ?_); simp only [e1,go_sem]) | refine Kf ?_ | refine Kg ?_ | refine ⟨_,c1,Kg ?_⟩ | refine ⟨_,⟨c1,rfl⟩,Kg ?_⟩ | refine ⟨_,c2,Kg ?_⟩ | refine ⟨_,⟨c2,rfl⟩,Kg ?_⟩ | refine ⟨_,c3,Kg ?_⟩ | refine ⟨_,⟨c3,rfl⟩,Kg ?_⟩ | refine ⟨_,c4,Kg ?_⟩ | refine ⟨_,⟨c4,rfl⟩,Kg ?_⟩ | (refine Kp (fun _ => ?_) (fun _ => ?_) <;> try (exfalso; omega)) | ((first | refine Kh ?_ | refine Ki rfl ?_); simp only [e1,or_self,Qs,Qt,Qu,Qv,Qw,Qx,Qy,Qz,Za,go_sem]))
    all_goals trace_state
   ·obtain ⟨met,hem,_⟩ := emT_ok hg hd
    have := printed_w h hg hst hd hp hem
    by_cases hl : sizeL (topL (emT g)) > 8000
    ·rw [outE_long ht hd hp hl]; rwa [if_pos hl,if_pos hl] at this
    ·rw [outE_ok ht hd hp hl]; rwa [if_neg hl,if_neg hl] at this
  ·have c2 := deep_c (b := true) h.e hg (by simp [hd])
   rw [outE_deep ht hd]
   refine f26_in ?_
   simp only [go_sem]
   repeat' (first | refine Kn rfl ?_ | ((first | refine Ka ?_ | refine Kb ?_ | refine Kc ?_ | refine Kd ?_ | refine Ke ?_); simp only [go_sem]) | refine Kf ?_ | refine Kg ?_ | refine ⟨_,c1,Kg ?_⟩ | refine ⟨_,⟨c1,rfl⟩,Kg ?_⟩ | refine ⟨_,c2,Kg ?_⟩ | refine ⟨_,⟨c2,rfl⟩,Kg ?_⟩ | (refine Kp (fun _ => ?_) (fun _ => ?_) <;> try (exfalso; omega)) | ((first | refine Kh ?_ | refine Ki rfl ?_); simp only [or_self,Qs,Qt,Qu,Qv,Qw,Qx,Qy,Qz,Za,go_sem]))
   all_goals trace_state
 ·have c1 := tidy_is h.e g hs
  rw [decide_eq_false ht] at c1
  rw [outE_bad ht]
  refine f26_in ?_
  simp only [go_sem]
  repeat' (first | refine Kn rfl ?_ | ((first | refine Ka ?_ | refine Kb ?_ | refine Kc ?_ | refine Kd ?_ | refine Ke ?_); simp only [go_sem]) | refine Kf ?_ | refine Kg ?_ | refine ⟨_,c1,Kg ?_⟩ | refine ⟨_,⟨c1,rfl⟩,Kg ?_⟩ | (refine Kp (fun _ => ?_) (fun _ => ?_) <;> try (exfalso; omega)) | ((first | refine Kh ?_ | refine Ki rfl ?_); simp only [or_self,Qs,Qt,Qu,Qv,Qw,Qx,Qy,Qz,Za,go_sem]))
  all_goals trace_state
theorem lines13 (h : Env13 gp) {g : Gr} (hs : Small g) (hst : ∀ x ∈ g.l,x.short) : Does QP gp 13 [g.v] (.tup [.one (.d (.sl (strD (outE g).1))),vi (outE g).2]) := by
 have c1 := printed13 h hs hst
 generalize outE g = o at *
 refine f13_in ?_
 simp only [go_sem]
 repeat' (first | refine Kn rfl ?_ | ((first | refine Ka ?_ | refine Kb ?_ | refine Kc ?_ | refine Kd ?_ | refine Ke ?_); simp only [go_sem]) | refine Kf ?_ | refine Kg ?_ | refine ⟨_,c1,Kg ?_⟩ | refine ⟨_,⟨c1,rfl⟩,Kg ?_⟩ | (refine Kp (fun _ => ?_) (fun _ => ?_) <;> try (exfalso; omega)) | ((first | refine Kh ?_ | refine Ki rfl ?_); simp only [or_self,Qs,Qt,Qu,Qv,Qw,Qx,Qy,Qz,Za,go_sem]))
 all_goals trace_state
theorem textL_snoc (l : List (List UInt8)) (s : List UInt8) : textL (l ++ [s]) = textL l ++ (s ++ [10]) := by unfold textL; rw [List.flatMap_append]; simp
theorem sizeL_take (l : List (List UInt8)) (j : Nat) : sizeL (l.take j) <= sizeL l := by
 have := sizeL_app (l.take j) (l.drop j)
 rw [List.take_append_drop] at this; omega
theorem text13 (h : Env13 gp) {g : Gr} (hs : Small g) (hst : ∀ x ∈ g.l,x.short) : Does QP gp 11 [g.v] (.tup [vs (bT (textL (outE g).1)),vi (outE g).2]) := by
 have c1 := printed13 h hs hst
 have hsz := outE_size g
 generalize outE g = o at *
 obtain ⟨L,e⟩ := o
 have hsz : sizeL L <= 8000 := hsz
 refine f11_in ?_
 simp only [go_sem]
 repeat' (first | refine Kn rfl ?_ | ((first | refine Ka ?_ | refine Kb ?_ | refine Kc ?_ | refine Kd ?_ | refine Ke ?_); simp only [go_sem]) | refine Kf ?_ | refine Kg ?_ | refine ⟨_,c1,Kg ?_⟩ | refine ⟨_,⟨c1,rfl⟩,Kg ?_⟩ | (refine Kp (fun _ => ?_) (fun _ => ?_) <;> try (exfalso; omega)))
 refine Kj (fr 26 [(5,vi e),(6,.one (.ptr 0 0)),(14,.one (.d (.sl (strD L)))),(15,vi L.length),(16,vi (0 : Nat))]) (by (simp only [go_sem]; repeat' (first | refine Kp ?_ ?_ | exact Or.inl rfl | exact Or.inr rfl | rfl))) ?_
 refine Km (fun mz sz => ∃ j : Nat,j <= L.length /\ mz = L.length - j /\ (0 <= j) /\ sz = ⟨fr 26 [(5,vi e),(6,.one (.ptr 0 0)),(14,.one (.d (.sl (strD L)))),(15,vi L.length),(16,vi j)],[.bld TB (.own 1 j),.brow TU j (textL (L.take j))]⟩) (L.length) ⟨0,Nat.zero_le _,(Nat.sub_zero _).symm,?_,rfl⟩ ?_
 ·exact Nat.zero_le _
 rintro _ _ ⟨j,hj,rfl,-,rfl⟩
 simp only [go_sem]
 by_cases hjl : j < L.length
 ·obtain ⟨s,hsj⟩ := at_lt hjl
  have hik : inK .i64 ((j : Int) + 1) := by
   have := sizeL_ge L
   simp [inK,IntKind.min,IntKind.max,IntKind.signed,IntKind.bits]; omega
  have htl : (textL (L.take j)).length <= 8000 := by rw [textL_len]; have := sizeL_take L j; omega
  have hsl : s.length <= 8000 := by
   have h1 := sizeL_take L (j + 1)
   rw [getD_take_snoc hsj,sizeL_snoc] at h1; omega
  have e1 : bT s ++ (⟨#[10]⟩ : ByteArray) = bT (s ++ [10]) := bT_app s [10]
  have hsz2 : (((bT s).size + #[(10 : UInt8)].size : Nat) : Int) <= 9223372036854775807 := by rw [bT_size]; simp; omega
  have bW := bld_write (gp := gp) (ver := j) (bs := textL (L.take j)) (s := bT (s ++ [10])) (by rw [bT_size]; simp; omega)
  have e2 : textL (L.take j) ++ (bT (s ++ [10])).data.toList = textL (L.take (j + 1)) := by rw [getD_take_snoc hsj,textL_snoc]; simp [bT]
  rw [e2] at bW
  repeat' (first | refine Kn rfl ?_ | ((first | refine Ka ?_ | refine Kb ?_ | refine Kc ?_ | refine Kd ?_ | refine Ke ?_); simp only [e1,go_sem]) | refine Kf ?_ | refine Kg ?_ | refine ⟨_,⟨Kq _,(by first | exact map_at hsj | (rw [Int.toNat_natCast]; exact map_at hsj)),rfl⟩,Kg ?_⟩ | refine ⟨hsz2,?_⟩ | (refine Kp (fun _ => ?_) (fun _ => ?_) <;> try (exfalso; omega)))
  refine Or.inr (Or.inr ⟨[0,1],.tup [vi (bT (s ++ [10])).size,.one (.d .nilI)],[.bld TB (.own 1 (j + 1)),.brow TU (j + 1) (textL (L.take (j + 1)))],(by simp only [CallR,rnVs,rnV,rnA,rnAs,rn0,rn0s,posN,rnCs,rnC,getC,List.isEmpty_nil,reduceCtorEq,↓reduceIte,Qa,Qb,Qc,Qd,Qe,Qf,Qg,Qh,Qi,Qj,Qk,Ql,Qm,Qn,Qo,Qp,Qq,Qr]; simp only [go_sem]; exact ⟨f27_ok,bW⟩),Kg ?_⟩)
  simp only [go_sem]
  repeat' (first | refine Kn rfl ?_ | ((first | refine Ka ?_ | refine Kb ?_ | refine Kc ?_ | refine Kd ?_ | refine Ke ?_); simp only [go_sem]) | refine Kf ?_ | refine Kg ?_ | refine ⟨hik,?_⟩ | (refine Kp (fun _ => ?_) (fun _ => ?_) <;> try (exfalso; omega)))
  refine Kj (fr 26 [(5,vi e),(6,.one (.ptr 0 0)),(14,.one (.d (.sl (strD L)))),(15,vi L.length),(16,vi (j + 1))]) (by (simp only [go_sem]; repeat' (first | refine Kp ?_ ?_ | exact Or.inl rfl | exact Or.inr rfl | rfl))) ?_
  refine Kk 2 (by simp only [List.length_nil,List.length_cons]; decide) (by simp only [go_sem]) (by simp only [go_sem]) ?_
  simp only [go_sem]
  refine Kl ⟨L.length - (j + 1),by omega,j + 1,by omega,rfl,?_,rfl⟩
  exact Nat.zero_le _
 ·obtain rfl : L.length = j := by omega
  rw [List.take_length]
  repeat' (first | refine Kn rfl ?_ | ((first | refine Ka ?_ | refine Kb ?_ | refine Kc ?_ | refine Kd ?_ | refine Ke ?_); simp only [go_sem]) | refine Kf ?_ | refine Kg ?_ | (refine Kp (fun _ => ?_) (fun _ => ?_) <;> try (exfalso; omega)))
  refine Or.inr (Or.inr ⟨[0,1],vs (bT (textL L)),[.dead,.dead],(by simp only [CallR,rnVs,rnV,rnA,rnAs,rn0,rn0s,posN,rnCs,rnC,getC,List.isEmpty_nil,reduceCtorEq,↓reduceIte,Qa,Qb,Qc,Qd,Qe,Qf,Qg,Qh,Qi,Qj,Qk,Ql,Qm,Qn,Qo,Qp,Qq,Qr]; simp only [go_sem]; exact ⟨by kernel_rfl,bld_string⟩),Kg ?_⟩)
  simp only [go_sem]
  repeat' (first | refine Kn rfl ?_ | ((first | refine Ka ?_ | refine Kb ?_ | refine Kc ?_ | refine Kd ?_ | refine Ke ?_); simp only [go_sem]) | refine Kf ?_ | refine Kg ?_ | (refine Kp (fun _ => ?_) (fun _ => ?_) <;> try (exfalso; omega)) | ((first | refine Kh ?_ | refine Ki rfl ?_); simp only [or_self,Qs,Qt,Qu,Qv,Qw,Qx,Qy,Qz,Za,go_sem]))
  all_goals trace_state
theorem size13 (h : Env13 gp) {g : Gr} (hs : Small g) (hst : ∀ x ∈ g.l,x.short) : Does QP gp 15 [g.v] (.tup [vi (sizeL (outE g).1),vi (outE g).2]) := by
 have c1 := text13 h hs hst
 have e1 : (((bT (textL (outE g).1)).size : Nat) : Int) = ((sizeL (outE g).1 : Nat) : Int) := by rw [bT_size,textL_len]
 rw [<- e1]
 generalize outE g = o at *
 refine f15_in ?_
 simp only [go_sem]
 repeat' (first | refine Kn rfl ?_ | ((first | refine Ka ?_ | refine Kb ?_ | refine Kc ?_ | refine Kd ?_ | refine Ke ?_); simp only [go_sem]) | refine Kf ?_ | refine Kg ?_ | refine ⟨_,c1,Kg ?_⟩ | refine ⟨_,⟨c1,rfl⟩,Kg ?_⟩ | (refine Kp (fun _ => ?_) (fun _ => ?_) <;> try (exfalso; omega)) | ((first | refine Kh ?_ | refine Ki rfl ?_); simp only [or_self,Qs,Qt,Qu,Qv,Qw,Qx,Qy,Qz,Za,go_sem]))
 all_goals trace_state
theorem tidied13 (h : Env gp) (g : Gr) (t : Bool) : Does QP gp 10 [g.v,vb t] (tidied g t).v := by
 refine f10_in ?_
 simp only [go_sem]
 have cg := cut_gr (gp := gp) g
 have hsm := g.cut_small
 unfold tidied
 generalize g.cut = q at *
 have c1 := tidy_gr h q hsm
 by_cases hc : chk q = none
 ·rw [chkE_ok hc,tOf_good ⟨hc,hsm⟩] at c1
  cases t with
  | true =>
   rw [if_pos ⟨rfl,hc⟩]
   repeat' (first | refine Kn rfl ?_ | ((first | refine Ka ?_ | refine Kb ?_ | refine Kc ?_ | refine Kd ?_ | refine Ke ?_); simp only [go_sem]) | refine Kf ?_ | refine Kg ?_ | refine ⟨_,cg,Kg ?_⟩ | refine ⟨_,⟨cg,rfl⟩,Kg ?_⟩ | refine ⟨_,c1,Kg ?_⟩ | refine ⟨_,⟨c1,rfl⟩,Kg ?_⟩ | refine Kp (fun _ => ?_) (fun _ => ?_) | ((first | refine Kh ?_ | refine Ki rfl ?_); simp only [or_self,Qs,Qt,Qu,Qv,Qw,Qx,Qy,Qz,Za,go_sem]))
  | false =>
   rw [if_neg (by simp)]
   repeat' (first | refine Kn rfl ?_ | ((first | refine Ka ?_ | refine Kb ?_ | refine Kc ?_ | refine Kd ?_ | refine Ke ?_); simp only [go_sem]) | refine Kf ?_ | refine Kg ?_ | refine ⟨_,cg,Kg ?_⟩ | refine ⟨_,⟨cg,rfl⟩,Kg ?_⟩ | refine ⟨_,c1,Kg ?_⟩ | refine ⟨_,⟨c1,rfl⟩,Kg ?_⟩ | refine Kp (fun _ => ?_) (fun _ => ?_) | ((first | refine Kh ?_ | refine Ki rfl ?_); simp only [or_self,Qs,Qt,Qu,Qv,Qw,Qx,Qy,Qz,Za,go_sem]))
 ·have he := chkE_bad hc
  rw [if_neg (by simp [hc])]
  generalize chkE q = e at *
  cases t with
  | true =>
   repeat' (first | refine Kn rfl ?_ | ((first | refine Ka ?_ | refine Kb ?_ | refine Kc ?_ | refine Kd ?_ | refine Ke ?_); simp only [go_sem]) | refine Kf ?_ | refine Kg ?_ | refine ⟨_,cg,Kg ?_⟩ | refine ⟨_,⟨cg,rfl⟩,Kg ?_⟩ | refine ⟨_,c1,Kg ?_⟩ | refine ⟨_,⟨c1,rfl⟩,Kg ?_⟩ | refine Kp (fun _ => ?_) (fun _ => ?_) | ((first | refine Kh ?_ | refine Ki rfl ?_); simp only [or_self,Qs,Qt,Qu,Qv,Qw,Qx,Qy,Qz,Za,go_sem]))
   all_goals first | (exfalso; simp_all; done) | skip
  | false => repeat' (first | refine Kn rfl ?_ | ((first | refine Ka ?_ | refine Kb ?_ | refine Kc ?_ | refine Kd ?_ | refine Ke ?_); simp only [go_sem]) | refine Kf ?_ | refine Kg ?_ | refine ⟨_,cg,Kg ?_⟩ | refine ⟨_,⟨cg,rfl⟩,Kg ?_⟩ | refine ⟨_,c1,Kg ?_⟩ | refine ⟨_,⟨c1,rfl⟩,Kg ?_⟩ | refine Kp (fun _ => ?_) (fun _ => ?_) | ((first | refine Kh ?_ | refine Ki rfl ?_); simp only [or_self,Qs,Qt,Qu,Qv,Qw,Qx,Qy,Qz,Za,go_sem]))
theorem zero_short : Nd.zero.short := by
 refine ⟨by simp [Nd.zero],by simp [Nd.zero],?_,by simp [Nd.zero]⟩
 show Nd.zero.x.s.size <= 100000
 exact Nat.zero_le _
theorem ndAt_short {l : List Nd} (h : ∀ x ∈ l,x.short) (i : Int) : (ndAt l i).short := by
 unfold ndAt
 split
 ·cases hx : l[i.toNat]? with
  | none => exact zero_short
  | some x => exact h x (List.mem_of_getElem? hx)
 ·exact zero_short
theorem tidyG_short {q : Gr} (hg : Good q) (h : ∀ x ∈ q.l,x.short) : ∀ x ∈ (tidyG q).l,x.short := by
 intro x hx
 have hs := hg.tidy.s x hx
 unfold tidyG at hx
 obtain ⟨i,-,rfl⟩ := List.mem_map.1 hx
 have h1 := ndAt_short h i
 refine ⟨hs.1,hs.2,h1.2.2.1,fun y hy => h1.2.2.2 y ?_⟩
 have hy' : y ∈ keysOf (ndAt q.l i) := hy
 unfold keysOf pairsOf at hy'
 split at hy'
 ·rename_i hk
  rw [((srt_perm (zips (ndAt q.l i))).map Pr.key).mem_iff,zips_key hk.2] at hy'
  exact hy'
 ·simp at hy'
theorem tidied_short (g : Gr) (t : Bool) : ∀ x ∈ (tidied g t).l,x.short := by
 unfold tidied
 split
 ·rename_i h
  exact tidyG_short ⟨h.2,g.cut_small⟩ (cut_short g)
 ·exact cut_short g
theorem tidied_small (g : Gr) (t : Bool) : Small (tidied g t) := by
 unfold tidied
 split
 ·rename_i h
  exact (Good.tidy ⟨h.2,g.cut_small⟩).s
 ·exact g.cut_small
def kidN (g : Gr) (j : Nat) : Int := ((g.l[j]?).map fun x => (x.kids.length : Int)).getD 0
theorem inK_small {x : Int} (h : -1000000000 <= x) (h' : x <= 1000000000) : inK .i64 x := by simp [inK,IntKind.min,IntKind.max,IntKind.signed,IntKind.bits]; omega
end Go.Fw.L07
