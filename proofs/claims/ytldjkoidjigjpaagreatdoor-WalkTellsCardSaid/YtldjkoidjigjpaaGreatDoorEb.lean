/- Chapter 12,plain: how often nodes stand,how deep. -/
import Derived.Test.YtldjkoidjigjpaaGreatDoorEa
import Derived.Test.YtldjkoidjigjpaaGreatDoorL07L12Mini
import Derived.Test.YtldjkoidjigjpaaGreatDoorLc
set_option linter.all false
namespace Go.Fw.L07
open Go Go.Fw
open Nat renaming reduceAdd -> Qa,reduceSub -> Qb,reduceMul -> Qc,reduceLeDiff -> Qd,reduceLT -> Qe,reduceEqDiff -> Qf
open Int renaming reduceToNat -> Qg,reduceLT -> Qh,reduceLE -> Qi,reduceGT -> Qj,reduceGE -> Qk,reduceEq -> Ql,reduceNe -> Qm,reduceBEq -> Qn,reduceBNe -> Qo,reduceAdd -> Qp,reduceSub -> Qq,reduceNeg -> Qr
open Go.Fw.V.one renaming injEq -> Qs
open Go.Fw.V.agg renaming injEq -> Qt
open Go.Fw.V.tup renaming injEq -> Qu
open Go.Fw.A.d renaming injEq -> Qv
open Go.Fw.D.bool renaming injEq -> Qw
open Go.Fw.D.int renaming injEq -> Qx
open Go.Fw.D.str renaming injEq -> Qy
open Go.Fw.D.sl renaming injEq -> Qz
open List.cons renaming injEq -> Za
set_option maxRecDepth 4000
def cnt (n : Nat) (ks : List Int) : List Int := (List.range n).map (fun i : Nat => ((ks.count (i : Int) : Nat) : Int))
theorem cnt_len (n : Nat) (ks : List Int) : (cnt n ks).length = n := by simp [cnt]
theorem cnt_at {n i : Nat} (ks : List Int) (h : i < n) : (cnt n ks)[i]? = some ((ks.count (i : Int) : Nat) : Int) := by
 unfold cnt
 rw [List.getElem?_map,List.getElem?_range h]; rfl
theorem cnt_nil (n : Nat) : cnt n [] = List.replicate n 0 := by
 apply List.ext_getElem?
 intro i
 by_cases h : i < n
 ·rw [cnt_at _ h,List.getElem?_replicate,if_pos h]; rfl
 ·rw [List.getElem?_eq_none (by rw [cnt_len]; omega),List.getElem?_eq_none (by simp; omega)]
theorem cnt_snoc {n j : Nat} (ks : List Int) (h : j < n) : (cnt n ks).set j (((ks.count (j : Int) : Nat) : Int) + 1) = cnt n (ks ++ [(j : Int)]) := by
 apply List.ext_getElem?
 intro i
 by_cases hi : i < n
 ·rw [cnt_at _ hi,List.getElem?_set]
  by_cases e : j = i
  ·subst e
   rw [if_pos rfl,if_pos (by rw [cnt_len]; exact h)]
   simp [List.count_append]
  ·rw [if_neg e,cnt_at _ hi]
   have : ¬ (j : Int) = (i : Int) := by omega
   simp [List.count_append,List.count_cons,this]
 ·rw [List.getElem?_eq_none (by rw [List.length_set,cnt_len]; omega),List.getElem?_eq_none (by rw [cnt_len]; omega)]
def flat (g : Gr) : List Int := g.l.flatMap Nd.kids
def usesL (g : Gr) : List Int := cnt g.l.length (0 :: flat g)
def sumN (f : Nat -> Int) : Nat -> Int
 | 0 => 0
 | n + 1 => sumN f n + f n
theorem flat_len : ∀ (l : List Nd),((l.flatMap Nd.kids).length : Int) = sumN (fun i => (((l[i]?).map fun x => (x.kids.length : Int)).getD 0)) l.length
 | [] => rfl
 | x :: l => by
  have e : sumN (fun i => ((((x :: l)[i]?).map fun x => (x.kids.length : Int)).getD 0)) (l.length + 1) = (x.kids.length : Int) + sumN (fun i => (((l[i]?).map fun x => (x.kids.length : Int)).getD 0)) l.length := by
   generalize l.length = n
   induction n with
   | zero => simp [sumN]
   | succ n ih =>
    have : sumN (fun i => ((((x :: l)[i]?).map fun x => (x.kids.length : Int)).getD 0)) (n + 1 + 1) = sumN (fun i => ((((x :: l)[i]?).map fun x => (x.kids.length : Int)).getD 0)) (n + 1) + ((((x :: l)[n + 1]?).map fun x => (x.kids.length : Int)).getD 0) := rfl
    rw [this,ih]
    simp only [sumN,List.getElem?_cons_succ]
    omega
  rw [List.length_cons,e,List.flatMap_cons,List.length_append,Int.natCast_add,flat_len l]
def ancP (x : Nd) (n : Int) : Bool := decide (x.kids ≠ []) && decide (n > 1)
def ancGo : List Nd -> List Int -> Nat -> List Int
 | x :: l,n :: m,k => if ancP x n then ((k + 1 : Nat) : Int) :: ancGo l m (k + 1) else 0 :: ancGo l m k
 | _,_,_ => []
def ancN (g : Gr) (us : List Int) : Nat -> List Int × Nat
 | 0 => ([],0)
 | i + 1 => match g.l[i]?,us[i]? with
  | some x,some n => if ancP x n then ((ancN g us i).1 ++ [(((ancN g us i).2 + 1 : Nat) : Int)],(ancN g us i).2 + 1) else ((ancN g us i).1 ++ [0],(ancN g us i).2)
  | _,_ => ancN g us i
def ancL (g : Gr) : List Int := (ancN g (usesL g) g.l.length).1
theorem ancN_len {g : Gr} {us : List Int} (h : us.length = g.l.length) : ∀ i,i <= g.l.length -> (ancN g us i).1.length = i
 | 0,_ => rfl
 | i + 1,hi => by
  obtain ⟨x,hx⟩ := at_lt (l := g.l) (i := i) (by omega)
  obtain ⟨n,hn⟩ := at_lt (l := us) (i := i) (by omega)
  simp only [ancN,hx,hn]
  split <;> simp [ancN_len h i (by omega)]
inductive DepW (k : Int -> List Int) : Int -> List Int -> List Int -> List Int -> Prop
 | nil (d : Int) (a : List Int) : DepW k d [] a a
 | skip {d : Int} {i : Nat} {r a b : List Int} {x : Int} : a[i]? = some x -> 0 < x -> DepW k d r a b -> DepW k d ((i : Int) :: r) a b
 | step {d : Int} {i : Nat} {r a b c : List Int} {x : Int} : a[i]? = some x -> ¬ 0 < x -> DepW k (d + 1) (k i) (a.set i d) b -> DepW k d r b c -> DepW k d ((i : Int) :: r) a c
theorem DepW.det {k : Int -> List Int} {d : Int} {t a b c : List Int} (h : DepW k d t a b) (h' : DepW k d t a c) : b = c := by
 induction h generalizing c with
 | nil => cases h'; rfl
 | skip hx h0 _ ih =>
  cases h' with
  | skip _ _ h2 => exact ih h2
  | step hy h1 _ _ => rw [hx] at hy; cases hy; exact absurd h0 h1
 | step hx h0 _ _ ih1 ih2 =>
  cases h' with
  | skip hy h1 _ => rw [hx] at hy; cases hy; exact absurd h1 h0
  | step hy h1 h2 h3 =>
   have := ih1 h2
   subst this
   exact ih2 h3
theorem DepW.len {k : Int -> List Int} {d : Int} {t a b : List Int} (h : DepW k d t a b) : b.length = a.length := by
 induction h with
 | nil => rfl
 | skip _ _ _ ih => exact ih
 | step _ _ _ _ ih1 ih2 => rw [ih2,ih1,List.length_set]
open Classical in
noncomputable def depF (k : Int -> List Int) (d : Int) (t a : List Int) : List Int := if h : ∃ b,DepW k d t a b then Classical.choose h else a
theorem DepW.eq {k : Int -> List Int} {d : Int} {t a b : List Int} (h : DepW k d t a b) : depF k d t a = b := by
 unfold depF
 rw [dif_pos ⟨b,h⟩]
 exact (Classical.choose_spec (⟨b,h⟩ : ∃ b,DepW k d t a b)).det h
def zeros (a : List Int) : Nat := a.countP fun x => decide (¬ 0 < x)
theorem zeros_set {a : List Int} {i : Nat} {x d : Int} (h : a[i]? = some x) (h0 : ¬ 0 < x) (hd : 0 < d) : zeros (a.set i d) + 1 = zeros a := by
 induction a generalizing i with
 | nil => simp at h
 | cons y a ih =>
  cases i with
  | zero =>
   simp at h; subst h
   simp [zeros,List.countP_cons,hd,h0]
  | succ i =>
   have := ih (i := i) (by simpa using h)
   simp only [zeros,List.set_cons_succ,List.countP_cons] at this ⊢
   omega
theorem dep_ex {k : Int -> List Int} {n : Nat} (hk : ∀ i,∀ j ∈ k i,0 <= j /\ j < n) : ∀ (z : Nat) (d : Int) (t a : List Int),zeros a <= z -> 0 < d -> a.length = n -> (∀ i ∈ t,0 <= i /\ i < n) -> ∃ b,DepW k d t a b /\ zeros b <= zeros a := by
 intro z
 induction z with
 | zero =>
  intro d t
  induction t with
  | nil => intro a _ _ _ _; exact ⟨a,.nil d a,Nat.le_refl _⟩
  | cons i t ih =>
   intro a hz hd hl ht
   have hi := ht i (by simp)
   obtain ⟨m,rfl⟩ := Int.eq_ofNat_of_zero_le hi.1
   obtain ⟨x,hx⟩ := at_lt (l := a) (i := m) (by omega)
   by_cases h0 : 0 < x
   ·obtain ⟨b,hb,hzb⟩ := ih a hz hd hl fun j hj => ht j (by simp [hj])
    exact ⟨b,.skip hx h0 hb,hzb⟩
   ·have := zeros_set hx h0 hd
    omega
 | succ z ihz =>
  intro d t
  induction t with
  | nil => intro a _ _ _ _; exact ⟨a,.nil d a,Nat.le_refl _⟩
  | cons i t ih =>
   intro a hz hd hl ht
   have hi := ht i (by simp)
   obtain ⟨m,rfl⟩ := Int.eq_ofNat_of_zero_le hi.1
   obtain ⟨x,hx⟩ := at_lt (l := a) (i := m) (by omega)
   by_cases h0 : 0 < x
   ·obtain ⟨b,hb,hzb⟩ := ih a hz hd hl fun j hj => ht j (by simp [hj])
    exact ⟨b,.skip hx h0 hb,hzb⟩
   ·have hzs := zeros_set hx h0 hd
    obtain ⟨b,hb,hzb⟩ := ihz (d + 1) (k m) (a.set m d) (by omega) (by omega) (by simp [hl]) (hk m)
    obtain ⟨c,hc,hzc⟩ := ih b (by omega) hd (by rw [hb.len]; simp [hl]) fun j hj => ht j (by simp [hj])
    exact ⟨c,.step hx h0 hb hc,by omega⟩
abbrev rangeI (m : Nat) : List Int := (List.range m).map (fun i : Nat => (i : Int))
theorem rangeI_at {m i : Nat} (h : i < m) : (rangeI m)[i]? = some (i : Int) := by rw [List.getElem?_map,List.getElem?_range h]; rfl
structure Tdy (g : Gr) : Prop where
 good : Good g
 root : g.root = 0
 walk : walkL g = rangeI g.l.length
 kids : ∀ x ∈ g.l,kidsOf x = x.kids
 self : g = tidyG g
theorem Good.tdy {q : Gr} (h : Good q) : Tdy (tidyG q) where
 good := h.tidy
 root := rfl
 walk := by rw [tidy_walk h,tidyG_len]
 kids := by
  intro x hx
  simp only [tidyG,List.mem_map] at hx
  obtain ⟨i,hi,rfl⟩ := hx
  exact (tidy_kids (h.node (h.wIn i hi)) _).1
 self := (tidy_tidy h).symm
theorem ndAt_nat {l : List Nd} {i : Nat} {x : Nd} (h : l[i]? = some x) : ndAt l i = x := by
 have hi := (List.getElem?_eq_some_iff.1 h).1
 unfold ndAt
 rw [if_pos (by omega),Int.toNat_natCast,h]; rfl
theorem Tdy.kd {g : Gr} (h : Tdy g) {i : Nat} {x : Nd} (hx : g.l[i]? = some x) : kd g i = x.kids := by
 rw [L07.kd,ndAt_nat hx]
 exact h.kids x (List.mem_of_getElem? hx)
theorem Tdy.flatIn {g : Gr} (h : Tdy g) : ∀ k ∈ flat g,0 <= k /\ k < g.l.length := by
 intro k hk
 obtain ⟨x,hx,hk⟩ := List.mem_flatMap.1 hk
 obtain ⟨i,hi⟩ := List.mem_iff_getElem?.1 hx
 rw [<- h.kd hi] at hk
 exact h.good.kid i k hk
theorem Tdy.pos {g : Gr} (h : Tdy g) : 0 < g.l.length := by
 have := h.good.root; omega
theorem Tdy.from {g : Gr} (h : Tdy g) {i : Nat} (hi : i < g.l.length) (h0 : 0 < i) : (i : Int) ∈ flat g := by
 have hw : (walkL g)[i]? = some (i : Int) := by rw [h.walk]; exact rangeI_at hi
 obtain ⟨m,p,hm,hp,hk⟩ := h.good.from hw h0
 rw [h.walk,rangeI_at (by omega)] at hp
 cases hp
 obtain ⟨x,hx⟩ := at_lt (l := g.l) (i := m) (by omega)
 rw [h.kd hx] at hk
 exact List.mem_flatMap.2 ⟨x,List.mem_of_getElem? hx,hk⟩
noncomputable def depL (g : Gr) : List Int := depF (kd g) 1 [0] (List.replicate g.l.length 0)
end Go.Fw.L07
namespace Go.Fw.L07
open Go Go.Fw
open Go.Proofs.Tryz renaming prog -> QP
open Nat renaming reduceAdd -> Qa,reduceSub -> Qb,reduceMul -> Qc,reduceLeDiff -> Qd,reduceLT -> Qe,reduceEqDiff -> Qf
open Int renaming reduceToNat -> Qg,reduceLT -> Qh,reduceLE -> Qi,reduceGT -> Qj,reduceGE -> Qk,reduceEq -> Ql,reduceNe -> Qm,reduceBEq -> Qn,reduceBNe -> Qo,reduceAdd -> Qp,reduceSub -> Qq,reduceNeg -> Qr
open Go.Fw.V.one renaming injEq -> Qs
open Go.Fw.V.agg renaming injEq -> Qt
open Go.Fw.V.tup renaming injEq -> Qu
open Go.Fw.A.d renaming injEq -> Qv
open Go.Fw.D.bool renaming injEq -> Qw
open Go.Fw.D.int renaming injEq -> Qx
open Go.Fw.D.str renaming injEq -> Qy
open Go.Fw.D.sl renaming injEq -> Qz
open List.cons renaming injEq -> Za
set_option maxRecDepth 4000
variable {gp : Heap}
abbrev ctC (g : Gr) : Ch := .cells [.d (.int .i64 g.root),.d (.sl (nds g.l)),.own 0 0]
theorem ints_rep (n : Nat) : List.replicate n [D.int .i64 0] = ints (cnt n []) := by rw [cnt_nil]; simp [ints]
theorem of_tidy (h : Env gp) {g : Gr} (hg : Tdy g) : Tri QP gp 84 [g.v] [] fun r post => r = .tup [.one (.ptr 1 0),vi 0] /\ post = [.row 1 0 (ints (cnt g.l.length [])),ctC g] := by
 refine f84_tri ?_
 simp only [go_sem]
 have c1 := tidy_is h g hg.good.s
 rw [show decide (chk g = none /\ g = tidyG g) = true from decide_eq_true ⟨hg.good.c,hg.self⟩] at c1
 have hl := hg.good.len
 have hlb : (g.l.length : Int) * 8 <= 140737488355328 := by omega
 have hlm : (g.l.length : Int) < (lenMax : Int) := by unfold lenMax; omega
 repeat' (first | refine Gx rfl ?_ | ((first | refine G_reg ?_ | refine G_regv ?_ | refine VO_chk ?_ | refine VO_go ?_ | refine VO_gx ?_ | refine G_cond ?_); simp only [go_sem]) | refine VO_end ?_ | refine Sh.intro ?_ | refine ⟨_,c1,Sh.intro ?_⟩ | refine ⟨_,⟨c1,rfl⟩,Sh.intro ?_⟩ | refine ⟨Int.natCast_nonneg _,hlb,hlm,?_⟩ | refine And.intro (fun _ => ?_) (fun _ => ?_) | ((first | refine G_fin ?_ | refine G_ret rfl ?_); simp only [or_self,Qs,Qt,Qu,Qv,Qw,Qx,Qy,Qz,Za,go_sem]))
 rw [ints_rep]
theorem of_bad (h : Env gp) {g : Gr} (hs : Small g) (hn : ¬ (chk g = none /\ g = tidyG g)) : Does QP gp 84 [g.v] (.tup [.one (.d .nilP),vi 72]) := by
 refine f84_in ?_
 simp only [go_sem]
 have c1 := tidy_is h g hs
 rw [decide_eq_false hn] at c1
 repeat' (first | refine Gx rfl ?_ | ((first | refine G_reg ?_ | refine G_regv ?_ | refine VO_chk ?_ | refine VO_go ?_ | refine VO_gx ?_ | refine G_cond ?_); simp only [go_sem]) | refine VO_end ?_ | refine Sh.intro ?_ | refine ⟨_,c1,Sh.intro ?_⟩ | refine ⟨_,⟨c1,rfl⟩,Sh.intro ?_⟩ | refine And.intro (fun _ => ?_) (fun _ => ?_) | ((first | refine G_fin ?_ | refine G_ret rfl ?_); simp only [or_self,Qs,Qt,Qu,Qv,Qw,Qx,Qy,Qz,Za,go_sem]))
theorem places_c (sz v : Nat) (xs : List (List D)) (cs : List A) : Tri QP gp 115 [.one (.ptr 1 0)] [.row sz v xs,.cells cs] fun r post =>
  r = .one (.clo (.func 139) [.ptr 2 0]) /\ post = [.row sz v xs,.cells cs,.cells [.ptr 1 0]] := by
 refine f115_tri ?_
 simp only [go_sem]
 repeat' (first | refine Gx rfl ?_ | ((first | refine G_reg ?_ | refine G_regv ?_ | refine VO_chk ?_ | refine VO_go ?_ | refine VO_gx ?_ | refine G_cond ?_); simp only [go_sem]) | refine VO_end ?_ | refine Sh.intro ?_ | refine And.intro (fun _ => ?_) (fun _ => ?_) | ((first | refine G_fin ?_ | refine G_ret rfl ?_); simp only [or_self,Qs,Qt,Qu,Qv,Qw,Qx,Qy,Qz,Za,go_sem]))
theorem may_stand : Does QP gp 116 [] (.agg [.d (.bool false),.d (.bool true),.d (.bool true)]) := by
 refine f116_in ?_
 simp only [go_sem]
 repeat' (first | refine Gx rfl ?_ | ((first | refine G_reg ?_ | refine G_regv ?_ | refine VO_chk ?_ | refine VO_go ?_ | refine VO_gx ?_ | refine G_cond ?_); simp only [go_sem]) | refine VO_end ?_ | refine Sh.intro ?_ | refine And.intro (fun _ => ?_) (fun _ => ?_) | ((first | refine G_fin ?_ | refine G_ret rfl ?_); simp only [or_self,Qs,Qt,Qu,Qv,Qw,Qx,Qy,Qz,Za,go_sem]))
end Go.Fw.L07
namespace Go.Fw.L07
open Go Go.Fw
open Go.Proofs.Tryz renaming prog -> QP
open Nat renaming reduceAdd -> Qa,reduceSub -> Qb,reduceMul -> Qc,reduceLeDiff -> Qd,reduceLT -> Qe,reduceEqDiff -> Qf
open Int renaming reduceToNat -> Qg,reduceLT -> Qh,reduceLE -> Qi,reduceGT -> Qj,reduceGE -> Qk,reduceEq -> Ql,reduceNe -> Qm,reduceBEq -> Qn,reduceBNe -> Qo,reduceAdd -> Qp,reduceSub -> Qq,reduceNeg -> Qr
open Go.Fw.V.one renaming injEq -> Qs
open Go.Fw.V.agg renaming injEq -> Qt
open Go.Fw.V.tup renaming injEq -> Qu
open Go.Fw.A.d renaming injEq -> Qv
open Go.Fw.D.bool renaming injEq -> Qw
open Go.Fw.D.int renaming injEq -> Qx
open Go.Fw.D.str renaming injEq -> Qy
open Go.Fw.D.sl renaming injEq -> Qz
open List.cons renaming injEq -> Za
set_option maxRecDepth 4000
variable {gp : Heap}
theorem cnt_get {n j : Nat} (ks : List Int) (h : j < n) : (ints (cnt n ks))[j]? = some [.int .i64 ((ks.count (j : Int) : Nat) : Int)] := map_at (cnt_at ks h)
theorem cnt_set {n j : Nat} (ks : List Int) (h : j < n) : (ints (cnt n ks)).set j [.int .i64 (((ks.count (j : Int) : Nat) : Int) + 1)] = ints (cnt n (ks ++ [(j : Int)])) := by
 rw [ints_set,cnt_snoc ks h]
theorem inK_one : inK .i64 1 := by simp [inK,IntKind.min,IntKind.max,IntKind.signed,IntKind.bits]
theorem inK_cnt {ks : List Int} {j : Int} (h : ks.length <= 100000) : inK .i64 (((ks.count j : Nat) : Int) + 1) := by
 have := List.count_le_length (a := j) (l := ks)
 exact inK_nat (n := 1000000) (by omega) (by unfold lenMax; omega)
theorem flat_small {l : List Nd} (h : ∀ x ∈ l,x.kids.length <= 12) : (l.flatMap Nd.kids).length <= 12 * l.length := by
 induction l with
 | nil => simp
 | cons x l ih =>
  have h1 := h x (by simp)
  have h2 := ih fun y hy => h y (by simp [hy])
  simp only [List.flatMap_cons,List.length_append,List.length_cons]
  omega
theorem uses_c {g : Gr} (hg : Tdy g) : Tri QP gp 85 [.one (.ptr 1 0)] [.row 1 0 (ints (cnt g.l.length [])),ctC g] fun r post =>
  r = .one (.own 0 0) /\ post = [.row 1 0 (ints (usesL g)),ctC g] := by
 have hpos := hg.pos
 have hlen := hg.good.len
 have hfi := hg.flatIn
 have hsm := hg.good.s
 refine f85_tri ?_
 simp only [go_sem]
 have hl0 : 0 < (cnt g.l.length []).length := by rw [cnt_len]; exact hpos
 have hg0 : (ints (cnt g.l.length []))[0]? = some [.int .i64 0] := by rw [cnt_get [] hpos]; rfl
 have hs0 : (ints (cnt g.l.length [])).set 0 [.int .i64 1] = ints (cnt g.l.length [0]) := by
  have := cnt_set (n := g.l.length) (j := 0) [] hpos
  simpa using this
 repeat' (first | refine Gx rfl ?_ | ((first | refine G_reg ?_ | refine G_regv ?_ | refine VO_chk ?_ | refine VO_go ?_ | refine VO_gx ?_ | refine G_cond ?_); simp only [hs0,go_sem]) | refine VO_end ?_ | refine Sh.intro ?_ | refine ⟨hl0,?_⟩ | refine ⟨_,⟨hg0,Nat.le_refl _⟩,Sh.intro ?_⟩ | refine ⟨inK_one,?_⟩ | refine And.intro (fun _ => ?_) (fun _ => ?_) | ((first | refine G_fin ?_ | refine G_ret rfl ?_); simp only [hs0,or_self,Qs,Qt,Qu,Qv,Qw,Qx,Qy,Qz,Za,go_sem]))
 refine Or.inr (Or.inr ⟨[0,1],.one (.clo (.func 139) [.ptr 2 0]),[.row 1 0 (ints (cnt g.l.length [0])),ctC g,.cells [.ptr 1 0]],(by simp only [CallR,rnVs,rnV,rnA,rnAs,rn0,rn0s,posN,rnCs,rnC,getC,List.isEmpty_nil,reduceCtorEq,↓reduceIte,Qa,Qb,Qc,Qd,Qe,Qf,Qg,Qh,Qi,Qj,Qk,Ql,Qm,Qn,Qo,Qp,Qq,Qr]; simp only [go_sem]; exact ⟨f115_ok,places_c _ _ _ _⟩),Sh.intro ?_⟩)
 simp only [go_sem]
 repeat' (first | refine Gx rfl ?_ | ((first | refine G_reg ?_ | refine G_regv ?_ | refine VO_chk ?_ | refine VO_go ?_ | refine VO_gx ?_ | refine G_cond ?_); simp only [go_sem]) | refine VO_end ?_ | refine Sh.intro ?_ | refine And.intro (fun _ => ?_) (fun _ => ?_) | ((first | refine G_fin ?_ | refine G_ret rfl ?_); simp only [or_self,Qs,Qt,Qu,Qv,Qw,Qx,Qy,Qz,Za,go_sem]))
 refine G_rf (f2 := 139) (caps := [.one (.ptr 3 0)]) (fun pd own' => pd = none /\ ∃ rest,own' = .row 1 0 (ints (usesL g)) :: ctC g :: .cells [.ptr 1 0] :: rest) rfl ?_ f139_ok ?_ ?_ ?_
 ·intro y; simp only [go_sem]
 ·rintro b rc hps ⟨hs,hta,htb⟩
  refine f139_tri ?_
  simp only [go_sem]
  repeat' (first | refine Gx rfl ?_ | ((first | refine G_reg ?_ | refine G_regv ?_ | refine VO_chk ?_ | refine VO_go ?_ | refine VO_gx ?_ | refine G_cond ?_); simp only [go_sem]) | refine VO_end ?_ | refine Sh.intro ?_ | refine And.intro (fun _ => ?_) (fun _ => ?_) | ((first | refine G_fin ?_ | refine G_ret rfl ?_); simp only [or_self,Qs,Qt,Qu,Qv,Qw,Qx,Qy,Qz,Za,go_sem]))
  rw [show Ch.row 1 0 (ints (cnt g.l.length [0])) = Ch.row 1 0 (ints (cnt g.l.length (0 :: (g.l.take 0).flatMap Nd.kids))) from rfl]
  refine G_weak (fr 33 [(0,.one (.d (.raw (.func (.yield b) #[] #[])))),(1,.one (.ptr 3 0)),(11,.one (.d (.sl (nds g.l)))),(12,vi g.l.length),(13,vi (0 : Nat))]) (by (simp only [go_sem]; repeat' (first | refine And.intro ?_ ?_ | exact Or.inl rfl | exact Or.inr rfl | rfl))) ?_
  refine G_loop (fun mz sz => ∃ i : Nat,i <= g.l.length /\ mz = g.l.length - i /\ (0 <= i) /\ sz = ⟨fr 33 [(0,.one (.d (.raw (.func (.yield b) #[] #[])))),(1,.one (.ptr 3 0)),(11,.one (.d (.sl (nds g.l)))),(12,vi g.l.length),(13,vi i)],[.row 1 0 (ints (cnt g.l.length (0 :: (g.l.take i).flatMap Nd.kids))),ctC g,.cells [.ptr 1 0],.cells [.ptr 1 0],.dead,.lp b _ rc .ready none]⟩) (g.l.length) ⟨0,Nat.zero_le _,(Nat.sub_zero _).symm,?_,rfl⟩ ?_
  ·exact Nat.zero_le _
  rintro _ _ ⟨i,hi,rfl,-,rfl⟩
  simp only [go_sem]
  by_cases hil : i < g.l.length
  ·obtain ⟨x,hx⟩ := at_lt hil
   have hxm := List.mem_of_getElem? hx
   have hxk := (hsm x hxm).2
   have hdl : ((g.l.take i).flatMap Nd.kids).length <= 12 * (g.l.take i).length := flat_small fun y hy => (hsm y (List.mem_of_mem_take hy)).2
   have htl : (g.l.take i).length <= 200 := by simp; omega
   have hnext : (g.l.take (i + 1)).flatMap Nd.kids = (g.l.take i).flatMap Nd.kids ++ x.kids := by rw [List.take_succ,hx]; simp
   generalize (g.l.take i).flatMap Nd.kids = done at *
   repeat' (first | refine Gx rfl ?_ | ((first | refine G_reg ?_ | refine G_regv ?_ | refine VO_chk ?_ | refine VO_go ?_ | refine VO_gx ?_ | refine G_cond ?_); simp only [go_sem]) | refine VO_end ?_ | refine Sh.intro ?_ | refine ⟨_,⟨Int.natCast_nonneg _,(by first | exact map_at hx | (rw [Int.toNat_natCast]; exact map_at hx)),rfl⟩,Sh.intro ?_⟩ | (refine And.intro (fun _ => ?_) (fun _ => ?_) <;> try (exfalso; omega)) | ((first | refine G_fin ?_ | refine G_ret rfl ?_); simp only [or_self,Qs,Qt,Qu,Qv,Qw,Qx,Qy,Qz,Za,go_sem]))
   rw [show Ch.row 1 0 (ints (cnt g.l.length (0 :: done))) = Ch.row 1 0 (ints (cnt g.l.length (0 :: (done ++ x.kids.take 0)))) from by simp]
   refine G_weak (fr 33 [(0,.one (.d (.raw (.func (.yield b) #[] #[])))),(1,.one (.ptr 3 0)),(3,vi i),(4,.one (.ptr 6 0)),(11,.one (.d (.sl (nds g.l)))),(12,vi g.l.length),(13,vi i),(19,.one (.d (.sl (ints x.kids)))),(20,vi x.kids.length),(21,vi (0 : Nat))]) (by (simp only [go_sem]; repeat' (first | refine And.intro ?_ ?_ | exact Or.inl rfl | exact Or.inr rfl | rfl))) ?_
   refine G_loop (fun mz sz => ∃ j : Nat,j <= x.kids.length /\ mz = x.kids.length - j /\ (0 <= j) /\ sz = ⟨fr 33 [(0,.one (.d (.raw (.func (.yield b) #[] #[])))),(1,.one (.ptr 3 0)),(3,vi i),(4,.one (.ptr 6 0)),(11,.one (.d (.sl (nds g.l)))),(12,vi g.l.length),(13,vi i),(19,.one (.d (.sl (ints x.kids)))),(20,vi x.kids.length),(21,vi j)],[.row 1 0 (ints (cnt g.l.length (0 :: (done ++ x.kids.take j)))),ctC g,.cells [.ptr 1 0],.cells [.ptr 1 0],.dead,.lp b _ rc .ready none,.cells x.as]⟩) (x.kids.length) ⟨0,Nat.zero_le _,(Nat.sub_zero _).symm,?_,rfl⟩ ?_
   ·exact Nat.zero_le _
   rintro _ _ ⟨j,hj,rfl,-,rfl⟩
   simp only [go_sem]
   by_cases hkl : j < x.kids.length
   ·obtain ⟨y,hy⟩ := at_lt hkl
    have hyr := hfi y (List.mem_flatMap.2 ⟨x,hxm,List.mem_of_getElem? hy⟩)
    obtain ⟨m,rfl⟩ := Int.eq_ofNat_of_zero_le hyr.1
    have hmn : m < g.l.length := by omega
    have hml : m < (cnt g.l.length (0 :: (done ++ x.kids.take j))).length := by rw [cnt_len]; exact hmn
    have hgm := cnt_get (0 :: (done ++ x.kids.take j)) hmn
    have hsm2 : (ints (cnt g.l.length (0 :: (done ++ x.kids.take j)))).set m [.int .i64 ((((0 :: (done ++ x.kids.take j)).count (m : Int) : Nat) : Int) + 1)] = ints (cnt g.l.length (0 :: (done ++ x.kids.take (j + 1)))) := by
     rw [cnt_set _ hmn,<- take_snoc hy]; simp
    have hkc := inK_cnt (ks := 0 :: (done ++ x.kids.take j)) (j := (m : Int)) (by simp; omega)
    repeat' (first | refine Gx rfl ?_ | ((first | refine G_reg ?_ | refine G_regv ?_ | refine VO_chk ?_ | refine VO_go ?_ | refine VO_gx ?_ | refine G_cond ?_); simp only [go_sem]) | refine VO_end ?_ | refine Sh.intro ?_ | refine ⟨_,⟨Int.natCast_nonneg _,(by first | exact map_at hy | (rw [Int.toNat_natCast]; exact map_at hy)),rfl⟩,Sh.intro ?_⟩ | (refine And.intro (fun _ => ?_) (fun _ => ?_) <;> try (exfalso; omega)) | ((first | refine G_fin ?_ | refine G_ret rfl ?_); simp only [or_self,Qs,Qt,Qu,Qv,Qw,Qx,Qy,Qz,Za,go_sem]))
    refine ⟨[.row 1 0 (ints (cnt g.l.length (0 :: (done ++ x.kids.take (j + 1))))),ctC g,.cells [.ptr 1 0],.cells [.ptr 1 0],.dead,.lp b _ rc .ready none,.cells x.as,.cells [.d (.int .i64 i),.d (.int .i64 m)]],true,by simp,⟨5,_,rc,hs,_,_,[.row 1 0 (ints (cnt g.l.length (0 :: (done ++ x.kids.take (j + 1))))),ctC g,.cells [.ptr 1 0],.cells [.ptr 1 0],.dead,.dead,.cells x.as,.cells [.d (.int .i64 i),.d (.int .i64 m)]],none,rfl,by rw [<- Array.length_toList,hps]; rfl,hta,htb,?_,rfl,rfl⟩,Sh.intro ?_⟩
    ·rw [hps]
     simp only [go_sem]
     repeat' (first | refine Gx rfl ?_ | ((first | refine G_reg ?_ | refine G_regv ?_ | refine VO_chk ?_ | refine VO_go ?_ | refine VO_gx ?_ | refine G_cond ?_); simp only [go_sem]) | refine VO_end ?_ | refine Sh.intro ?_ | refine And.intro (fun _ => ?_) (fun _ => ?_) | ((first | refine G_fin ?_ | refine G_ret rfl ?_); simp only [or_self,Qs,Qt,Qu,Qv,Qw,Qx,Qy,Qz,Za,go_sem]))
     refine G_rnd ⟨rfl,?_⟩
     repeat' (first | refine Gx rfl ?_ | ((first | refine G_reg ?_ | refine G_regv ?_ | refine VO_chk ?_ | refine VO_go ?_ | refine VO_gx ?_ | refine G_cond ?_); simp only [go_sem]) | refine VO_end ?_ | refine Sh.intro ?_ | refine ⟨Int.natCast_nonneg _,hml,?_⟩ | refine ⟨_,⟨hgm,Nat.le_refl _⟩,Sh.intro ?_⟩ | refine ⟨hkc,?_⟩ | refine And.intro (fun _ => ?_) (fun _ => ?_) | ((first | refine G_fin ?_ | refine G_ret rfl ?_); simp only [or_self,Qs,Qt,Qu,Qv,Qw,Qx,Qy,Qz,Za,go_sem]))
     exact G_rnd ⟨⟨rfl,rfl⟩,by rw [<- hsm2]; rfl⟩
    ·simp only [go_sem]
     repeat' (first | refine Gx rfl ?_ | ((first | refine G_reg ?_ | refine G_regv ?_ | refine VO_chk ?_ | refine VO_go ?_ | refine VO_gx ?_ | refine G_cond ?_); simp only [go_sem]) | refine VO_end ?_ | refine Sh.intro ?_ | refine And.intro (fun _ => ?_) (fun _ => ?_) | ((first | refine G_fin ?_ | refine G_ret rfl ?_); simp only [or_self,Qs,Qt,Qu,Qv,Qw,Qx,Qy,Qz,Za,go_sem]))
     refine ⟨inK_nat hkl (by unfold lenMax; omega),?_⟩
     refine G_weak (fr 33 [(0,.one (.d (.raw (.func (.yield b) #[] #[])))),(1,.one (.ptr 3 0)),(3,vi i),(4,.one (.ptr 6 0)),(11,.one (.d (.sl (nds g.l)))),(12,vi g.l.length),(13,vi i),(19,.one (.d (.sl (ints x.kids)))),(20,vi x.kids.length),(21,vi (j + 1))]) (by (simp only [go_sem]; repeat' (first | refine And.intro ?_ ?_ | exact Or.inl rfl | exact Or.inr rfl | rfl))) ?_
     refine G_drop 7 (by simp only [List.length_nil,List.length_cons]; decide) (by simp only [go_sem]) (by simp only [go_sem]) ?_
     simp only [go_sem]
     refine G_again ⟨x.kids.length - (j + 1),by omega,j + 1,by omega,rfl,?_,rfl⟩
     exact Nat.zero_le _
   ·obtain rfl : x.kids.length = j := by omega
    rw [List.take_of_length_le (Nat.le_refl x.kids.length)]
    repeat' (first | refine Gx rfl ?_ | ((first | refine G_reg ?_ | refine G_regv ?_ | refine VO_chk ?_ | refine VO_go ?_ | refine VO_gx ?_ | refine G_cond ?_); simp only [go_sem]) | refine VO_end ?_ | refine Sh.intro ?_ | (refine And.intro (fun _ => ?_) (fun _ => ?_) <;> try (exfalso; omega)) | ((first | refine G_fin ?_ | refine G_ret rfl ?_); simp only [or_self,Qs,Qt,Qu,Qv,Qw,Qx,Qy,Qz,Za,go_sem]))
    refine ⟨inK_nat hil (by unfold lenMax; omega),?_⟩
    refine G_weak (fr 33 [(0,.one (.d (.raw (.func (.yield b) #[] #[])))),(1,.one (.ptr 3 0)),(11,.one (.d (.sl (nds g.l)))),(12,vi g.l.length),(13,vi (i + 1))]) (by (simp only [go_sem]; repeat' (first | refine And.intro ?_ ?_ | exact Or.inl rfl | exact Or.inr rfl | rfl))) ?_
    refine G_drop 6 (by simp only [List.length_nil,List.length_cons]; decide) (by simp only [go_sem]) (by simp only [go_sem]) ?_
    simp only [go_sem]
    refine G_again ⟨g.l.length - (i + 1),by omega,i + 1,by omega,rfl,?_,by rw [hnext]; rfl⟩
    exact Nat.zero_le _
  ·obtain rfl : g.l.length = i := by omega
   rw [List.take_of_length_le (Nat.le_refl g.l.length)]
   repeat' (first | refine Gx rfl ?_ | ((first | refine G_reg ?_ | refine G_regv ?_ | refine VO_chk ?_ | refine VO_go ?_ | refine VO_gx ?_ | refine G_cond ?_); simp only [go_sem]) | refine VO_end ?_ | refine Sh.intro ?_ | (refine And.intro (fun _ => ?_) (fun _ => ?_) <;> try (exfalso; omega)) | ((first | refine G_fin ?_ | refine G_ret rfl ?_); simp only [or_self,Qs,Qt,Qu,Qv,Qw,Qx,Qy,Qz,Za,go_sem]))
   exact ⟨.ready,none,rfl,by simp,rfl,_,rfl,rfl⟩
 ·rintro own' ⟨_,rest,rfl⟩
  simp only [go_sem]
  repeat refine Gw rfl ?_
  refine G_reg ?_
  simp only [go_sem]
  refine G_weak (fr 29 [(2,.one (.own 0 0))]) (by (simp only [go_sem]; repeat' (first | refine And.intro ?_ ?_ | exact Or.inl rfl | exact Or.inr rfl | rfl))) ?_
  refine G_drop 2 (by simp only [List.length_nil,List.length_cons]; decide) (by simp only [go_sem]) (by simp only [go_sem]) ?_
  simp only [go_sem]
  refine G_ret rfl ?_
  simp only [or_self,Qs,Qt,Qu,Qv,Qw,Qx,Qy,Qz,Za,go_sem]
 ·rintro _ _ ⟨h,_⟩; cases h
end Go.Fw.L07
namespace Go.Fw.L07
open Go Go.Fw
open Go.Proofs.Tryz renaming prog -> QP
open Nat renaming reduceAdd -> Qa,reduceSub -> Qb,reduceMul -> Qc,reduceLeDiff -> Qd,reduceLT -> Qe,reduceEqDiff -> Qf
open Int renaming reduceToNat -> Qg,reduceLT -> Qh,reduceLE -> Qi,reduceGT -> Qj,reduceGE -> Qk,reduceEq -> Ql,reduceNe -> Qm,reduceBEq -> Qn,reduceBNe -> Qo,reduceAdd -> Qp,reduceSub -> Qq,reduceNeg -> Qr
open Go.Fw.V.one renaming injEq -> Qs
open Go.Fw.V.agg renaming injEq -> Qt
open Go.Fw.V.tup renaming injEq -> Qu
open Go.Fw.A.d renaming injEq -> Qv
open Go.Fw.D.bool renaming injEq -> Qw
open Go.Fw.D.int renaming injEq -> Qx
open Go.Fw.D.str renaming injEq -> Qy
open Go.Fw.D.sl renaming injEq -> Qz
open List.cons renaming injEq -> Za
set_option maxRecDepth 4000
variable {gp : Heap}
theorem uses_g (h : Env gp) {g : Gr} (hg : Tdy g) : Does QP gp 47 [g.v] (.tup [.one (.d (.sl (ints (usesL g)))),vi 0]) := by
 refine f47_in ?_
 simp only [go_sem]
 repeat' (first | refine Gx rfl ?_ | ((first | refine G_reg ?_ | refine G_regv ?_ | refine VO_chk ?_ | refine VO_go ?_ | refine VO_gx ?_ | refine G_cond ?_); simp only [go_sem]) | refine VO_end ?_ | refine Sh.intro ?_ | refine And.intro (fun _ => ?_) (fun _ => ?_) | ((first | refine G_fin ?_ | refine G_ret rfl ?_); simp only [or_self,Qs,Qt,Qu,Qv,Qw,Qx,Qy,Qz,Za,go_sem]))
 refine G_hint 8 ?_
 simp only [go_sem]
 repeat' (first | refine Gx rfl ?_ | ((first | refine G_reg ?_ | refine G_regv ?_ | refine VO_chk ?_ | refine VO_go ?_ | refine VO_gx ?_ | refine G_cond ?_); simp only [f47_r1,go_sem]) | refine VO_end ?_ | refine Sh.intro ?_ | refine And.intro (fun _ => ?_) (fun _ => ?_) | ((first | refine G_fin ?_ | refine G_ret rfl ?_); simp only [f47_r1,or_self,Qs,Qt,Qu,Qv,Qw,Qx,Qy,Qz,Za,go_sem]))
 refine Or.inr ⟨[],.tup [.one (.ptr 1 0),vi 0],[.row 1 0 (ints (cnt g.l.length [])),ctC g],(by simp only [CallR,rnVs,rnV,rnA,rnAs,rn0,rn0s,posN,rnCs,rnC,getC,List.isEmpty_nil,reduceCtorEq,↓reduceIte,Qa,Qb,Qc,Qd,Qe,Qf,Qg,Qh,Qi,Qj,Qk,Ql,Qm,Qn,Qo,Qp,Qq,Qr]; simp only [go_sem]; exact ⟨f84_ok,of_tidy h hg⟩),Sh.intro ?_⟩
 simp only [go_sem]
 repeat' (first | refine Gx rfl ?_ | ((first | refine G_reg ?_ | refine G_regv ?_ | refine VO_chk ?_ | refine VO_go ?_ | refine VO_gx ?_ | refine G_cond ?_); simp only [f47_r1,go_sem]) | refine VO_end ?_ | refine Sh.intro ?_ | refine And.intro (fun _ => ?_) (fun _ => ?_) | ((first | refine G_fin ?_ | refine G_ret rfl ?_); simp only [f47_r1,or_self,Qs,Qt,Qu,Qv,Qw,Qx,Qy,Qz,Za,go_sem]))
 refine Or.inr (Or.inr ⟨[0,1],.one (.own 0 0),[.row 1 0 (ints (usesL g)),ctC g],(by simp only [CallR,rnVs,rnV,rnA,rnAs,rn0,rn0s,posN,rnCs,rnC,getC,List.isEmpty_nil,reduceCtorEq,↓reduceIte,Qa,Qb,Qc,Qd,Qe,Qf,Qg,Qh,Qi,Qj,Qk,Ql,Qm,Qn,Qo,Qp,Qq,Qr]; simp only [go_sem]; exact ⟨f85_ok,uses_c hg⟩),Sh.intro ?_⟩)
 simp only [go_sem]
 refine G_freeze 0 ?_
 simp only [go_sem]
 repeat' (first | refine Gx rfl ?_ | ((first | refine G_reg ?_ | refine G_regv ?_ | refine VO_chk ?_ | refine VO_go ?_ | refine VO_gx ?_ | refine G_cond ?_); simp only [f47_r1,go_sem]) | refine VO_end ?_ | refine Sh.intro ?_ | refine And.intro (fun _ => ?_) (fun _ => ?_) | ((first | refine G_fin ?_ | refine G_ret rfl ?_); simp only [f47_r1,or_self,Qs,Qt,Qu,Qv,Qw,Qx,Qy,Qz,Za,go_sem]))
theorem uses_bad (h : Env gp) {g : Gr} (hs : Small g) (hn : ¬ (chk g = none /\ g = tidyG g)) : Does QP gp 47 [g.v] (.tup [.one (.d (.sl [])),vi 72]) := by
 refine f47_in ?_
 simp only [go_sem]
 repeat' (first | refine Gx rfl ?_ | ((first | refine G_reg ?_ | refine G_regv ?_ | refine VO_chk ?_ | refine VO_go ?_ | refine VO_gx ?_ | refine G_cond ?_); simp only [f47_r1,go_sem]) | refine VO_end ?_ | refine Sh.intro ?_ | refine ⟨_,of_bad h hs hn,Sh.intro ?_⟩ | refine ⟨_,⟨of_bad h hs hn,rfl⟩,Sh.intro ?_⟩ | refine And.intro (fun _ => ?_) (fun _ => ?_) | ((first | refine G_fin ?_ | refine G_ret rfl ?_); simp only [f47_r1,or_self,Qs,Qt,Qu,Qv,Qw,Qx,Qy,Qz,Za,go_sem]))
theorem anchored_c {g : Gr} {i : Nat} {x : Nd} (hx : g.l[i]? = some x) (hr : nodeR rightS x g.l.length = true) (n : Int) (v : Nat) (xs : List (List D)) : Tri QP gp 86 [.one (.ptr 1 0),vi i,vi n] [.row 1 v xs,ctC g] fun r post =>
  r = vb (ancP x n) /\ post = [.row 1 v xs,ctC g,.cells x.as] := by
 refine f86_tri ?_
 simp only [go_sem]
 repeat' (first | refine Gx rfl ?_ | ((first | refine G_reg ?_ | refine G_regv ?_ | refine VO_chk ?_ | refine VO_go ?_ | refine VO_gx ?_ | refine G_cond ?_); simp only [go_sem]) | refine VO_end ?_ | refine Sh.intro ?_ | refine ⟨_,may_stand,Sh.intro ?_⟩ | refine ⟨_,⟨may_stand,rfl⟩,Sh.intro ?_⟩ | refine ⟨_,⟨Int.natCast_nonneg _,(by first | exact map_at hx | (rw [Int.toNat_natCast]; exact map_at hx)),rfl⟩,Sh.intro ?_⟩ | refine And.intro (fun _ => ?_) (fun _ => ?_) | ((first | refine G_fin ?_ | refine G_ret rfl ?_); simp only [or_self,Qs,Qt,Qu,Qv,Qw,Qx,Qy,Qz,Za,go_sem]))
 rcases kind_right hr with hk | hk | hk
 ·have hp : ancP x n = false := by simp [ancP,(one_right hr hk).2]
  rw [hp]
  refine ⟨0,_,⟨hk,by decide,rfl⟩,Sh.intro ?_⟩
  repeat' (first | refine Gx rfl ?_ | ((first | refine G_reg ?_ | refine G_regv ?_ | refine VO_chk ?_ | refine VO_go ?_ | refine VO_gx ?_ | refine G_cond ?_); simp only [go_sem]) | refine VO_end ?_ | refine Sh.intro ?_ | refine And.intro (fun _ => ?_) (fun _ => ?_) | ((first | refine G_fin ?_ | refine G_ret rfl ?_); simp only [or_self,Qs,Qt,Qu,Qv,Qw,Qx,Qy,Qz,Za,go_sem]))
 ·have hp : ancP x n = (decide (x.kids ≠ []) && decide (n > 1)) := rfl
  refine ⟨1,_,⟨hk,by decide,rfl⟩,Sh.intro ?_⟩
  repeat' (first | refine Gx rfl ?_ | ((first | refine G_reg ?_ | refine G_regv ?_ | refine VO_chk ?_ | refine VO_go ?_ | refine VO_gx ?_ | refine G_cond ?_); simp only [go_sem]) | refine VO_end ?_ | refine Sh.intro ?_ | refine And.intro (fun _ => ?_) (fun _ => ?_) | ((first | refine G_fin ?_ | refine G_ret rfl ?_); simp only [or_self,Qs,Qt,Qu,Qv,Qw,Qx,Qy,Qz,Za,go_sem]))
  all_goals (rw [hp]; rename_i h; cases hkk : x.kids <;> simp_all)
  all_goals omega
 ·have hp : ancP x n = (decide (x.kids ≠ []) && decide (n > 1)) := rfl
  refine ⟨2,_,⟨hk,by decide,rfl⟩,Sh.intro ?_⟩
  repeat' (first | refine Gx rfl ?_ | ((first | refine G_reg ?_ | refine G_regv ?_ | refine VO_chk ?_ | refine VO_go ?_ | refine VO_gx ?_ | refine G_cond ?_); simp only [go_sem]) | refine VO_end ?_ | refine Sh.intro ?_ | refine And.intro (fun _ => ?_) (fun _ => ?_) | ((first | refine G_fin ?_ | refine G_ret rfl ?_); simp only [or_self,Qs,Qt,Qu,Qv,Qw,Qx,Qy,Qz,Za,go_sem]))
  all_goals (rw [hp]; rename_i h; cases hkk : x.kids <;> simp_all)
  all_goals omega
end Go.Fw.L07
namespace Go.Fw.L07
open Go Go.Fw
open Go.Proofs.Tryz renaming prog -> QP
open Nat renaming reduceAdd -> Qa,reduceSub -> Qb,reduceMul -> Qc,reduceLeDiff -> Qd,reduceLT -> Qe,reduceEqDiff -> Qf
open Int renaming reduceToNat -> Qg,reduceLT -> Qh,reduceLE -> Qi,reduceGT -> Qj,reduceGE -> Qk,reduceEq -> Ql,reduceNe -> Qm,reduceBEq -> Qn,reduceBNe -> Qo,reduceAdd -> Qp,reduceSub -> Qq,reduceNeg -> Qr
open Go.Fw.V.one renaming injEq -> Qs
open Go.Fw.V.agg renaming injEq -> Qt
open Go.Fw.V.tup renaming injEq -> Qu
open Go.Fw.A.d renaming injEq -> Qv
open Go.Fw.D.bool renaming injEq -> Qw
open Go.Fw.D.int renaming injEq -> Qx
open Go.Fw.D.str renaming injEq -> Qy
open Go.Fw.D.sl renaming injEq -> Qz
open List.cons renaming injEq -> Za
set_option maxRecDepth 4000
variable {gp : Heap}
abbrev mp (ms : List Int) : List (V × V) := ms.map fun a => (vi a,vb true)
theorem mp_refs (ms : List Int) : (Ch.map (mp ms)).refs = [] := by
 simp only [Ch.refs]
 rw [List.flatMap_eq_nil_iff]
 intro e he
 obtain ⟨a,_,rfl⟩ := List.mem_map.1 he
 rfl
theorem anchors_g (h : Env gp) {g : Gr} (hg : Tdy g) : Does QP gp 49 [g.v] (.tup [.one (.d (.sl (ints (ancL g)))),vi 0]) := by
 refine f49_in ?_
 simp only [go_sem]
 repeat' (first | refine Gx rfl ?_ | ((first | refine G_reg ?_ | refine G_regv ?_ | refine VO_chk ?_ | refine VO_go ?_ | refine VO_gx ?_ | refine G_cond ?_); simp only [go_sem]) | refine VO_end ?_ | refine Sh.intro ?_ | refine And.intro (fun _ => ?_) (fun _ => ?_) | ((first | refine G_fin ?_ | refine G_ret rfl ?_); simp only [or_self,Qs,Qt,Qu,Qv,Qw,Qx,Qy,Qz,Za,go_sem]))
 refine G_hint 13 ?_
 simp only [go_sem]
 repeat' (first | refine Gx rfl ?_ | ((first | refine G_reg ?_ | refine G_regv ?_ | refine VO_chk ?_ | refine VO_go ?_ | refine VO_gx ?_ | refine G_cond ?_); simp only [f49_r1,go_sem]) | refine VO_end ?_ | refine Sh.intro ?_ | refine And.intro (fun _ => ?_) (fun _ => ?_) | ((first | refine G_fin ?_ | refine G_ret rfl ?_); simp only [f49_r1,or_self,Qs,Qt,Qu,Qv,Qw,Qx,Qy,Qz,Za,go_sem]))
 refine Or.inr ⟨[],.tup [.one (.ptr 1 0),vi 0],[.row 1 0 (ints (cnt g.l.length [])),ctC g],(by simp only [CallR,rnVs,rnV,rnA,rnAs,rn0,rn0s,posN,rnCs,rnC,getC,List.isEmpty_nil,reduceCtorEq,↓reduceIte,Qa,Qb,Qc,Qd,Qe,Qf,Qg,Qh,Qi,Qj,Qk,Ql,Qm,Qn,Qo,Qp,Qq,Qr]; simp only [go_sem]; exact ⟨f84_ok,of_tidy h hg⟩),Sh.intro ?_⟩
 simp only [go_sem]
 repeat' (first | refine Gx rfl ?_ | ((first | refine G_reg ?_ | refine G_regv ?_ | refine VO_chk ?_ | refine VO_go ?_ | refine VO_gx ?_ | refine G_cond ?_); simp only [f49_r1,go_sem]) | refine VO_end ?_ | refine Sh.intro ?_ | refine And.intro (fun _ => ?_) (fun _ => ?_) | ((first | refine G_fin ?_ | refine G_ret rfl ?_); simp only [f49_r1,or_self,Qs,Qt,Qu,Qv,Qw,Qx,Qy,Qz,Za,go_sem]))
 refine Or.inr (Or.inr ⟨[0,1],.one (.own 0 0),[.row 1 0 (ints (usesL g)),ctC g],(by simp only [CallR,rnVs,rnV,rnA,rnAs,rn0,rn0s,posN,rnCs,rnC,getC,List.isEmpty_nil,reduceCtorEq,↓reduceIte,Qa,Qb,Qc,Qd,Qe,Qf,Qg,Qh,Qi,Qj,Qk,Ql,Qm,Qn,Qo,Qp,Qq,Qr]; simp only [go_sem]; exact ⟨f85_ok,uses_c hg⟩),Sh.intro ?_⟩)
 simp only [go_sem]
 repeat' (first | refine Gx rfl ?_ | ((first | refine G_reg ?_ | refine G_regv ?_ | refine VO_chk ?_ | refine VO_go ?_ | refine VO_gx ?_ | refine G_cond ?_); simp only [f49_r1,go_sem]) | refine VO_end ?_ | refine Sh.intro ?_ | refine And.intro (fun _ => ?_) (fun _ => ?_) | ((first | refine G_fin ?_ | refine G_ret rfl ?_); simp only [f49_r1,or_self,Qs,Qt,Qu,Qv,Qw,Qx,Qy,Qz,Za,go_sem]))
 refine G_row0 8 1 (by decide) rfl ?_
 simp only [go_sem]
 have hul : (usesL g).length = g.l.length := cnt_len _ _
 have hgl := hg.good.len
 rw [show ancL g = (ancN g (usesL g) g.l.length).1 from rfl]
 generalize usesL g = us at *
 refine G_weak (fr 46 [(4,.one (.ptr 1 0)),(6,.one (.mvo (.func 86) false [.ptr 1 0])),(7,.one (.own 3 0)),(8,.one (.own 5 0)),(23,.one (.own 0 0)),(24,vi us.length),(25,vi ((0 : Nat) : Int))]) (by (simp only [go_sem]; repeat' (first | refine And.intro ?_ ?_ | exact Or.inl rfl | exact Or.inr rfl | rfl))) ?_
 refine G_loop (fun mz sz => ∃ (i : Nat) (ms : List Int),i <= us.length /\ mz = us.length - i /\ ms.length = (ancN g us i).2 /\ (∀ a ∈ ms,a < i) /\ ms.length <= i /\ sz = ⟨fr 46 [(4,.one (.ptr 1 0)),(6,.one (.mvo (.func 86) false [.ptr 1 0])),(7,.one (.own 3 0)),(8,.one (.own 5 i)),(23,.one (.own 0 0)),(24,vi us.length),(25,vi i)],[.row 1 0 (ints us),ctC g,.dead,.map (mp ms),.dead,.row 1 i (ints (ancN g us i).1)]⟩) _ ⟨0,[],Nat.zero_le _,rfl,rfl,by simp,Nat.le_refl _,rfl⟩ ?_
 rintro _ _ ⟨i,ms,hi,rfl,hml,hmi,hmn,rfl⟩
 simp only [go_sem]
 by_cases hil : i < us.length
 ·obtain ⟨n,hn⟩ := at_lt hil
  obtain ⟨x,hx⟩ := at_lt (l := g.l) (i := i) (by omega)
  have hr := (chk_ok hg.good.c).2.2 x (List.mem_of_getElem? hx)
  have hal := ancN_len (g := g) hul i (by omega)
  have hgn : (ints us)[i]? = some [.int .i64 n] := map_at hn
  have ha8 : ((ancN g us i).1.length + 1) * 8 <= 140737488355328 := by rw [hal]; omega
  have halm : (ancN g us i).1.length + 1 < lenMax := by rw [hal]; unfold lenMax; omega
  have hst : ancN g us (i + 1) = if ancP x n then ((ancN g us i).1 ++ [(((ancN g us i).2 + 1 : Nat) : Int)],(ancN g us i).2 + 1) else ((ancN g us i).1 ++ [0],(ancN g us i).2) := by
   simp only [ancN,hx,hn]
  have hcall := anchored_c (gp := gp) hx hr n 0 (ints us)
  repeat' (first | refine Gx rfl ?_ | ((first | refine G_reg ?_ | refine G_regv ?_ | refine VO_chk ?_ | refine VO_go ?_ | refine VO_gx ?_ | refine G_cond ?_); simp only [f49_r1,go_sem]) | refine VO_end ?_ | refine Sh.intro ?_ | refine ⟨Int.natCast_nonneg _,hil,?_⟩ | refine ⟨_,⟨hgn,Nat.le_refl _⟩,Sh.intro ?_⟩ | (refine And.intro (fun _ => ?_) (fun _ => ?_) <;> try (exfalso; omega)) | ((first | refine G_fin ?_ | refine G_ret rfl ?_); simp only [f49_r1,or_self,Qs,Qt,Qu,Qv,Qw,Qx,Qy,Qz,Za,go_sem]))
  refine Or.inr (Or.inr ⟨[0,1],vb (ancP x n),[.row 1 0 (ints us),ctC g,.cells x.as],(by simp only [CallR,rnVs,rnV,rnA,rnAs,rn0,rn0s,posN,rnCs,rnC,getC,List.isEmpty_nil,reduceCtorEq,↓reduceIte,Qa,Qb,Qc,Qd,Qe,Qf,Qg,Qh,Qi,Qj,Qk,Ql,Qm,Qn,Qo,Qp,Qq,Qr]; simp only [go_sem]; exact ⟨f86_ok,hcall⟩),Sh.intro ?_⟩)
  simp only [go_sem]
  cases hp : ancP x n with
  | true =>
   rw [hp] at hst
   have hput := putM_new (v := vb true) eqV_int ms (i : Int) (fun h => by have := hmi _ h; omega)
   repeat' (first | refine Gx rfl ?_ | ((first | refine G_reg ?_ | refine G_regv ?_ | refine VO_chk ?_ | refine VO_go ?_ | refine VO_gx ?_ | refine G_cond ?_); simp only [f49_r1,go_sem]) | refine VO_end ?_ | refine Sh.intro ?_ | refine ⟨_,hput,Sh.intro ?_⟩ | refine ⟨by simp,ha8,halm,?_⟩ | (refine And.intro (fun _ => ?_) (fun _ => ?_) <;> try (exfalso; omega)) | ((first | refine G_fin ?_ | refine G_ret rfl ?_); simp only [f49_r1,or_self,Qs,Qt,Qu,Qv,Qw,Qx,Qy,Qz,Za,go_sem]))
   rw [show ints (ancN g us i).1 ++ [[D.int .i64 (ms ++ [(i : Int)]).length]] = ints (ancN g us (i + 1)).1 from by rw [hst]; simp [ints,hml]]
   refine ⟨inK_nat hil (by unfold lenMax; omega),?_⟩
   refine G_weak (fr 46 [(4,.one (.ptr 1 0)),(6,.one (.mvo (.func 86) false [.ptr 1 0])),(7,.one (.own 3 0)),(8,.one (.own 5 (i + 1))),(23,.one (.own 0 0)),(24,vi us.length),(25,vi ((i + 1 : Nat) : Int))]) (by (simp only [go_sem]; repeat' (first | refine And.intro ?_ ?_ | exact Or.inl rfl | exact Or.inr rfl | rfl))) ?_
   refine G_drop 6 (by simp only [List.length_nil,List.length_cons]; decide) (by simp only [go_sem]) (by simp only [List.take_succ_cons,List.take_zero,List.all_cons,List.all_nil,mp_refs]; simp only [go_sem]) ?_
   simp only [go_sem]
   exact G_again ⟨us.length - (i + 1),by omega,i + 1,ms ++ [(i : Int)],by omega,rfl,by rw [hst]; simp [hml],fun a ha => by
    rcases List.mem_append.1 ha with ha | ha
    ·have := hmi a ha; omega
    ·simp at ha; omega,by simp; omega,rfl⟩
  | false =>
   rw [hp] at hst
   repeat' (first | refine Gx rfl ?_ | ((first | refine G_reg ?_ | refine G_regv ?_ | refine VO_chk ?_ | refine VO_go ?_ | refine VO_gx ?_ | refine G_cond ?_); simp only [f49_r1,go_sem]) | refine VO_end ?_ | refine Sh.intro ?_ | refine ⟨by simp,ha8,halm,?_⟩ | (refine And.intro (fun _ => ?_) (fun _ => ?_) <;> try (exfalso; omega)) | ((first | refine G_fin ?_ | refine G_ret rfl ?_); simp only [f49_r1,or_self,Qs,Qt,Qu,Qv,Qw,Qx,Qy,Qz,Za,go_sem]))
   rw [show ints (ancN g us i).1 ++ [[D.int .i64 0]] = ints (ancN g us (i + 1)).1 from by rw [hst]; simp [ints]]
   refine ⟨inK_nat hil (by unfold lenMax; omega),?_⟩
   refine G_weak (fr 46 [(4,.one (.ptr 1 0)),(6,.one (.mvo (.func 86) false [.ptr 1 0])),(7,.one (.own 3 0)),(8,.one (.own 5 (i + 1))),(23,.one (.own 0 0)),(24,vi us.length),(25,vi ((i + 1 : Nat) : Int))]) (by (simp only [go_sem]; repeat' (first | refine And.intro ?_ ?_ | exact Or.inl rfl | exact Or.inr rfl | rfl))) ?_
   refine G_drop 6 (by simp only [List.length_nil,List.length_cons]; decide) (by simp only [go_sem]) (by simp only [List.take_succ_cons,List.take_zero,List.all_cons,List.all_nil,mp_refs]; simp only [go_sem]) ?_
   simp only [go_sem]
   exact G_again ⟨us.length - (i + 1),by omega,i + 1,ms,by omega,rfl,by rw [hst]; exact hml,fun a ha => by have := hmi a ha; omega,by omega,rfl⟩
 ·obtain rfl : us.length = i := by omega
  rw [<- hul]
  refine G_freeze 5 ?_
  simp only [mp,go_sem]
  repeat' (first | refine Gx rfl ?_ | ((first | refine G_reg ?_ | refine G_regv ?_ | refine VO_chk ?_ | refine VO_go ?_ | refine VO_gx ?_ | refine G_cond ?_); simp only [f49_r1,go_sem]) | refine VO_end ?_ | refine Sh.intro ?_ | (refine And.intro (fun _ => ?_) (fun _ => ?_) <;> try (exfalso; omega)) | ((first | refine G_fin ?_ | refine G_ret rfl ?_); simp only [f49_r1,or_self,Qs,Qt,Qu,Qv,Qw,Qx,Qy,Qz,Za,go_sem]))
  all_goals trace_state
end Go.Fw.L07
namespace Go.Fw.L07
open Go Go.Fw
open Go.Proofs.Tryz renaming prog -> QP
open Nat renaming reduceAdd -> Qa,reduceSub -> Qb,reduceMul -> Qc,reduceLeDiff -> Qd,reduceLT -> Qe,reduceEqDiff -> Qf
open Int renaming reduceToNat -> Qg,reduceLT -> Qh,reduceLE -> Qi,reduceGT -> Qj,reduceGE -> Qk,reduceEq -> Ql,reduceNe -> Qm,reduceBEq -> Qn,reduceBNe -> Qo,reduceAdd -> Qp,reduceSub -> Qq,reduceNeg -> Qr
open Go.Fw.V.one renaming injEq -> Qs
open Go.Fw.V.agg renaming injEq -> Qt
open Go.Fw.V.tup renaming injEq -> Qu
open Go.Fw.A.d renaming injEq -> Qv
open Go.Fw.D.bool renaming injEq -> Qw
open Go.Fw.D.int renaming injEq -> Qx
open Go.Fw.D.str renaming injEq -> Qy
open Go.Fw.D.sl renaming injEq -> Qz
open List.cons renaming injEq -> Za
set_option maxRecDepth 4000
variable {gp : Heap}
theorem DepW.app {k : Int -> List Int} {d : Int} {t r a b c : List Int} (h : DepW k d t a b) (h' : DepW k d r b c) : DepW k d (t ++ r) a c := by
 induction h with
 | nil => exact h'
 | skip hx h0 _ ih => exact .skip hx h0 (ih h')
 | step hx h0 h1 _ _ ih => exact .step hx h0 h1 (ih h')
abbrev dBox : Ch := .cells [.ptr 1 0]
abbrev dClo : A := .clo (.func 87) [.ptr 2 0,.ptr 3 0]
theorem depth_hit {g : Gr} {m : Nat} {x d : Int} {a : List Int} (hx : a[m]? = some x) (h0 : 0 < x) :
  Tri QP gp 87 [vi m,vi d,.one (.ptr 2 0),.one (.ptr 3 0)] [.row 1 0 (ints a),ctC g,dBox,.cells [dClo]] fun r post =>
   r = .tup [] /\ post = [.row 1 0 (ints (depF (kd g) d [(m : Int)] a)),ctC g,dBox,.cells [dClo]] := by
 have hdep : depF (kd g) d [(m : Int)] a = a := (DepW.skip hx h0 (.nil d a)).eq
 rw [hdep]
 have hg1 : (ints a)[m]? = some [.int .i64 x] := map_at hx
 have hml : m < a.length := (List.getElem?_eq_some_iff.1 hx).1
 refine f87_tri ?_
 simp only [go_sem]
 repeat' (first | refine Gx rfl ?_ | ((first | refine G_reg ?_ | refine G_regv ?_ | refine VO_chk ?_ | refine VO_go ?_ | refine VO_gx ?_ | refine G_cond ?_); simp only [go_sem]) | refine VO_end ?_ | refine Sh.intro ?_ | refine ⟨Int.natCast_nonneg _,hml,?_⟩ | refine ⟨_,⟨hg1,Nat.le_refl _⟩,Sh.intro ?_⟩ | (refine And.intro (fun _ => ?_) (fun _ => ?_) <;> try (exfalso; omega)) | ((first | refine G_fin ?_ | refine G_ret rfl ?_); simp only [or_self,Qs,Qt,Qu,Qv,Qw,Qx,Qy,Qz,Za,go_sem]))
theorem depth_c {g : Gr} (hg : Tdy g) : ∀ (z : Nat) (d : Int) (i : Int) (a : List Int),zeros a <= z -> 0 < d -> d + z <= 1000 -> a.length = g.l.length -> 0 <= i /\ i < g.l.length ->
  Tri QP gp 87 [vi i,vi d,.one (.ptr 2 0),.one (.ptr 3 0)] [.row 1 0 (ints a),ctC g,dBox,.cells [dClo]] fun r post =>
   r = .tup [] /\ post = [.row 1 0 (ints (depF (kd g) d [i] a)),ctC g,dBox,.cells [dClo]] := by
 intro z
 induction z with
 | zero =>
  intro d i a hz hd hdz hl hi
  obtain ⟨m,rfl⟩ := Int.eq_ofNat_of_zero_le hi.1
  obtain ⟨x,hx⟩ := at_lt (l := a) (i := m) (by omega)
  by_cases h0 : 0 < x
  ·exact depth_hit hx h0
  ·have := zeros_set hx h0 hd
   omega
 | succ z ih =>
  intro d i a hz hd hdz hl hi
  obtain ⟨m,rfl⟩ := Int.eq_ofNat_of_zero_le hi.1
  obtain ⟨x,hx⟩ := at_lt (l := a) (i := m) (by omega)
  by_cases h0 : 0 < x
  ·exact depth_hit hx h0
  ·have hzs := zeros_set hx h0 hd
   obtain ⟨y,hy⟩ := at_lt (l := g.l) (i := m) (by omega)
   have hkd := hg.kd hy
   have hky := (hg.good.s y (List.mem_of_getElem? hy)).2
   have hkin : ∀ j ∈ y.kids,0 <= j /\ j < g.l.length := by rw [<- hkd]; exact hg.good.kid m
   have ex : ∀ t,(∀ j ∈ t,0 <= j /\ j < (g.l.length : Int)) -> DepW (kd g) (d + 1) t (a.set m d) (depF (kd g) (d + 1) t (a.set m d)) /\ zeros (depF (kd g) (d + 1) t (a.set m d)) <= z := fun t ht => by
    obtain ⟨b,hb,hzb⟩ := dep_ex (k := kd g) (n := g.l.length) hg.good.kid _ (d + 1) t (a.set m d) (Nat.le_refl _) (by omega) (by simp [hl]) ht
    rw [hb.eq]
    exact ⟨hb,by omega⟩
   have hfin : depF (kd g) d [(m : Int)] a = depF (kd g) (d + 1) y.kids (a.set m d) := by
    have h1 := (ex y.kids hkin).1
    rw [<- hkd] at h1 ⊢
    exact (DepW.step hx h0 h1 (.nil d _)).eq
   rw [hfin]
   have hg1 : (ints a)[m]? = some [.int .i64 x] := map_at hx
   have hml : m < a.length := by omega
   have hset : (ints a).set m [.int .i64 d] = ints (a.set m d) := ints_set a m d
   have hd1 : inK .i64 (d + 1) := by simp [inK,IntKind.min,IntKind.max,IntKind.signed,IntKind.bits]; omega
   refine f87_tri ?_
   simp only [go_sem]
   repeat' (first | refine Gx rfl ?_ | ((first | refine G_reg ?_ | refine G_regv ?_ | refine VO_chk ?_ | refine VO_go ?_ | refine VO_gx ?_ | refine G_cond ?_); simp only [hset,go_sem]) | refine VO_end ?_ | refine Sh.intro ?_ | refine ⟨_,⟨Int.natCast_nonneg _,(by first | exact map_at hy | (rw [Int.toNat_natCast]; exact map_at hy)),rfl⟩,Sh.intro ?_⟩ | refine ⟨Int.natCast_nonneg _,hml,?_⟩ | refine ⟨_,⟨hg1,Nat.le_refl _⟩,Sh.intro ?_⟩ | (refine And.intro (fun _ => ?_) (fun _ => ?_) <;> try (exfalso; omega)) | ((first | refine G_fin ?_ | refine G_ret rfl ?_); simp only [hset,or_self,Qs,Qt,Qu,Qv,Qw,Qx,Qy,Qz,Za,go_sem]))
   rw [show Ch.row 1 0 (ints (a.set m d)) = Ch.row 1 0 (ints (depF (kd g) (d + 1) (y.kids.take 0) (a.set m d))) from by rw [List.take_zero,(DepW.nil (k := kd g) (d + 1) (a.set m d)).eq]]
   refine G_weak (fr 43 [(0,vi m),(1,vi d),(2,.one (.ptr 2 0)),(3,.one (.ptr 3 0)),(31,.one (.d (.sl (ints y.kids)))),(32,vi y.kids.length),(33,vi (0 : Nat))]) (by (simp only [go_sem]; repeat' (first | refine And.intro ?_ ?_ | exact Or.inl rfl | exact Or.inr rfl | rfl))) ?_
   refine G_loop (fun mz sz => ∃ i : Nat,i <= y.kids.length /\ mz = y.kids.length - i /\ (0 <= i) /\ sz = ⟨fr 43 [(0,vi m),(1,vi d),(2,.one (.ptr 2 0)),(3,.one (.ptr 3 0)),(31,.one (.d (.sl (ints y.kids)))),(32,vi y.kids.length),(33,vi i)],[.row 1 0 (ints (depF (kd g) (d + 1) (y.kids.take i) (a.set m d))),ctC g,dBox,.cells [dClo]]⟩) (y.kids.length) ⟨0,Nat.zero_le _,(Nat.sub_zero _).symm,?_,rfl⟩ ?_
   ·exact Nat.zero_le _
   rintro _ _ ⟨i,hi2,rfl,-,rfl⟩
   simp only [go_sem]
   by_cases hil : i < y.kids.length
   ·obtain ⟨c,hc⟩ := at_lt hil
    obtain ⟨e1,e2⟩ := ex (y.kids.take i) fun j hj => hkin j (List.mem_of_mem_take hj)
    obtain ⟨f1,f2⟩ := ex (y.kids.take (i + 1)) fun j hj => hkin j (List.mem_of_mem_take hj)
    have hstep : depF (kd g) (d + 1) [c] (depF (kd g) (d + 1) (y.kids.take i) (a.set m d)) = depF (kd g) (d + 1) (y.kids.take (i + 1)) (a.set m d) := by
     obtain ⟨b,hb,_⟩ := dep_ex (k := kd g) (n := g.l.length) hg.good.kid _ (d + 1) [c] (depF (kd g) (d + 1) (y.kids.take i) (a.set m d)) (Nat.le_refl _) (by omega) (by rw [e1.len]; simp [hl]) (by simpa using hkin c (List.mem_of_getElem? hc))
     have := e1.app hb
     rw [take_snoc hc] at this
     rw [this.eq,hb.eq]
    have hcall := ih (d + 1) c (depF (kd g) (d + 1) (y.kids.take i) (a.set m d)) e2 (by omega) (by omega) (by rw [e1.len]; simp [hl]) (hkin c (List.mem_of_getElem? hc))
    rw [hstep] at hcall
    repeat' (first | refine Gx rfl ?_ | ((first | refine G_reg ?_ | refine G_regv ?_ | refine VO_chk ?_ | refine VO_go ?_ | refine VO_gx ?_ | refine G_cond ?_); simp only [go_sem]) | refine VO_end ?_ | refine Sh.intro ?_ | refine ⟨_,⟨Int.natCast_nonneg _,(by first | exact map_at hc | (rw [Int.toNat_natCast]; exact map_at hc)),rfl⟩,Sh.intro ?_⟩ | refine ⟨hd1,?_⟩ | (refine And.intro (fun _ => ?_) (fun _ => ?_) <;> try (exfalso; omega)) | ((first | refine G_fin ?_ | refine G_ret rfl ?_); simp only [or_self,Qs,Qt,Qu,Qv,Qw,Qx,Qy,Qz,Za,go_sem]))
    refine Or.inr (Or.inr ⟨[0,1,2,3],.tup [],[.row 1 0 (ints (depF (kd g) (d + 1) (y.kids.take (i + 1)) (a.set m d))),ctC g,dBox,.cells [dClo]],(by simp only [CallR,rnVs,rnV,rnA,rnAs,rn0,rn0s,posN,rnCs,rnC,getC,List.isEmpty_nil,reduceCtorEq,↓reduceIte,Qa,Qb,Qc,Qd,Qe,Qf,Qg,Qh,Qi,Qj,Qk,Ql,Qm,Qn,Qo,Qp,Qq,Qr]; simp only [go_sem]; exact ⟨f87_ok,hcall⟩),Sh.intro ?_⟩)
    simp only [go_sem]
    repeat' (first | refine Gx rfl ?_ | ((first | refine G_reg ?_ | refine G_regv ?_ | refine VO_chk ?_ | refine VO_go ?_ | refine VO_gx ?_ | refine G_cond ?_); simp only [go_sem]) | refine VO_end ?_ | refine Sh.intro ?_ | (refine And.intro (fun _ => ?_) (fun _ => ?_) <;> try (exfalso; omega)) | ((first | refine G_fin ?_ | refine G_ret rfl ?_); simp only [or_self,Qs,Qt,Qu,Qv,Qw,Qx,Qy,Qz,Za,go_sem]))
    refine ⟨inK_nat hil (by unfold lenMax; omega),?_⟩
    refine G_weak (fr 43 [(0,vi m),(1,vi d),(2,.one (.ptr 2 0)),(3,.one (.ptr 3 0)),(31,.one (.d (.sl (ints y.kids)))),(32,vi y.kids.length),(33,vi (i + 1))]) (by (simp only [go_sem]; repeat' (first | refine And.intro ?_ ?_ | exact Or.inl rfl | exact Or.inr rfl | rfl))) ?_
    refine G_drop 4 (by simp only [List.length_nil,List.length_cons]; decide) (by simp only [go_sem]) (by simp only [go_sem]) ?_
    simp only [go_sem]
    refine G_again ⟨y.kids.length - (i + 1),by omega,i + 1,by omega,rfl,?_,rfl⟩
    exact Nat.zero_le _
   ·obtain rfl : y.kids.length = i := by omega
    rw [List.take_of_length_le (Nat.le_refl y.kids.length)]
    repeat' (first | refine Gx rfl ?_ | ((first | refine G_reg ?_ | refine G_regv ?_ | refine VO_chk ?_ | refine VO_go ?_ | refine VO_gx ?_ | refine G_cond ?_); simp only [go_sem]) | refine VO_end ?_ | refine Sh.intro ?_ | (refine And.intro (fun _ => ?_) (fun _ => ?_) <;> try (exfalso; omega)) | ((first | refine G_fin ?_ | refine G_ret rfl ?_); simp only [or_self,Qs,Qt,Qu,Qv,Qw,Qx,Qy,Qz,Za,go_sem]))
end Go.Fw.L07
namespace Go.Fw.L07
open Go Go.Fw
open Go.Proofs.Tryz renaming prog -> QP
open Nat renaming reduceAdd -> Qa,reduceSub -> Qb,reduceMul -> Qc,reduceLeDiff -> Qd,reduceLT -> Qe,reduceEqDiff -> Qf
open Int renaming reduceToNat -> Qg,reduceLT -> Qh,reduceLE -> Qi,reduceGT -> Qj,reduceGE -> Qk,reduceEq -> Ql,reduceNe -> Qm,reduceBEq -> Qn,reduceBNe -> Qo,reduceAdd -> Qp,reduceSub -> Qq,reduceNeg -> Qr
open Go.Fw.V.one renaming injEq -> Qs
open Go.Fw.V.agg renaming injEq -> Qt
open Go.Fw.V.tup renaming injEq -> Qu
open Go.Fw.A.d renaming injEq -> Qv
open Go.Fw.D.bool renaming injEq -> Qw
open Go.Fw.D.int renaming injEq -> Qx
open Go.Fw.D.str renaming injEq -> Qy
open Go.Fw.D.sl renaming injEq -> Qz
open List.cons renaming injEq -> Za
set_option maxRecDepth 4000
variable {gp : Heap}
theorem depths_g (h : Env gp) {g : Gr} (hg : Tdy g) : Does QP gp 51 [g.v] (.tup [.one (.d (.sl (ints (depL g)))),vi 0]) := by
 have hz : zeros (cnt g.l.length []) <= 200 := by
  have := List.countP_le_length (p := fun x : Int => decide (¬ 0 < x)) (l := cnt g.l.length [])
  rw [cnt_len] at this
  exact Nat.le_trans this hg.good.len
 have hcall := depth_c (gp := gp) hg 200 1 g.root (cnt g.l.length []) hz (by omega) (by omega) (cnt_len _ _) hg.good.root
 have hd : depF (kd g) 1 [g.root] (cnt g.l.length []) = depL g := by rw [cnt_nil,hg.root]; rfl
 rw [hd] at hcall
 refine f51_in ?_
 simp only [go_sem]
 repeat' (first | refine Gx rfl ?_ | ((first | refine G_reg ?_ | refine G_regv ?_ | refine VO_chk ?_ | refine VO_go ?_ | refine VO_gx ?_ | refine G_cond ?_); simp only [f51_r12,go_sem]) | refine VO_end ?_ | refine Sh.intro ?_ | refine And.intro (fun _ => ?_) (fun _ => ?_) | ((first | refine G_fin ?_ | refine G_ret rfl ?_); simp only [f51_r12,or_self,Qs,Qt,Qu,Qv,Qw,Qx,Qy,Qz,Za,go_sem]))
 refine G_hint 9 ?_
 simp only [go_sem]
 repeat' (first | refine Gx rfl ?_ | ((first | refine G_reg ?_ | refine G_regv ?_ | refine VO_chk ?_ | refine VO_go ?_ | refine VO_gx ?_ | refine G_cond ?_); simp only [f51_r1,f51_r12,go_sem]) | refine VO_end ?_ | refine Sh.intro ?_ | refine And.intro (fun _ => ?_) (fun _ => ?_) | ((first | refine G_fin ?_ | refine G_ret rfl ?_); simp only [f51_r1,f51_r12,or_self,Qs,Qt,Qu,Qv,Qw,Qx,Qy,Qz,Za,go_sem]))
 refine Or.inr ⟨[],.tup [.one (.ptr 1 0),vi 0],[.row 1 0 (ints (cnt g.l.length [])),ctC g],(by simp only [CallR,rnVs,rnV,rnA,rnAs,rn0,rn0s,posN,rnCs,rnC,getC,List.isEmpty_nil,reduceCtorEq,↓reduceIte,Qa,Qb,Qc,Qd,Qe,Qf,Qg,Qh,Qi,Qj,Qk,Ql,Qm,Qn,Qo,Qp,Qq,Qr]; simp only [go_sem]; exact ⟨f84_ok,of_tidy h hg⟩),Sh.intro ?_⟩
 simp only [go_sem]
 repeat' (first | refine Gx rfl ?_ | ((first | refine G_reg ?_ | refine G_regv ?_ | refine VO_chk ?_ | refine VO_go ?_ | refine VO_gx ?_ | refine G_cond ?_); simp only [f51_r1,f51_r12,go_sem]) | refine VO_end ?_ | refine Sh.intro ?_ | refine And.intro (fun _ => ?_) (fun _ => ?_) | ((first | refine G_fin ?_ | refine G_ret rfl ?_); simp only [f51_r1,f51_r12,or_self,Qs,Qt,Qu,Qv,Qw,Qx,Qy,Qz,Za,go_sem]))
 refine Or.inr (Or.inr ⟨[0,1,3,4],.tup [],[.row 1 0 (ints (depL g)),ctC g,dBox,.cells [dClo]],(by simp only [CallR,rnVs,rnV,rnA,rnAs,rn0,rn0s,posN,rnCs,rnC,getC,List.isEmpty_nil,reduceCtorEq,↓reduceIte,Qa,Qb,Qc,Qd,Qe,Qf,Qg,Qh,Qi,Qj,Qk,Ql,Qm,Qn,Qo,Qp,Qq,Qr]; simp only [go_sem]; exact ⟨f87_ok,hcall⟩),Sh.intro ?_⟩)
 simp only [go_sem]
 repeat' (first | refine Gx rfl ?_ | ((first | refine G_reg ?_ | refine G_regv ?_ | refine VO_chk ?_ | refine VO_go ?_ | refine VO_gx ?_ | refine G_cond ?_); simp only [f51_r1,go_sem]) | refine VO_end ?_ | refine Sh.intro ?_ | refine And.intro (fun _ => ?_) (fun _ => ?_) | ((first | refine G_fin ?_ | refine G_ret rfl ?_); simp only [f51_r1,or_self,Qs,Qt,Qu,Qv,Qw,Qx,Qy,Qz,Za,go_sem]))
 refine G_freeze 0 ?_
 simp only [go_sem]
 repeat' (first | refine Gx rfl ?_ | ((first | refine G_reg ?_ | refine G_regv ?_ | refine VO_chk ?_ | refine VO_go ?_ | refine VO_gx ?_ | refine G_cond ?_); simp only [f51_r1,f51_r12,go_sem]) | refine VO_end ?_ | refine Sh.intro ?_ | refine And.intro (fun _ => ?_) (fun _ => ?_) | ((first | refine G_fin ?_ | refine G_ret rfl ?_); simp only [f51_r1,f51_r12,or_self,Qs,Qt,Qu,Qv,Qw,Qx,Qy,Qz,Za,go_sem]))
 all_goals trace_state
end Go.Fw.L07
namespace Go.Fw.L07
open Go Go.Fw
open Go.Proofs.Tryz renaming prog -> QP
open Nat renaming reduceAdd -> Qa,reduceSub -> Qb,reduceMul -> Qc,reduceLeDiff -> Qd,reduceLT -> Qe,reduceEqDiff -> Qf
open Int renaming reduceToNat -> Qg,reduceLT -> Qh,reduceLE -> Qi,reduceGT -> Qj,reduceGE -> Qk,reduceEq -> Ql,reduceNe -> Qm,reduceBEq -> Qn,reduceBNe -> Qo,reduceAdd -> Qp,reduceSub -> Qq,reduceNeg -> Qr
open Go.Fw.V.one renaming injEq -> Qs
open Go.Fw.V.agg renaming injEq -> Qt
open Go.Fw.V.tup renaming injEq -> Qu
open Go.Fw.A.d renaming injEq -> Qv
open Go.Fw.D.bool renaming injEq -> Qw
open Go.Fw.D.int renaming injEq -> Qx
open Go.Fw.D.str renaming injEq -> Qy
open Go.Fw.D.sl renaming injEq -> Qz
open List.cons renaming injEq -> Za
set_option maxRecDepth 4000
variable {gp : Heap}
theorem anchors_bad (h : Env gp) {g : Gr} (hs : Small g) (hn : ¬ (chk g = none /\ g = tidyG g)) : Does QP gp 49 [g.v] (.tup [.one (.d (.sl [])),vi 72]) := by
 refine f49_in ?_
 simp only [go_sem]
 repeat' (first | refine Gx rfl ?_ | ((first | refine G_reg ?_ | refine G_regv ?_ | refine VO_chk ?_ | refine VO_go ?_ | refine VO_gx ?_ | refine G_cond ?_); simp only [f49_r1,go_sem]) | refine VO_end ?_ | refine Sh.intro ?_ | refine ⟨_,of_bad h hs hn,Sh.intro ?_⟩ | refine ⟨_,⟨of_bad h hs hn,rfl⟩,Sh.intro ?_⟩ | refine And.intro (fun _ => ?_) (fun _ => ?_) | ((first | refine G_fin ?_ | refine G_ret rfl ?_); simp only [f49_r1,or_self,Qs,Qt,Qu,Qv,Qw,Qx,Qy,Qz,Za,go_sem]))
theorem depths_bad (h : Env gp) {g : Gr} (hs : Small g) (hn : ¬ (chk g = none /\ g = tidyG g)) : Does QP gp 51 [g.v] (.tup [.one (.d (.sl [])),vi 72]) := by
 refine f51_in ?_
 simp only [go_sem]
 repeat' (first | refine Gx rfl ?_ | ((first | refine G_reg ?_ | refine G_regv ?_ | refine VO_chk ?_ | refine VO_go ?_ | refine VO_gx ?_ | refine G_cond ?_); simp only [f51_r1,f51_r12,go_sem]) | refine VO_end ?_ | refine Sh.intro ?_ | refine ⟨_,of_bad h hs hn,Sh.intro ?_⟩ | refine ⟨_,⟨of_bad h hs hn,rfl⟩,Sh.intro ?_⟩ | refine And.intro (fun _ => ?_) (fun _ => ?_) | ((first | refine G_fin ?_ | refine G_ret rfl ?_); simp only [f51_r1,f51_r12,or_self,Qs,Qt,Qu,Qv,Qw,Qx,Qy,Qz,Za,go_sem]))
noncomputable def tidied (g : Gr) (t : Bool) : Gr := if t = true /\ chk g.cut = none then tidyG g.cut else g.cut
theorem tidied_g (h : Env gp) (g : Gr) (t : Bool) : Does QP gp 46 [g.v,vb t] (tidied g t).v := by
 refine f46_in ?_
 simp only [go_sem]
 have cg := cut_gr (gp := gp) g
 have hsm := g.cut_small
 unfold tidied
 generalize g.cut = q at *
 have c1 := tidy_gr h q hsm
 by_cases hc : chk q = none
 ·rw [chkE_ok hc,tOf_good ⟨hc,hsm⟩] at c1
  cases t with
  | true =>
   rw [if_pos ⟨rfl,hc⟩]
   repeat' (first | refine Gx rfl ?_ | ((first | refine G_reg ?_ | refine G_regv ?_ | refine VO_chk ?_ | refine VO_go ?_ | refine VO_gx ?_ | refine G_cond ?_); simp only [go_sem]) | refine VO_end ?_ | refine Sh.intro ?_ | refine ⟨_,cg,Sh.intro ?_⟩ | refine ⟨_,⟨cg,rfl⟩,Sh.intro ?_⟩ | refine ⟨_,c1,Sh.intro ?_⟩ | refine ⟨_,⟨c1,rfl⟩,Sh.intro ?_⟩ | refine And.intro (fun _ => ?_) (fun _ => ?_) | ((first | refine G_fin ?_ | refine G_ret rfl ?_); simp only [or_self,Qs,Qt,Qu,Qv,Qw,Qx,Qy,Qz,Za,go_sem]))
  | false =>
   rw [if_neg (by simp)]
   repeat' (first | refine Gx rfl ?_ | ((first | refine G_reg ?_ | refine G_regv ?_ | refine VO_chk ?_ | refine VO_go ?_ | refine VO_gx ?_ | refine G_cond ?_); simp only [go_sem]) | refine VO_end ?_ | refine Sh.intro ?_ | refine ⟨_,cg,Sh.intro ?_⟩ | refine ⟨_,⟨cg,rfl⟩,Sh.intro ?_⟩ | refine ⟨_,c1,Sh.intro ?_⟩ | refine ⟨_,⟨c1,rfl⟩,Sh.intro ?_⟩ | refine And.intro (fun _ => ?_) (fun _ => ?_) | ((first | refine G_fin ?_ | refine G_ret rfl ?_); simp only [or_self,Qs,Qt,Qu,Qv,Qw,Qx,Qy,Qz,Za,go_sem]))
 ·have he := chkE_bad hc
  rw [if_neg (by simp [hc])]
  generalize chkE q = e at *
  cases t with
  | true =>
   repeat' (first | refine Gx rfl ?_ | ((first | refine G_reg ?_ | refine G_regv ?_ | refine VO_chk ?_ | refine VO_go ?_ | refine VO_gx ?_ | refine G_cond ?_); simp only [go_sem]) | refine VO_end ?_ | refine Sh.intro ?_ | refine ⟨_,cg,Sh.intro ?_⟩ | refine ⟨_,⟨cg,rfl⟩,Sh.intro ?_⟩ | refine ⟨_,c1,Sh.intro ?_⟩ | refine ⟨_,⟨c1,rfl⟩,Sh.intro ?_⟩ | refine And.intro (fun _ => ?_) (fun _ => ?_) | ((first | refine G_fin ?_ | refine G_ret rfl ?_); simp only [or_self,Qs,Qt,Qu,Qv,Qw,Qx,Qy,Qz,Za,go_sem]))
   all_goals simp_all
  | false =>
   repeat' (first | refine Gx rfl ?_ | ((first | refine G_reg ?_ | refine G_regv ?_ | refine VO_chk ?_ | refine VO_go ?_ | refine VO_gx ?_ | refine G_cond ?_); simp only [go_sem]) | refine VO_end ?_ | refine Sh.intro ?_ | refine ⟨_,cg,Sh.intro ?_⟩ | refine ⟨_,⟨cg,rfl⟩,Sh.intro ?_⟩ | refine ⟨_,c1,Sh.intro ?_⟩ | refine ⟨_,⟨c1,rfl⟩,Sh.intro ?_⟩ | refine And.intro (fun _ => ?_) (fun _ => ?_) | ((first | refine G_fin ?_ | refine G_ret rfl ?_); simp only [or_self,Qs,Qt,Qu,Qv,Qw,Qx,Qy,Qz,Za,go_sem]))
end Go.Fw.L07
namespace Go.Fw.L07
open Go Go.Fw
open Go.Proofs.Tryz renaming prog -> QP
open Nat renaming reduceAdd -> Qa,reduceSub -> Qb,reduceMul -> Qc,reduceLeDiff -> Qd,reduceLT -> Qe,reduceEqDiff -> Qf
open Int renaming reduceToNat -> Qg,reduceLT -> Qh,reduceLE -> Qi,reduceGT -> Qj,reduceGE -> Qk,reduceEq -> Ql,reduceNe -> Qm,reduceBEq -> Qn,reduceBNe -> Qo,reduceAdd -> Qp,reduceSub -> Qq,reduceNeg -> Qr
open Go.Fw.V.one renaming injEq -> Qs
open Go.Fw.V.agg renaming injEq -> Qt
open Go.Fw.V.tup renaming injEq -> Qu
open Go.Fw.A.d renaming injEq -> Qv
open Go.Fw.D.bool renaming injEq -> Qw
open Go.Fw.D.int renaming injEq -> Qx
open Go.Fw.D.str renaming injEq -> Qy
open Go.Fw.D.sl renaming injEq -> Qz
open List.cons renaming injEq -> Za
set_option maxRecDepth 4000
variable {gp : Heap}
def m0 : Nd := ⟨0,⟨0,0,⟨#[]⟩⟩,[],[]⟩
def g12 : Gr := ⟨0,[⟨1,⟨0,0,⟨#[]⟩⟩,[],[1,1,0]⟩,⟨1,⟨0,0,⟨#[]⟩⟩,[],[2]⟩,m0]⟩
theorem small_of12 {g : Gr} (h : (g.l.all fun x => decide (x.keys.length <= 12 /\ x.kids.length <= 12)) = true) : Small g := by
 intro x hx
 have := List.all_eq_true.1 h x hx
 simpa using this
theorem g12_good : Good g12 := ⟨by kernel_rfl,small_of12 (by kernel_rfl)⟩
theorem g12_0 : kd g12 0 = [1,1,0] := by kernel_rfl
theorem g12_1 : kd g12 1 = [2] := by kernel_rfl
theorem g12_2 : kd g12 2 = [] := by kernel_rfl
theorem g12_walk : walkL g12 = [0,1,2] := by
 have : Walks (kd g12) [0] [] [0,1,2] := by
  refine .step (by simp) ?_
  rw [g12_0]
  refine .step (by simp) ?_
  rw [g12_1]
  refine .step (by simp) ?_
  rw [g12_2]
  exact .skip (by simp) (.skip (by simp) (.nil _))
 exact this.eq
theorem g12_tidy' : (⟨0,[0,1,2].map fun i => tidyN [0,1,2] (ndAt g12.l i)⟩ : Gr) = g12 := by kernel_rfl
theorem g12_tidy : tidyG g12 = g12 := by
 have : tidyG g12 = ⟨0,[0,1,2].map fun i => tidyN [0,1,2] (ndAt g12.l i)⟩ := by rw [<- g12_walk]; rfl
 rw [this,g12_tidy']
theorem g12_tdy : Tdy g12 := by have := g12_good.tdy; rwa [g12_tidy] at this
theorem g12_uses : usesL g12 = [2,2,1] := by kernel_rfl
theorem g12_anc : ancL g12 = [1,2,0] := by kernel_rfl
theorem g12_dep : depL g12 = [1,2,3] := by
 have h2 : DepW (kd g12) 3 [((2 : Nat) : Int)] [1,2,0] [1,2,3] := by
  refine .step (x := 0) rfl (by omega) (b := [1,2,3]) ?_ (.nil _ _)
  rw [show kd g12 ((2 : Nat) : Int) = [] from g12_2]
  exact .nil _ _
 have h1 : DepW (kd g12) 2 [((1 : Nat) : Int),((1 : Nat) : Int),((0 : Nat) : Int)] [1,0,0] [1,2,3] := by
  refine .step (x := 0) rfl (by omega) (b := [1,2,3]) ?_ (.skip (x := 2) rfl (by omega) (.skip (x := 1) rfl (by omega) (.nil _ _)))
  rw [show kd g12 ((1 : Nat) : Int) = [2] from g12_1]
  exact h2
 have h0 : DepW (kd g12) 1 [((0 : Nat) : Int)] [0,0,0] [1,2,3] := by
  refine .step (x := 0) rfl (by omega) (b := [1,2,3]) ?_ (.nil _ _)
  rw [show kd g12 ((0 : Nat) : Int) = [1,1,0] from g12_0]
  exact h1
 exact h0.eq
theorem shown12_ok (h : Env gp) : Does QP gp 45 [] (vb true) := by
 have c1 := uses_g h g12_tdy
 have c2 := anchors_g h g12_tdy
 have c3 := depths_g h g12_tdy
 rw [g12_uses] at c1
 rw [g12_anc] at c2
 rw [g12_dep] at c3
 have c4 := uses_bad h (g := ⟨1,g12.l⟩) (small_of12 (by kernel_rfl)) (fun e => by have := congrArg Gr.root e.2; cases this)
 have c5 := ints_eq (gp := gp) [2,2,1] [2,2,1]
 have c6 := ints_eq (gp := gp) [1,2,0] [1,2,0]
 have c7 := ints_eq (gp := gp) [1,2,3] [1,2,3]
 simp only [decide_true] at c5 c6 c7
 refine f45_in ?_
 simp only [go_sem]
 repeat' (first | refine Gx rfl ?_ | ((first | refine G_reg ?_ | refine G_regv ?_ | refine VO_chk ?_ | refine VO_go ?_ | refine VO_gx ?_ | refine G_cond ?_); simp only [go_sem]) | refine VO_end ?_ | refine Sh.intro ?_ | refine ⟨_,c1,Sh.intro ?_⟩ | refine ⟨_,⟨c1,rfl⟩,Sh.intro ?_⟩ | refine ⟨_,c2,Sh.intro ?_⟩ | refine ⟨_,⟨c2,rfl⟩,Sh.intro ?_⟩ | refine ⟨_,c3,Sh.intro ?_⟩ | refine ⟨_,⟨c3,rfl⟩,Sh.intro ?_⟩ | refine ⟨_,c4,Sh.intro ?_⟩ | refine ⟨_,⟨c4,rfl⟩,Sh.intro ?_⟩ | refine ⟨_,c5,Sh.intro ?_⟩ | refine ⟨_,⟨c5,rfl⟩,Sh.intro ?_⟩ | refine ⟨_,c6,Sh.intro ?_⟩ | refine ⟨_,⟨c6,rfl⟩,Sh.intro ?_⟩ | refine ⟨_,c7,Sh.intro ?_⟩ | refine ⟨_,⟨c7,rfl⟩,Sh.intro ?_⟩ | refine And.intro (fun _ => ?_) (fun _ => ?_) | ((first | refine G_fin ?_ | refine G_ret rfl ?_); simp only [or_self,Qs,Qt,Qu,Qv,Qw,Qx,Qy,Qz,Za,go_sem]))
 all_goals trace_state
end Go.Fw.L07
