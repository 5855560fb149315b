/- Chapter 12,by definition: uses,anchors. -/
import Derived.Test.YtldjkoidjigjpaaGreatDoorEb
import Derived.Test.YtldjkoidjigjpaaGreatDoorVb
set_option linter.all false
namespace Go.Fw.L07
open Go Go.Fw
open Go.Proofs.Tryz renaming prog -> QP
open Nat renaming reduceAdd -> Qa,reduceSub -> Qb,reduceMul -> Qc,reduceLeDiff -> Qd,reduceLT -> Qe,reduceEqDiff -> Qf
open Int renaming reduceToNat -> Qg,reduceLT -> Qh,reduceLE -> Qi,reduceGT -> Qj,reduceGE -> Qk,reduceEq -> Ql,reduceNe -> Qm,reduceBEq -> Qn,reduceBNe -> Qo,reduceAdd -> Qp,reduceSub -> Qq,reduceNeg -> Qr
open Go.Fw.V.one renaming injEq -> Qs
open Go.Fw.V.agg renaming injEq -> Qt
open Go.Fw.V.tup renaming injEq -> Qu
open Go.Fw.A.d renaming injEq -> Qv
open Go.Fw.D.bool renaming injEq -> Qw
open Go.Fw.D.int renaming injEq -> Qx
open Go.Fw.D.str renaming injEq -> Qy
open Go.Fw.D.sl renaming injEq -> Qz
open List.cons renaming injEq -> Za
set_option maxRecDepth 4000
variable {gp : Heap}
def flT (l : List Nd) (j : Nat) : List Int := (l.take j).flatMap Nd.kids
theorem flT_step {l : List Nd} {j : Nat} {x : Nd} (h : l[j]? = some x) : flT l (j + 1) = flT l j ++ x.kids := by
 unfold flT; rw [List.take_succ,h]; simp
def cI (i : Nat) (xs : List Int) : Int := (((0 :: xs).count (i : Int) : Nat) : Int)
theorem cI_nil (i : Nat) : cI i [] = if (i : Int) = 0 then 1 else 0 := by
 unfold cI
 rw [List.count_cons,List.count_nil]
 by_cases h : (i : Int) = 0
 ·rw [h]; simp
 ·rw [if_neg h]
  have : ((0 : Int) == (i : Int)) = false := beq_eq_false_iff_ne.2 fun e => h e.symm
  rw [this]; simp
theorem cI_snoc (i : Nat) (xs : List Int) (c : Int) : cI i (xs ++ [c]) = if (c == (i : Int)) = true then cI i xs + 1 else cI i xs := by
 unfold cI
 have e : List.count (i : Int) [c] = if (c == (i : Int)) = true then 1 else 0 := by rw [List.count_cons,List.count_nil,Nat.zero_add]
 rw [<- List.cons_append,List.count_append,e]
 by_cases h : (c == (i : Int)) = true
 ·rw [if_pos h,if_pos h]; rfl
 ·rw [if_neg h,if_neg h]; rfl
theorem cI_in {i : Nat} {xs : List Int} (h : xs.length <= 90000) : inK .i64 (cI i xs + 1) := by
 unfold cI
 exact inK_cnt (by simp; omega)
theorem flT_len {l : List Nd} (h : ∀ x ∈ l,x.kids.length <= 12) (j : Nat) : (flT l j).length <= 12 * l.length := by
 unfold flT
 have h1 := flat_small (l := l.take j) fun x hx => h x (List.mem_of_mem_take hx)
 have : (l.take j).length <= l.length := by rw [List.length_take]; omega
 omega
theorem uses_at {g : Gr} {i : Nat} (hi : i < g.l.length) : (usesL g)[i]? = some (cI i (flT g.l g.l.length)) := by
 unfold usesL
 rw [cnt_at _ hi]
 unfold cI flT flat
 rw [List.take_length]
set_option maxHeartbeats 4000000 in
theorem uses12_g {g : Gr} (hg : Tdy g) (hst : ∀ x ∈ g.l,x.short) (hl : g.l.length <= 1000) : Does QP gp 48 [g.v] (.tup [.one (.d (.sl (ints (usesL g)))),vi 0]) := by
 have c1 := istidy8 (gp := gp) g hg.good.s hst hl
 rw [show decide (chk g = none /\ g = tidyG g) = true from decide_eq_true ⟨hg.good.c,hg.self⟩] at c1
 have hk12 : ∀ x ∈ g.l,x.kids.length <= 12 := fun x hx => (hg.good.s x hx).2
 have hul : (usesL g).length = g.l.length := cnt_len _ _
 refine f48_in ?_
 simp only [go_sem]
 repeat' (first | refine Gx rfl ?_ | ((first | refine G_reg ?_ | refine G_regv ?_ | refine VO_chk ?_ | refine VO_go ?_ | refine VO_gx ?_ | refine G_cond ?_); simp only [go_sem]) | refine VO_end ?_ | refine Sh.intro ?_ | refine ⟨_,c1,Sh.intro ?_⟩ | refine ⟨_,⟨c1,rfl⟩,Sh.intro ?_⟩ | refine And.intro (fun _ => ?_) (fun _ => ?_) | ((first | refine G_fin ?_ | refine G_ret rfl ?_); simp only [or_self,Qs,Qt,Qu,Qv,Qw,Qx,Qy,Qz,Za,go_sem]))
 refine G_weak (fr 57 [(1,.one (.d (.bx [.int .i64 g.root,.sl (nds g.l)]))),(4,.one .nil),(5,vi ((0 : Nat) : Int))]) (by (simp only [go_sem]; repeat' (first | refine And.intro ?_ ?_ | exact Or.inl rfl | exact Or.inr rfl | rfl))) ?_
 refine G_row0 4 1 (by decide) rfl ?_
 simp only [go_sem]
 refine G_loop (fun mz sz => ∃ i : Nat,i <= g.l.length /\ mz = g.l.length - i /\ sz = ⟨fr 57 [(1,.one (.d (.bx [.int .i64 g.root,.sl (nds g.l)]))),(4,.one (.own 0 i)),(5,vi (i : Int))],[.row 1 i (ints ((usesL g).take i))]⟩) g.l.length ⟨0,Nat.zero_le _,rfl,rfl⟩ ?_
 rintro _ _ ⟨i,hi,rfl,rfl⟩
 simp only [go_sem]
 by_cases hil : i < g.l.length
 ·have e1 : decide ((i : Int) < (g.l.length : Int)) = true := decide_eq_true (by omega)
  have hcase : (((i : Int) == 0) = true /\ cI i [] = 1) \/ (((i : Int) == 0) = false /\ cI i [] = 0) := by
   by_cases h : (i : Int) = 0
   ·exact Or.inl ⟨beq_iff_eq.2 h,by rw [cI_nil,if_pos h]⟩
   ·exact Or.inr ⟨beq_eq_false_iff_ne.2 h,by rw [cI_nil,if_neg h]⟩
  rcases hcase with ⟨hz,ec⟩ | ⟨hz,ec⟩
  all_goals
   repeat' (first | refine Gx rfl ?_ | ((first | refine G_reg ?_ | refine G_regv ?_ | refine VO_chk ?_ | refine VO_go ?_ | refine VO_gx ?_ | refine G_cond ?_); simp only [e1,hz,go_sem]) | refine VO_end ?_ | refine Sh.intro ?_ | refine And.intro (fun _ => ?_) (fun _ => ?_) | ((first | refine G_fin ?_ | refine G_ret rfl ?_); simp only [e1,hz,or_self,Qs,Qt,Qu,Qv,Qw,Qx,Qy,Qz,Za,go_sem]))
   refine G_weak (fr 57 [(1,.one (.d (.bx [.int .i64 g.root,.sl (nds g.l)]))),(4,.one (.own 0 i)),(5,vi (i : Int)),(6,vi (cI i [])),(7,vi ((0 : Nat) : Int))]) (by rw [ec]; (simp only [go_sem]; repeat' (first | refine And.intro ?_ ?_ | exact Or.inl rfl | exact Or.inr rfl | rfl))) ?_
   refine G_loop (fun mz sz => ∃ j : Nat,j <= g.l.length /\ mz = g.l.length - j /\ sz = ⟨fr 57 [(1,.one (.d (.bx [.int .i64 g.root,.sl (nds g.l)]))),(4,.one (.own 0 i)),(5,vi (i : Int)),(6,vi (cI i (flT g.l j))),(7,vi (j : Int))],[.row 1 i (ints ((usesL g).take i))]⟩) g.l.length ⟨0,Nat.zero_le _,rfl,rfl⟩ ?_
   rintro _ _ ⟨j,hj,rfl,rfl⟩
   simp only [go_sem]
   by_cases hjl : j < g.l.length
   ·obtain ⟨x,hx⟩ := at_lt hjl
    have e2 : decide ((j : Int) < (g.l.length : Int)) = true := decide_eq_true (by omega)
    have hkl := hk12 x (List.mem_of_getElem? hx)
    have hfl := flT_len hk12 j
    repeat' (first | refine Gx rfl ?_ | ((first | refine G_reg ?_ | refine G_regv ?_ | refine VO_chk ?_ | refine VO_go ?_ | refine VO_gx ?_ | refine G_cond ?_); simp only [e2,go_sem]) | refine VO_end ?_ | refine Sh.intro ?_ | refine ⟨_,⟨Int.natCast_nonneg _,(by first | exact map_at hx | (rw [Int.toNat_natCast]; exact map_at hx)),rfl⟩,Sh.intro ?_⟩ | refine And.intro (fun _ => ?_) (fun _ => ?_) | ((first | refine G_fin ?_ | refine G_ret rfl ?_); simp only [e2,or_self,Qs,Qt,Qu,Qv,Qw,Qx,Qy,Qz,Za,go_sem]))
    refine G_weak (fr 57 [(1,.one (.d (.bx [.int .i64 g.root,.sl (nds g.l)]))),(4,.one (.own 0 i)),(5,vi (i : Int)),(6,vi (cI i (flT g.l j))),(7,vi (j : Int)),(8,vi ((0 : Nat) : Int))]) (by (simp only [go_sem]; repeat' (first | refine And.intro ?_ ?_ | exact Or.inl rfl | exact Or.inr rfl | rfl))) ?_
    refine G_loop (fun mz sz => ∃ k : Nat,k <= x.kids.length /\ mz = x.kids.length - k /\ sz = ⟨fr 57 [(1,.one (.d (.bx [.int .i64 g.root,.sl (nds g.l)]))),(4,.one (.own 0 i)),(5,vi (i : Int)),(6,vi (cI i (flT g.l j ++ x.kids.take k))),(7,vi (j : Int)),(8,vi (k : Int))],[.row 1 i (ints ((usesL g).take i))]⟩) x.kids.length ⟨0,Nat.zero_le _,rfl,by rw [List.take_zero,List.append_nil]⟩ ?_
    rintro _ _ ⟨k,hk,rfl,rfl⟩
    simp only [go_sem]
    by_cases hkk : k < x.kids.length
    ·obtain ⟨c,hc⟩ := at_lt hkk
     have e3 : decide ((k : Int) < (x.kids.length : Int)) = true := decide_eq_true (by omega)
     have ht : flT g.l j ++ x.kids.take (k + 1) = (flT g.l j ++ x.kids.take k) ++ [c] := by rw [List.take_succ,hc,List.append_assoc]; rfl
     have hs := cI_snoc i (flT g.l j ++ x.kids.take k) c
     rw [<- ht] at hs
     have hin : inK .i64 (cI i (flT g.l j ++ x.kids.take k) + 1) := cI_in (by rw [List.length_append,List.length_take]; omega)
     have hkin : inK .i64 ((k : Int) + 1) := inK_nat hkk (by unfold lenMax; omega)
     cases hq : (c == (i : Int)) with
     | true =>
      rw [if_pos hq] at hs
      repeat' (first | refine Gx rfl ?_ | ((first | refine G_reg ?_ | refine G_regv ?_ | refine VO_chk ?_ | refine VO_go ?_ | refine VO_gx ?_ | refine G_cond ?_); simp only [e3,hq,go_sem]) | refine VO_end ?_ | refine Sh.intro ?_ | refine ⟨_,⟨Int.natCast_nonneg _,(by first | exact map_at hx | (rw [Int.toNat_natCast]; exact map_at hx)),rfl⟩,Sh.intro ?_⟩ | refine ⟨_,⟨Int.natCast_nonneg _,(by first | exact map_at hc | (rw [Int.toNat_natCast]; exact map_at hc)),rfl⟩,Sh.intro ?_⟩ | refine And.intro (fun _ => ?_) (fun _ => ?_) | ((first | refine G_fin ?_ | refine G_ret rfl ?_); simp only [e3,hq,or_self,Qs,Qt,Qu,Qv,Qw,Qx,Qy,Qz,Za,go_sem]))
      refine ⟨hin,?_⟩
      repeat' (first | refine Gx rfl ?_ | ((first | refine G_reg ?_ | refine G_regv ?_ | refine VO_chk ?_ | refine VO_go ?_ | refine VO_gx ?_ | refine G_cond ?_); simp only [go_sem]) | refine VO_end ?_ | refine Sh.intro ?_ | refine And.intro (fun _ => ?_) (fun _ => ?_) | ((first | refine G_fin ?_ | refine G_ret rfl ?_); simp only [or_self,Qs,Qt,Qu,Qv,Qw,Qx,Qy,Qz,Za,go_sem]))
      refine ⟨hkin,?_⟩
      refine G_weak (fr 57 [(1,.one (.d (.bx [.int .i64 g.root,.sl (nds g.l)]))),(4,.one (.own 0 i)),(5,vi (i : Int)),(6,vi (cI i (flT g.l j ++ x.kids.take k) + 1)),(7,vi (j : Int)),(8,vi (k + 1))]) (by (simp only [go_sem]; repeat' (first | refine And.intro ?_ ?_ | exact Or.inl rfl | exact Or.inr rfl | rfl))) ?_
      exact G_again ⟨x.kids.length - (k + 1),by omega,k + 1,by omega,rfl,by rw [hs]; rfl⟩
     | false =>
      rw [if_neg (by rw [hq]; simp)] at hs
      repeat' (first | refine Gx rfl ?_ | ((first | refine G_reg ?_ | refine G_regv ?_ | refine VO_chk ?_ | refine VO_go ?_ | refine VO_gx ?_ | refine G_cond ?_); simp only [e3,hq,go_sem]) | refine VO_end ?_ | refine Sh.intro ?_ | refine ⟨_,⟨Int.natCast_nonneg _,(by first | exact map_at hx | (rw [Int.toNat_natCast]; exact map_at hx)),rfl⟩,Sh.intro ?_⟩ | refine ⟨_,⟨Int.natCast_nonneg _,(by first | exact map_at hc | (rw [Int.toNat_natCast]; exact map_at hc)),rfl⟩,Sh.intro ?_⟩ | refine And.intro (fun _ => ?_) (fun _ => ?_) | ((first | refine G_fin ?_ | refine G_ret rfl ?_); simp only [e3,hq,or_self,Qs,Qt,Qu,Qv,Qw,Qx,Qy,Qz,Za,go_sem]))
      refine ⟨hkin,?_⟩
      refine G_weak (fr 57 [(1,.one (.d (.bx [.int .i64 g.root,.sl (nds g.l)]))),(4,.one (.own 0 i)),(5,vi (i : Int)),(6,vi (cI i (flT g.l j ++ x.kids.take k))),(7,vi (j : Int)),(8,vi (k + 1))]) (by (simp only [go_sem]; repeat' (first | refine And.intro ?_ ?_ | exact Or.inl rfl | exact Or.inr rfl | rfl))) ?_
      exact G_again ⟨x.kids.length - (k + 1),by omega,k + 1,by omega,rfl,by rw [hs]; rfl⟩
    ·obtain rfl : k = x.kids.length := by omega
     have e3 : decide ((x.kids.length : Int) < (x.kids.length : Int)) = false := decide_eq_false (by omega)
     have e4 : cI i (flT g.l (j + 1)) = cI i (flT g.l j ++ x.kids.take x.kids.length) := by rw [flT_step hx,List.take_length]
     repeat' (first | refine Gx rfl ?_ | ((first | refine G_reg ?_ | refine G_regv ?_ | refine VO_chk ?_ | refine VO_go ?_ | refine VO_gx ?_ | refine G_cond ?_); simp only [e3,go_sem]) | refine VO_end ?_ | refine Sh.intro ?_ | refine ⟨_,⟨Int.natCast_nonneg _,(by first | exact map_at hx | (rw [Int.toNat_natCast]; exact map_at hx)),rfl⟩,Sh.intro ?_⟩ | refine And.intro (fun _ => ?_) (fun _ => ?_) | ((first | refine G_fin ?_ | refine G_ret rfl ?_); simp only [e3,or_self,Qs,Qt,Qu,Qv,Qw,Qx,Qy,Qz,Za,go_sem]))
     refine ⟨inK_nat hjl (by unfold lenMax; omega),?_⟩
     refine G_weak (fr 57 [(1,.one (.d (.bx [.int .i64 g.root,.sl (nds g.l)]))),(4,.one (.own 0 i)),(5,vi (i : Int)),(6,vi (cI i (flT g.l j ++ x.kids.take x.kids.length))),(7,vi (j + 1))]) (by (simp only [go_sem]; repeat' (first | refine And.intro ?_ ?_ | exact Or.inl rfl | exact Or.inr rfl | rfl))) ?_
     exact G_again ⟨g.l.length - (j + 1),by omega,j + 1,by omega,rfl,by rw [e4]; rfl⟩
   ·obtain rfl : j = g.l.length := by omega
    have e2 : decide ((g.l.length : Int) < (g.l.length : Int)) = false := decide_eq_false (by omega)
    have htl : (ints ((usesL g).take i)).length = i := by simp; omega
    repeat' (first | refine Gx rfl ?_ | ((first | refine G_reg ?_ | refine G_regv ?_ | refine VO_chk ?_ | refine VO_go ?_ | refine VO_gx ?_ | refine G_cond ?_); simp only [e2,go_sem]) | refine VO_end ?_ | refine Sh.intro ?_ | refine And.intro (fun _ => ?_) (fun _ => ?_) | ((first | refine G_fin ?_ | refine G_ret rfl ?_); simp only [e2,or_self,Qs,Qt,Qu,Qv,Qw,Qx,Qy,Qz,Za,go_sem]))
    repeat (refine And.intro (by first | (simp; done) | omega | (unfold lenMax; omega) | (simp; omega) | (simp [lenMax]; omega)) ?_)
    have hrow : ints ((usesL g).take i) ++ [[D.int .i64 (cI i (flT g.l g.l.length))]] = ints ((usesL g).take (i + 1)) := by rw [List.take_succ,uses_at hil]; simp
    rw [hrow]
    repeat' (first | refine Gx rfl ?_ | ((first | refine G_reg ?_ | refine G_regv ?_ | refine VO_chk ?_ | refine VO_go ?_ | refine VO_gx ?_ | refine G_cond ?_); simp only [go_sem]) | refine VO_end ?_ | refine Sh.intro ?_ | refine And.intro (fun _ => ?_) (fun _ => ?_) | ((first | refine G_fin ?_ | refine G_ret rfl ?_); simp only [or_self,Qs,Qt,Qu,Qv,Qw,Qx,Qy,Qz,Za,go_sem]))
    refine ⟨inK_nat hil (by unfold lenMax; omega),?_⟩
    refine G_weak (fr 57 [(1,.one (.d (.bx [.int .i64 g.root,.sl (nds g.l)]))),(4,.one (.own 0 (i + 1))),(5,vi (i + 1))]) (by (simp only [go_sem]; repeat' (first | refine And.intro ?_ ?_ | exact Or.inl rfl | exact Or.inr rfl | rfl))) ?_
    exact G_again ⟨g.l.length - (i + 1),by omega,i + 1,by omega,rfl,rfl⟩
 ·obtain rfl : i = g.l.length := by omega
  have e1 : decide ((g.l.length : Int) < (g.l.length : Int)) = false := decide_eq_false (by omega)
  rw [List.take_of_length_le (by omega)]
  refine G_freeze 0 ?_
  simp only [go_sem]
  repeat' (first | refine Gx rfl ?_ | ((first | refine G_reg ?_ | refine G_regv ?_ | refine VO_chk ?_ | refine VO_go ?_ | refine VO_gx ?_ | refine G_cond ?_); simp only [e1,go_sem]) | refine VO_end ?_ | refine Sh.intro ?_ | refine And.intro (fun _ => ?_) (fun _ => ?_) | ((first | refine G_fin ?_ | refine G_ret rfl ?_); simp only [e1,or_self,Qs,Qt,Qu,Qv,Qw,Qx,Qy,Qz,Za,go_sem]))
  all_goals trace_state
theorem uses12_bad {g : Gr} (hs : Small g) (hn : ¬ (chk g = none /\ g = tidyG g)) (hst : ∀ x ∈ g.l,x.short) (hl : g.l.length <= 1000) : Does QP gp 48 [g.v] (.tup [.one (.d (.sl [])),vi 72]) := by
 have c1 := istidy8 (gp := gp) g hs hst hl
 rw [show decide (chk g = none /\ g = tidyG g) = false from decide_eq_false hn] at c1
 refine f48_in ?_
 simp only [go_sem]
 repeat' (first | refine Gx rfl ?_ | ((first | refine G_reg ?_ | refine G_regv ?_ | refine VO_chk ?_ | refine VO_go ?_ | refine VO_gx ?_ | refine G_cond ?_); simp only [go_sem]) | refine VO_end ?_ | refine Sh.intro ?_ | refine ⟨_,c1,Sh.intro ?_⟩ | refine ⟨_,⟨c1,rfl⟩,Sh.intro ?_⟩ | refine And.intro (fun _ => ?_) (fun _ => ?_) | ((first | refine G_fin ?_ | refine G_ret rfl ?_); simp only [or_self,Qs,Qt,Qu,Qv,Qw,Qx,Qy,Qz,Za,go_sem]))
 all_goals trace_state
theorem anchors12_bad {g : Gr} (hs : Small g) (hn : ¬ (chk g = none /\ g = tidyG g)) (hst : ∀ x ∈ g.l,x.short) (hl : g.l.length <= 1000) : Does QP gp 50 [g.v] (.tup [.one (.d (.sl [])),vi 72]) := by
 have c1 := uses12_bad (gp := gp) hs hn hst hl
 refine f50_in ?_
 simp only [go_sem]
 repeat' (first | refine Gx rfl ?_ | ((first | refine G_reg ?_ | refine G_regv ?_ | refine VO_chk ?_ | refine VO_go ?_ | refine VO_gx ?_ | refine G_cond ?_); simp only [go_sem]) | refine VO_end ?_ | refine Sh.intro ?_ | refine ⟨_,c1,Sh.intro ?_⟩ | refine ⟨_,⟨c1,rfl⟩,Sh.intro ?_⟩ | refine And.intro (fun _ => ?_) (fun _ => ?_) | ((first | refine G_fin ?_ | refine G_ret rfl ?_); simp only [or_self,Qs,Qt,Qu,Qv,Qw,Qx,Qy,Qz,Za,go_sem]))
 refine G_weak (fr 46 [(1,.one (.d (.bx [.int .i64 g.root,.sl (nds g.l)]))),(4,.one (.d (.sl []))),(5,vi 72),(6,.one .nil),(8,vi 0)]) (by (simp only [go_sem]; repeat' (first | refine And.intro ?_ ?_ | exact Or.inl rfl | exact Or.inr rfl | rfl))) ?_
 refine G_loop (fun mz sz => mz = 0 /\ sz = ⟨fr 46 [(1,.one (.d (.bx [.int .i64 g.root,.sl (nds g.l)]))),(4,.one (.d (.sl []))),(5,vi 72),(6,.one .nil),(8,vi 0)],[]⟩) 0 ⟨rfl,rfl⟩ ?_
 rintro _ _ ⟨rfl,rfl⟩
 simp only [go_sem]
 repeat' (first | refine Gx rfl ?_ | ((first | refine G_reg ?_ | refine G_regv ?_ | refine VO_chk ?_ | refine VO_go ?_ | refine VO_gx ?_ | refine G_cond ?_); simp only [go_sem]) | refine VO_end ?_ | refine Sh.intro ?_ | refine And.intro (fun _ => ?_) (fun _ => ?_) | ((first | refine G_fin ?_ | refine G_ret rfl ?_); simp only [or_self,Qs,Qt,Qu,Qv,Qw,Qx,Qy,Qz,Za,go_sem]))
 all_goals trace_state
set_option maxHeartbeats 4000000 in
theorem anchors12_g {g : Gr} (hg : Tdy g) (hst : ∀ x ∈ g.l,x.short) (hl : g.l.length <= 1000) : Does QP gp 50 [g.v] (.tup [.one (.d (.sl (ints (ancL g)))),vi 0]) := by
 have c1 := uses12_g (gp := gp) hg hst hl
 have hul : (usesL g).length = g.l.length := cnt_len _ _
 rw [show ancL g = (ancN g (usesL g) g.l.length).1 from rfl]
 generalize usesL g = us at *
 have hlen := fun i hi => ancN_len (g := g) hul i hi
 have hk : ∀ i,(ancN g us i).2 <= i := by
  intro i
  induction i with
  | zero => exact Nat.le_refl _
  | succ i ih =>
   rw [ancN]
   split
   ·split
    ·exact Nat.succ_le_succ ih
    ·exact Nat.le_succ_of_le ih
   ·exact Nat.le_succ_of_le ih
 refine f50_in ?_
 simp only [go_sem]
 repeat' (first | refine Gx rfl ?_ | ((first | refine G_reg ?_ | refine G_regv ?_ | refine VO_chk ?_ | refine VO_go ?_ | refine VO_gx ?_ | refine G_cond ?_); simp only [go_sem]) | refine VO_end ?_ | refine Sh.intro ?_ | refine ⟨_,c1,Sh.intro ?_⟩ | refine ⟨_,⟨c1,rfl⟩,Sh.intro ?_⟩ | refine And.intro (fun _ => ?_) (fun _ => ?_) | ((first | refine G_fin ?_ | refine G_ret rfl ?_); simp only [or_self,Qs,Qt,Qu,Qv,Qw,Qx,Qy,Qz,Za,go_sem]))
 refine G_weak (fr 46 [(1,.one (.d (.bx [.int .i64 g.root,.sl (nds g.l)]))),(4,.one (.d (.sl (ints us)))),(5,vi 0),(6,.one .nil),(7,vi ((0 : Nat) : Int)),(8,vi ((0 : Nat) : Int))]) (by (simp only [go_sem]; repeat' (first | refine And.intro ?_ ?_ | exact Or.inl rfl | exact Or.inr rfl | rfl))) ?_
 refine G_row0 6 1 (by decide) rfl ?_
 simp only [go_sem]
 refine G_loop (fun mz sz => ∃ i : Nat,i <= g.l.length /\ mz = g.l.length - i /\ sz = ⟨fr 46 [(1,.one (.d (.bx [.int .i64 g.root,.sl (nds g.l)]))),(4,.one (.d (.sl (ints us)))),(5,vi 0),(6,.one (.own 0 (ancN g us i).1.length)),(7,vi ((ancN g us i).2 : Int)),(8,vi (i : Int))],[.row 1 (ancN g us i).1.length (ints (ancN g us i).1)]⟩) g.l.length ⟨0,Nat.zero_le _,rfl,rfl⟩ ?_
 rintro _ _ ⟨i,hi,rfl,rfl⟩
 simp only [go_sem]
 by_cases hil : i < g.l.length
 ·have e1 : decide ((i : Int) < (us.length : Int)) = true := decide_eq_true (by omega)
  obtain ⟨x,hx⟩ := at_lt hil
  obtain ⟨n,hn⟩ := at_lt (l := us) (i := i) (by omega)
  have hstep : ancN g us (i + 1) = if ancP x n then ((ancN g us i).1 ++ [(((ancN g us i).2 + 1 : Nat) : Int)],(ancN g us i).2 + 1) else ((ancN g us i).1 ++ [0],(ancN g us i).2) := by rw [ancN,hx,hn]
  have hki := hk i
  have hai := hlen i hi
  obtain ⟨w,m,hwm⟩ : ∃ w m,ancN g us i = (w,m) := ⟨_,_,rfl⟩
  rw [hwm] at hstep hki hai ⊢
  dsimp only at hstep hki hai ⊢
  have hmi : inK .i64 ((m : Int) + 1) := by have := inK_nat (i := m) (n := 5000) (by omega) (by unfold lenMax; omega); exact this
  have hii : inK .i64 ((i : Int) + 1) := inK_nat hil (by unfold lenMax; omega)
  by_cases hn1 : n > 1
  ·have e2 : decide (n > 1) = true := decide_eq_true hn1
   by_cases hx0 : x.kids = []
   ·have e3 : decide ((x.kids.length : Int) > 0) = false := decide_eq_false (by rw [hx0]; simp)
    have hp : ancP x n = false := by unfold ancP; simp [hx0]
    rw [hp] at hstep
    simp only [Bool.false_eq_true,if_false] at hstep
    repeat' (first | refine Gx rfl ?_ | ((first | refine G_reg ?_ | refine G_regv ?_ | refine VO_chk ?_ | refine VO_go ?_ | refine VO_gx ?_ | refine G_cond ?_); simp only [e1,e2,e3,go_sem]) | refine VO_end ?_ | refine Sh.intro ?_ | refine ⟨_,⟨Int.natCast_nonneg _,(by first | exact map_at hx | (rw [Int.toNat_natCast]; exact map_at hx)),rfl⟩,Sh.intro ?_⟩ | refine ⟨_,⟨Int.natCast_nonneg _,(by first | exact map_at hn | (rw [Int.toNat_natCast]; exact map_at hn)),rfl⟩,Sh.intro ?_⟩ | (refine And.intro (fun _ => ?_) (fun _ => ?_) <;> try (exfalso; omega)) | ((first | refine G_fin ?_ | refine G_ret rfl ?_); simp only [e1,e2,e3,or_self,Qs,Qt,Qu,Qv,Qw,Qx,Qy,Qz,Za,go_sem]))
    repeat (refine And.intro (by first | (simp; done) | omega | (unfold lenMax; omega) | (simp; omega) | (simp [lenMax]; omega)) ?_)
    rw [show ints w ++ [[D.int .i64 0]] = ints (w ++ [0]) from by simp]
    repeat' (first | refine Gx rfl ?_ | ((first | refine G_reg ?_ | refine G_regv ?_ | refine VO_chk ?_ | refine VO_go ?_ | refine VO_gx ?_ | refine G_cond ?_); simp only [go_sem]) | refine VO_end ?_ | refine Sh.intro ?_ | (refine And.intro (fun _ => ?_) (fun _ => ?_) <;> try (exfalso; omega)) | ((first | refine G_fin ?_ | refine G_ret rfl ?_); simp only [or_self,Qs,Qt,Qu,Qv,Qw,Qx,Qy,Qz,Za,go_sem]))
    refine ⟨hii,?_⟩
    refine G_weak (fr 46 [(1,.one (.d (.bx [.int .i64 g.root,.sl (nds g.l)]))),(4,.one (.d (.sl (ints us)))),(5,vi 0),(6,.one (.own 0 (w.length + 1))),(7,vi (m : Int)),(8,vi (i + 1))]) (by (simp only [go_sem]; repeat' (first | refine And.intro ?_ ?_ | exact Or.inl rfl | exact Or.inr rfl | rfl))) ?_
    exact G_again ⟨g.l.length - (i + 1),by omega,i + 1,by omega,rfl,by rw [hstep]; dsimp only; rw [List.length_append]; rfl⟩
   ·have hx1 : 0 < x.kids.length := by cases h : x.kids with
     | nil => exact absurd h hx0
     | cons a l => simp
    have e3 : decide ((x.kids.length : Int) > 0) = true := decide_eq_true (by omega)
    have hp : ancP x n = true := by unfold ancP; simp [hx0,hn1]
    rw [hp] at hstep
    simp only [if_true] at hstep
    repeat' (first | refine Gx rfl ?_ | ((first | refine G_reg ?_ | refine G_regv ?_ | refine VO_chk ?_ | refine VO_go ?_ | refine VO_gx ?_ | refine G_cond ?_); simp only [e1,e2,e3,go_sem]) | refine VO_end ?_ | refine Sh.intro ?_ | refine ⟨_,⟨Int.natCast_nonneg _,(by first | exact map_at hx | (rw [Int.toNat_natCast]; exact map_at hx)),rfl⟩,Sh.intro ?_⟩ | refine ⟨_,⟨Int.natCast_nonneg _,(by first | exact map_at hn | (rw [Int.toNat_natCast]; exact map_at hn)),rfl⟩,Sh.intro ?_⟩ | (refine And.intro (fun _ => ?_) (fun _ => ?_) <;> try (exfalso; omega)) | ((first | refine G_fin ?_ | refine G_ret rfl ?_); simp only [e1,e2,e3,or_self,Qs,Qt,Qu,Qv,Qw,Qx,Qy,Qz,Za,go_sem]))
    refine ⟨hmi,?_⟩
    repeat' (first | refine Gx rfl ?_ | ((first | refine G_reg ?_ | refine G_regv ?_ | refine VO_chk ?_ | refine VO_go ?_ | refine VO_gx ?_ | refine G_cond ?_); simp only [go_sem]) | refine VO_end ?_ | refine Sh.intro ?_ | (refine And.intro (fun _ => ?_) (fun _ => ?_) <;> try (exfalso; omega)) | ((first | refine G_fin ?_ | refine G_ret rfl ?_); simp only [or_self,Qs,Qt,Qu,Qv,Qw,Qx,Qy,Qz,Za,go_sem]))
    repeat (refine And.intro (by first | (simp; done) | omega | (unfold lenMax; omega) | (simp; omega) | (simp [lenMax]; omega)) ?_)
    rw [show ints w ++ [[D.int .i64 ((m : Int) + 1)]] = ints (w ++ [(((m + 1 : Nat)) : Int)]) from by simp]
    repeat' (first | refine Gx rfl ?_ | ((first | refine G_reg ?_ | refine G_regv ?_ | refine VO_chk ?_ | refine VO_go ?_ | refine VO_gx ?_ | refine G_cond ?_); simp only [go_sem]) | refine VO_end ?_ | refine Sh.intro ?_ | (refine And.intro (fun _ => ?_) (fun _ => ?_) <;> try (exfalso; omega)) | ((first | refine G_fin ?_ | refine G_ret rfl ?_); simp only [or_self,Qs,Qt,Qu,Qv,Qw,Qx,Qy,Qz,Za,go_sem]))
    refine ⟨hii,?_⟩
    refine G_weak (fr 46 [(1,.one (.d (.bx [.int .i64 g.root,.sl (nds g.l)]))),(4,.one (.d (.sl (ints us)))),(5,vi 0),(6,.one (.own 0 (w.length + 1))),(7,vi ((m : Int) + 1)),(8,vi (i + 1))]) (by (simp only [go_sem]; repeat' (first | refine And.intro ?_ ?_ | exact Or.inl rfl | exact Or.inr rfl | rfl))) ?_
    exact G_again ⟨g.l.length - (i + 1),by omega,i + 1,by omega,rfl,by rw [hstep]; dsimp only; rw [List.length_append]; rfl⟩
  ·have e2 : decide (n > 1) = false := decide_eq_false hn1
   have hp : ancP x n = false := by unfold ancP; simp [hn1]
   rw [hp] at hstep
   simp only [Bool.false_eq_true,if_false] at hstep
   repeat' (first | refine Gx rfl ?_ | ((first | refine G_reg ?_ | refine G_regv ?_ | refine VO_chk ?_ | refine VO_go ?_ | refine VO_gx ?_ | refine G_cond ?_); simp only [e1,e2,go_sem]) | refine VO_end ?_ | refine Sh.intro ?_ | refine ⟨_,⟨Int.natCast_nonneg _,(by first | exact map_at hx | (rw [Int.toNat_natCast]; exact map_at hx)),rfl⟩,Sh.intro ?_⟩ | refine ⟨_,⟨Int.natCast_nonneg _,(by first | exact map_at hn | (rw [Int.toNat_natCast]; exact map_at hn)),rfl⟩,Sh.intro ?_⟩ | (refine And.intro (fun _ => ?_) (fun _ => ?_) <;> try (exfalso; omega)) | ((first | refine G_fin ?_ | refine G_ret rfl ?_); simp only [e1,e2,or_self,Qs,Qt,Qu,Qv,Qw,Qx,Qy,Qz,Za,go_sem]))
   repeat (refine And.intro (by first | (simp; done) | omega | (unfold lenMax; omega) | (simp; omega) | (simp [lenMax]; omega)) ?_)
   rw [show ints w ++ [[D.int .i64 0]] = ints (w ++ [0]) from by simp]
   repeat' (first | refine Gx rfl ?_ | ((first | refine G_reg ?_ | refine G_regv ?_ | refine VO_chk ?_ | refine VO_go ?_ | refine VO_gx ?_ | refine G_cond ?_); simp only [go_sem]) | refine VO_end ?_ | refine Sh.intro ?_ | (refine And.intro (fun _ => ?_) (fun _ => ?_) <;> try (exfalso; omega)) | ((first | refine G_fin ?_ | refine G_ret rfl ?_); simp only [or_self,Qs,Qt,Qu,Qv,Qw,Qx,Qy,Qz,Za,go_sem]))
   refine ⟨hii,?_⟩
   refine G_weak (fr 46 [(1,.one (.d (.bx [.int .i64 g.root,.sl (nds g.l)]))),(4,.one (.d (.sl (ints us)))),(5,vi 0),(6,.one (.own 0 (w.length + 1))),(7,vi (m : Int)),(8,vi (i + 1))]) (by (simp only [go_sem]; repeat' (first | refine And.intro ?_ ?_ | exact Or.inl rfl | exact Or.inr rfl | rfl))) ?_
   exact G_again ⟨g.l.length - (i + 1),by omega,i + 1,by omega,rfl,by rw [hstep]; dsimp only; rw [List.length_append]; rfl⟩
 ·obtain rfl : i = g.l.length := by omega
  have e1 : decide ((g.l.length : Int) < (us.length : Int)) = false := decide_eq_false (by omega)
  refine G_freeze 0 ?_
  simp only [go_sem]
  repeat' (first | refine Gx rfl ?_ | ((first | refine G_reg ?_ | refine G_regv ?_ | refine VO_chk ?_ | refine VO_go ?_ | refine VO_gx ?_ | refine G_cond ?_); simp only [e1,go_sem]) | refine VO_end ?_ | refine Sh.intro ?_ | refine And.intro (fun _ => ?_) (fun _ => ?_) | ((first | refine G_fin ?_ | refine G_ret rfl ?_); simp only [e1,or_self,Qs,Qt,Qu,Qv,Qw,Qx,Qy,Qz,Za,go_sem]))
  all_goals trace_state
end Go.Fw.L07
