/- Chapter 7,by definition: kids,a key's kid; the law that tells all. -/
import Derived.Test.YtldjkoidjigjpaaGreatDoorVa
import Derived.Test.YtldjkoidjigjpaaGreatDoorIa
set_option linter.all false
namespace Go.Fw.L07
open Go Go.Fw
open Go.Proofs.Tryz renaming prog -> QP
open Nat renaming reduceAdd -> Qa,reduceSub -> Qb,reduceMul -> Qc,reduceLeDiff -> Qd,reduceLT -> Qe,reduceEqDiff -> Qf
open Int renaming reduceToNat -> Qg,reduceLT -> Qh,reduceLE -> Qi,reduceGT -> Qj,reduceGE -> Qk,reduceEq -> Ql,reduceNe -> Qm,reduceBEq -> Qn,reduceBNe -> Qo,reduceAdd -> Qp,reduceSub -> Qq,reduceNeg -> Qr
open Go.Fw.V.one renaming injEq -> Qs
open Go.Fw.V.agg renaming injEq -> Qt
open Go.Fw.V.tup renaming injEq -> Qu
open Go.Fw.A.d renaming injEq -> Qv
open Go.Fw.D.bool renaming injEq -> Qw
open Go.Fw.D.int renaming injEq -> Qx
open Go.Fw.D.str renaming injEq -> Qy
open Go.Fw.D.sl renaming injEq -> Qz
open List.cons renaming injEq -> Za
set_option maxRecDepth 4000
variable {gp : Heap}
def kdO (x : Nd) (k : Int) : Int := (x.kids[k.toNat]?).getD 0
theorem ord_kids (x : Nd) (hk : x.k = 2) (hl : x.keys.length = x.kids.length) : (ordN x x.keys.length).map (kdO x) = kidsOf x := by
 have hzl : (zips x).length = x.keys.length := by unfold zips; simp; omega
 have h1 := ord_isort x hl x.keys.length (Nat.le_refl _)
 have h2 : kidsOf x = (isortN cmpPr (zips x) x.keys.length).map Pr.kid := by
  unfold kidsOf
  rw [if_neg (by omega),pairsOf_map hk hl,<- hzl]
 rw [h2,<- h1,List.map_map]
 apply List.map_congr_left
 intro k hk
 have hkr := ordN_in x _ k hk
 obtain ⟨m,rfl⟩ := Int.eq_ofNat_of_zero_le hkr.1
 obtain ⟨a,ha⟩ := at_lt (l := x.keys) (i := m) (by omega)
 obtain ⟨b,hb⟩ := at_lt (l := x.kids) (i := m) (by omega)
 have hz : (zips x)[m]? = some ⟨a,b⟩ := zip_at ha hb
 simp only [Function.comp,kdO,Int.toNat_natCast,hb,hz,Option.getD_some]
set_option maxHeartbeats 1000000 in
theorem kids7 (g : Gr) (i0 : Int) (hg : Small g) : Does QP gp 19 [g.v,vi i0] (.tup [.one (.d (.sl (ints (kidsOf (ndAt g.l i0))))),vi (atE g.l i0)]) := by
 refine f19_in ?_
 simp only [go_sem]
 by_cases hr : 0 <= i0 /\ i0 < g.l.length
 ·obtain ⟨i,rfl⟩ := Int.eq_ofNat_of_zero_le hr.1
  obtain ⟨x,hx⟩ := at_lt (l := g.l) (i := i) (by omega)
  have hnd : ndAt g.l i = x := by unfold ndAt; rw [if_pos hr,Int.toNat_natCast,hx]; rfl
  have hat : atE g.l i = 0 := by unfold atE; rw [if_pos hr]
  have hsx := hg x (List.mem_of_getElem? hx)
  have c1 := is_map7 (gp := gp) x
  have c2 := order_n (gp := gp) x hsx.1
  rw [hnd,hat]
  by_cases hq : x.k = 1
  ·have e0 : (x.k == 1) = true := by simp [hq]
   have hk : kidsOf x = x.kids := by unfold kidsOf; rw [if_pos hq]
   rw [hk]
   repeat' (first | refine Gx rfl ?_ | ((first | refine G_reg ?_ | refine G_regv ?_ | refine VO_chk ?_ | refine VO_go ?_ | refine VO_gx ?_ | refine G_cond ?_); simp only [f19_r0,f19_r1,f19_r2,f19_r8,f19_r9,f19_r10,f19_r17,f19_r18,f19_r19,f19_r20,f19_r25,f19_r27,f19_r37,e0,go_sem]) | refine VO_end ?_ | refine Sh.intro ?_ | refine ⟨_,⟨Int.natCast_nonneg _,(by first | exact map_at hx | (rw [Int.toNat_natCast]; exact map_at hx)),rfl⟩,Sh.intro ?_⟩ | (refine And.intro (fun _ => ?_) (fun _ => ?_) <;> try (exfalso; omega)) | ((first | refine G_fin ?_ | refine G_ret rfl ?_); simp only [f19_r0,f19_r1,f19_r2,f19_r8,f19_r9,f19_r10,f19_r17,f19_r18,f19_r19,f19_r20,f19_r25,f19_r27,f19_r37,e0,or_self,Qs,Qt,Qu,Qv,Qw,Qx,Qy,Qz,Za,go_sem]))
   all_goals first | (exfalso; omega) | skip
   refine G_reg ?_
   simp only [f19_r11,go_sem]
   repeat (refine And.intro (by first | (simp; done) | omega | (unfold lenMax; omega) | (simp; omega)) ?_)
   refine G_freeze 1 ?_
   simp only [go_sem]
   repeat' (first | refine Gx rfl ?_ | ((first | refine G_reg ?_ | refine G_regv ?_ | refine VO_chk ?_ | refine VO_go ?_ | refine VO_gx ?_ | refine G_cond ?_); simp only [f19_r0,f19_r1,f19_r2,f19_r8,f19_r9,f19_r10,f19_r11,f19_r17,f19_r18,f19_r19,f19_r20,f19_r25,f19_r27,f19_r37,go_sem]) | refine VO_end ?_ | refine Sh.intro ?_ | refine And.intro (fun _ => ?_) (fun _ => ?_) | ((first | refine G_fin ?_ | refine G_ret rfl ?_); simp only [f19_r0,f19_r1,f19_r2,f19_r8,f19_r9,f19_r10,f19_r11,f19_r17,f19_r18,f19_r19,f19_r20,f19_r25,f19_r27,f19_r37,or_self,Qs,Qt,Qu,Qv,Qw,Qx,Qy,Qz,Za,go_sem]))
   all_goals trace_state
  ·have e0 : (x.k == 1) = false := by simp [hq]
   by_cases hm : x.k = 2 /\ x.keys.length = x.kids.length
   ·rw [decide_eq_true hm] at c1
    have hok := ord_kids x hm.1 hm.2
    have hol := ordN_len x x.keys.length
    have hin := ordN_in x x.keys.length
    generalize ordN x x.keys.length = out at *
    repeat' (first | refine Gx rfl ?_ | ((first | refine G_reg ?_ | refine G_regv ?_ | refine VO_chk ?_ | refine VO_go ?_ | refine VO_gx ?_ | refine G_cond ?_); simp only [f19_r0,f19_r1,f19_r2,f19_r8,f19_r9,f19_r10,f19_r11,f19_r17,f19_r18,f19_r19,f19_r20,f19_r25,f19_r27,f19_r37,e0,go_sem]) | refine VO_end ?_ | refine Sh.intro ?_ | refine ⟨_,c1,Sh.intro ?_⟩ | refine ⟨_,⟨c1,rfl⟩,Sh.intro ?_⟩ | refine ⟨_,c2,Sh.intro ?_⟩ | refine ⟨_,⟨c2,rfl⟩,Sh.intro ?_⟩ | refine ⟨_,⟨Int.natCast_nonneg _,(by first | exact map_at hx | (rw [Int.toNat_natCast]; exact map_at hx)),rfl⟩,Sh.intro ?_⟩ | (refine And.intro (fun _ => ?_) (fun _ => ?_) <;> try (exfalso; omega)) | ((first | refine G_fin ?_ | refine G_ret rfl ?_); simp only [f19_r0,f19_r1,f19_r2,f19_r8,f19_r9,f19_r10,f19_r11,f19_r17,f19_r18,f19_r19,f19_r20,f19_r25,f19_r27,f19_r37,e0,or_self,Qs,Qt,Qu,Qv,Qw,Qx,Qy,Qz,Za,go_sem]))
    all_goals first | (exfalso; omega) | skip
    refine G_row0 7 1 (by decide) rfl ?_
    simp only [go_sem]
    refine G_weak (fr 53 [(1,vi i),(2,.one (.d (.bx [.int .i64 g.root,.sl (nds g.l)]))),(6,.one (.ptr 0 0)),(7,.one (.own 1 (0 : Nat))),(8,.one (.d (.sl (ints out)))),(9,vi (0 : Nat))]) (by (simp only [go_sem]; repeat' (first | refine And.intro ?_ ?_ | exact Or.inl rfl | exact Or.inr rfl | rfl))) ?_
    refine G_loop (fun mz sz => ∃ j : Nat,j <= out.length /\ mz = out.length - j /\ (0 <= j) /\ sz = ⟨fr 53 [(1,vi i),(2,.one (.d (.bx [.int .i64 g.root,.sl (nds g.l)]))),(6,.one (.ptr 0 0)),(7,.one (.own 1 j)),(8,.one (.d (.sl (ints out)))),(9,vi j)],[.cells x.as,.row 1 j (ints ((out.map (kdO x)).take j))]⟩) (out.length) ⟨0,Nat.zero_le _,(Nat.sub_zero _).symm,?_,rfl⟩ ?_
    ·exact Nat.zero_le _
    rintro _ _ ⟨j,hj,rfl,-,rfl⟩
    simp only [go_sem]
    by_cases hjl : j < out.length
    ·obtain ⟨k,hk⟩ := at_lt hjl
     have hkr := hin k (List.mem_of_getElem? hk)
     obtain ⟨m,rfl⟩ := Int.eq_ofNat_of_zero_le hkr.1
     obtain ⟨a,ha⟩ := at_lt (l := x.kids) (i := m) (by omega)
     have hka : (out.map (kdO x))[j]? = some a := by rw [List.getElem?_map,hk]; simp [kdO,ha]
     repeat' (first | refine Gx rfl ?_ | ((first | refine G_reg ?_ | refine G_regv ?_ | refine VO_chk ?_ | refine VO_go ?_ | refine VO_gx ?_ | refine G_cond ?_); simp only [f19_r0,f19_r1,f19_r2,f19_r8,f19_r9,f19_r10,f19_r11,f19_r17,f19_r18,f19_r19,f19_r20,f19_r25,f19_r27,f19_r37,go_sem]) | refine VO_end ?_ | refine Sh.intro ?_ | refine ⟨_,⟨Int.natCast_nonneg _,(by first | exact map_at hx | (rw [Int.toNat_natCast]; exact map_at hx)),rfl⟩,Sh.intro ?_⟩ | refine ⟨_,⟨Int.natCast_nonneg _,(by first | exact map_at hk | (rw [Int.toNat_natCast]; exact map_at hk)),rfl⟩,Sh.intro ?_⟩ | refine ⟨_,⟨Int.natCast_nonneg _,(by first | exact map_at ha | (rw [Int.toNat_natCast]; exact map_at ha)),rfl⟩,Sh.intro ?_⟩ | (refine And.intro (fun _ => ?_) (fun _ => ?_) <;> try (exfalso; omega)) | ((first | refine G_fin ?_ | refine G_ret rfl ?_); simp only [f19_r0,f19_r1,f19_r2,f19_r8,f19_r9,f19_r10,f19_r11,f19_r17,f19_r18,f19_r19,f19_r20,f19_r25,f19_r27,f19_r37,or_self,Qs,Qt,Qu,Qv,Qw,Qx,Qy,Qz,Za,go_sem]))
     all_goals first | (exfalso; omega) | skip
     refine ⟨by simp,by simp; omega,by simp [lenMax]; omega,?_⟩
     rw [show ints ((out.map (kdO x)).take j) ++ [_] = ints ((out.map (kdO x)).take (j + 1)) from ints_snoc hka]
     repeat' (first | refine Gx rfl ?_ | ((first | refine G_reg ?_ | refine G_regv ?_ | refine VO_chk ?_ | refine VO_go ?_ | refine VO_gx ?_ | refine G_cond ?_); simp only [f19_r0,f19_r1,f19_r2,f19_r8,f19_r9,f19_r10,f19_r11,f19_r17,f19_r18,f19_r19,f19_r20,f19_r25,f19_r27,f19_r37,go_sem]) | refine VO_end ?_ | refine Sh.intro ?_ | (refine And.intro (fun _ => ?_) (fun _ => ?_) <;> try (exfalso; omega)) | ((first | refine G_fin ?_ | refine G_ret rfl ?_); simp only [f19_r0,f19_r1,f19_r2,f19_r8,f19_r9,f19_r10,f19_r11,f19_r17,f19_r18,f19_r19,f19_r20,f19_r25,f19_r27,f19_r37,or_self,Qs,Qt,Qu,Qv,Qw,Qx,Qy,Qz,Za,go_sem]))
     refine ⟨inK_nat hjl (by unfold lenMax; omega),?_⟩
     refine G_weak (fr 53 [(1,vi i),(2,.one (.d (.bx [.int .i64 g.root,.sl (nds g.l)]))),(6,.one (.ptr 0 0)),(7,.one (.own 1 (j + 1))),(8,.one (.d (.sl (ints out)))),(9,vi (j + 1))]) (by (simp only [go_sem]; repeat' (first | refine And.intro ?_ ?_ | exact Or.inl rfl | exact Or.inr rfl | rfl))) ?_
     refine G_again ⟨out.length - (j + 1),by omega,j + 1,by omega,rfl,?_,rfl⟩
     exact Nat.zero_le _
    ·obtain rfl : out.length = j := by omega
     rw [List.take_of_length_le (by simp),hok]
     repeat' (first | refine Gx rfl ?_ | ((first | refine G_reg ?_ | refine G_regv ?_ | refine VO_chk ?_ | refine VO_go ?_ | refine VO_gx ?_ | refine G_cond ?_); simp only [f19_r0,f19_r1,f19_r2,f19_r8,f19_r9,f19_r10,f19_r11,f19_r17,f19_r18,f19_r19,f19_r20,f19_r25,f19_r27,go_sem]) | refine VO_end ?_ | refine Sh.intro ?_ | (refine And.intro (fun _ => ?_) (fun _ => ?_) <;> try (exfalso; omega)) | ((first | refine G_fin ?_ | refine G_ret rfl ?_); simp only [f19_r0,f19_r1,f19_r2,f19_r8,f19_r9,f19_r10,f19_r11,f19_r17,f19_r18,f19_r19,f19_r20,f19_r25,f19_r27,or_self,Qs,Qt,Qu,Qv,Qw,Qx,Qy,Qz,Za,go_sem]))
     all_goals first | (exfalso; omega) | skip
     refine G_freeze 1 ?_
     simp only [go_sem]
     repeat' (first | refine Gx rfl ?_ | ((first | refine G_reg ?_ | refine G_regv ?_ | refine VO_chk ?_ | refine VO_go ?_ | refine VO_gx ?_ | refine G_cond ?_); simp only [f19_r0,f19_r1,f19_r2,f19_r8,f19_r9,f19_r10,f19_r11,f19_r17,f19_r18,f19_r19,f19_r20,f19_r25,f19_r27,f19_r37,go_sem]) | refine VO_end ?_ | refine Sh.intro ?_ | refine And.intro (fun _ => ?_) (fun _ => ?_) | ((first | refine G_fin ?_ | refine G_ret rfl ?_); simp only [f19_r0,f19_r1,f19_r2,f19_r8,f19_r9,f19_r10,f19_r11,f19_r17,f19_r18,f19_r19,f19_r20,f19_r25,f19_r27,f19_r37,or_self,Qs,Qt,Qu,Qv,Qw,Qx,Qy,Qz,Za,go_sem]))
     all_goals trace_state
   ·rw [decide_eq_false hm] at c1
    have hk : kidsOf x = [] := by unfold kidsOf pairsOf; rw [if_neg hq,if_neg hm]; rfl
    rw [hk]
    repeat' (first | refine Gx rfl ?_ | ((first | refine G_reg ?_ | refine G_regv ?_ | refine VO_chk ?_ | refine VO_go ?_ | refine VO_gx ?_ | refine G_cond ?_); simp only [f19_r0,f19_r1,f19_r2,f19_r8,f19_r9,f19_r10,f19_r11,f19_r17,f19_r18,f19_r19,f19_r20,f19_r25,f19_r27,f19_r37,e0,go_sem]) | refine VO_end ?_ | refine Sh.intro ?_ | refine ⟨_,c1,Sh.intro ?_⟩ | refine ⟨_,⟨c1,rfl⟩,Sh.intro ?_⟩ | refine ⟨_,⟨Int.natCast_nonneg _,(by first | exact map_at hx | (rw [Int.toNat_natCast]; exact map_at hx)),rfl⟩,Sh.intro ?_⟩ | (refine And.intro (fun _ => ?_) (fun _ => ?_) <;> try (exfalso; omega)) | ((first | refine G_fin ?_ | refine G_ret rfl ?_); simp only [f19_r0,f19_r1,f19_r2,f19_r8,f19_r9,f19_r10,f19_r11,f19_r17,f19_r18,f19_r19,f19_r20,f19_r25,f19_r27,f19_r37,e0,or_self,Qs,Qt,Qu,Qv,Qw,Qx,Qy,Qz,Za,go_sem]))
    all_goals first | (exfalso; omega) | trace_state
 ·have hat : atE g.l i0 = 2 := by unfold atE; rw [if_neg hr]
  have hk : kidsOf (ndAt g.l i0) = [] := by rw [node_off hr]; rfl
  rw [hat,hk]
  repeat' (first | refine Gx rfl ?_ | ((first | refine G_reg ?_ | refine G_regv ?_ | refine VO_chk ?_ | refine VO_go ?_ | refine VO_gx ?_ | refine G_cond ?_); simp only [f19_r0,f19_r1,f19_r2,f19_r8,f19_r9,f19_r10,f19_r11,f19_r17,f19_r18,f19_r19,f19_r20,f19_r25,f19_r27,f19_r37,go_sem]) | refine VO_end ?_ | refine Sh.intro ?_ | (refine And.intro (fun _ => ?_) (fun _ => ?_) <;> try (exfalso; omega)) | ((first | refine G_fin ?_ | refine G_ret rfl ?_); simp only [f19_r0,f19_r1,f19_r2,f19_r8,f19_r9,f19_r10,f19_r11,f19_r17,f19_r18,f19_r19,f19_r20,f19_r25,f19_r27,f19_r37,or_self,Qs,Qt,Qu,Qv,Qw,Qx,Qy,Qz,Za,go_sem]))
  all_goals first | (exfalso; omega) | trace_state
theorem cut1_size (s : ByteArray) : (cut1 s).size <= 100 := by
 unfold cut1
 rw [ByteArray.size_extract]
 omega
theorem cut_short (g : Gr) : ∀ x ∈ g.cut.l,x.short := by
 intro x hx
 obtain ⟨y,_,rfl⟩ := List.mem_map.1 hx
 refine ⟨by simp [Nd.cut]; omega,by simp [Nd.cut]; omega,?_,fun z hz => ?_⟩
 ·exact Nat.le_trans (cut1_size _) (by omega)
 ·obtain ⟨u,_,rfl⟩ := List.mem_map.1 hz
  exact Nat.le_trans (cut1_size _) (by omega)
end Go.Fw.L07
