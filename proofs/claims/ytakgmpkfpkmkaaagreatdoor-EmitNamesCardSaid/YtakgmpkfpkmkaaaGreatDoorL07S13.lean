/- Chapter 13: what is known. -/
import Derived.Test.YtakgmpkfpkmkaaaGreatDoorNc
set_option linter.all false
namespace Go.Fw.L07
open Go Go.Fw
open Go.Fw.Sh renaming intro -> Kg
open Go.Fw renaming G_reg -> Ka,VO_chk -> Kb,VO_go -> Kc,VO_gx -> Kd,G_cond -> Ke,VO_end -> Kf,G_fin -> Kh,G_ret -> Ki,Gx -> Kn
open Go.Proofs.Tryz renaming prog -> QP
open Go.Fw.V.one renaming injEq -> Qs
open Go.Fw.V.agg renaming injEq -> Qt
open Go.Fw.V.tup renaming injEq -> Qu
open Go.Fw.A.d renaming injEq -> Qv
open Go.Fw.D.bool renaming injEq -> Qw
open Go.Fw.D.int renaming injEq -> Qx
open Go.Fw.D.str renaming injEq -> Qy
open Go.Fw.D.sl renaming injEq -> Qz
open List.cons renaming injEq -> Za
set_option maxRecDepth 4000
variable {gp : Heap}
theorem EmW.inv {g : Gr} {d : Nat} {c : Int} {t met met' : List Int} {q : List Tr} (h : EmW g d (c :: t) met q met') : ∃ (i : Nat) (y : Nd) (p : Tr) (q2 : List Tr) (met1 : List Int),c = (i : Int) /\ g.l[i]? = some y /\ q = p :: q2 /\ EmW g d t met1 q2 met' /\
  ((y.kids = [] /\ met1 = met /\ p = .mk y.k ⟨#[]⟩ y.x y.keys []) \/ (y.kids ≠ [] /\ c ∈ met /\ met1 = met /\ p = .mk 3 (aName (anc g i)) z13 [] []) \/
    (y.kids ≠ [] /\ c ∉ met /\ ∃ q1,EmW g (d + 1) y.kids (met ++ [c]) q1 met1 /\ p = .mk y.k (aName (anc g i)) y.x y.keys q1)) := by
 cases h with
 | leaf hy hk h => exact ⟨_,_,_,_,_,rfl,hy,rfl,h,.inl ⟨hk,rfl,rfl⟩⟩
 | ref hy hk hm ha h => exact ⟨_,_,_,_,_,rfl,hy,rfl,h,.inr (.inl ⟨hk,hm,rfl,rfl⟩)⟩
 | node hy hk hm hd h1 h2 => exact ⟨_,_,_,_,_,rfl,hy,rfl,h2,.inr (.inr ⟨hk,hm,_,h1,rfl⟩)⟩
theorem EmW.det {g : Gr} {d : Nat} {t met m1 : List Int} {q : List Tr} (h : EmW g d t met q m1) : ∀ {q' : List Tr} {m2 : List Int},EmW g d t met q' m2 -> q' = q /\ m2 = m1 := by
 induction h with
 | nil => intro q' m2 h'; cases h'; exact ⟨rfl,rfl⟩
 | leaf hy hk h ih =>
  intro q' m2 h'
  obtain ⟨i,y,p,q2,met1,e,hy',rfl,h2,hc⟩ := h'.inv
  obtain rfl := Int.ofNat.inj e
  rw [hy] at hy'; cases hy'
  rcases hc with ⟨_,rfl,rfl⟩ | ⟨hn,_⟩ | ⟨hn,_⟩
  ·obtain ⟨rfl,rfl⟩ := ih h2; exact ⟨rfl,rfl⟩
  ·exact absurd hk hn
  ·exact absurd hk hn
 | ref hy hk hm ha h ih =>
  intro q' m2 h'
  obtain ⟨i,y,p,q2,met1,e,hy',rfl,h2,hc⟩ := h'.inv
  obtain rfl := Int.ofNat.inj e
  rw [hy] at hy'; cases hy'
  rcases hc with ⟨hn,_⟩ | ⟨_,_,rfl,rfl⟩ | ⟨_,hn,_⟩
  ·exact absurd hn hk
  ·obtain ⟨rfl,rfl⟩ := ih h2; exact ⟨rfl,rfl⟩
  ·exact absurd hm hn
 | node hy hk hm hd h1 h2 ih1 ih2 =>
  intro q' m2 h'
  obtain ⟨i,y,p,q2,met1,e,hy',rfl,h3,hc⟩ := h'.inv
  obtain rfl := Int.ofNat.inj e
  rw [hy] at hy'; cases hy'
  rcases hc with ⟨hn,_⟩ | ⟨_,hn,_⟩ | ⟨_,_,q1,h4,rfl⟩
  ·exact absurd hn hk
  ·exact absurd hn hm
  ·obtain ⟨rfl,rfl⟩ := ih1 h4
   obtain ⟨rfl,rfl⟩ := ih2 h3
   exact ⟨rfl,rfl⟩
theorem emT_eq {g : Gr} (hg : Tdy g) (hd : deepQ g) {t : Tr} {met : List Int} (h : EmW g 1 [0] [] [t] met) : emT g = t := by
 obtain ⟨m,h1,_⟩ := emT_ok hg hd
 have := (h.det h1).1
 simpa using this
abbrev k13 : Sc := ⟨3,0,⟨#[107]⟩⟩
def n13a : Nd := ⟨1,z13,[],[1,0]⟩
def n13b : Nd := ⟨2,z13,[k13],[2]⟩
def n13c : Nd := ⟨0,⟨2,5,⟨#[]⟩⟩,[],[]⟩
def g13 : Gr := ⟨0,[n13a,n13b,n13c]⟩
theorem small_of13 {g : Gr} (h : (g.l.all fun x => decide (x.keys.length <= 12 /\ x.kids.length <= 12)) = true) : Small g := by
 intro x hx
 have := List.all_eq_true.1 h x hx
 simpa using this
theorem g13_good : Good g13 := ⟨by kernel_rfl,small_of13 (by kernel_rfl)⟩
theorem g13_0 : kd g13 0 = [1,0] := by kernel_rfl
theorem g13_1 : kd g13 1 = [2] := by kernel_rfl
theorem g13_2 : kd g13 2 = [] := by kernel_rfl
theorem g13_walk : walkL g13 = [0,1,2] := by
 have : Walks (kd g13) [0] [] [0,1,2] := by
  refine .step (by simp) ?_
  rw [g13_0]
  refine .step (by simp) ?_
  rw [g13_1]
  refine .step (by simp) ?_
  rw [g13_2]
  exact .skip (by simp) (.nil _)
 exact this.eq
theorem g13_tidy' : (⟨0,[0,1,2].map fun i => tidyN [0,1,2] (ndAt g13.l i)⟩ : Gr) = g13 := by kernel_rfl
theorem g13_tidy : tidyG g13 = g13 := by
 have : tidyG g13 = ⟨0,[0,1,2].map fun i => tidyN [0,1,2] (ndAt g13.l i)⟩ := by rw [<- g13_walk]; rfl
 rw [this,g13_tidy']
theorem g13_tdy : Tdy g13 := by have := g13_good.tdy; rwa [g13_tidy] at this
theorem g13_anc : ancL g13 = [1,0,0] := by kernel_rfl
theorem g13_dep : depL g13 = [1,2,3] := by
 have h2 : DepW (kd g13) 3 [((2 : Nat) : Int)] [1,2,0] [1,2,3] := by
  refine .step (x := 0) rfl (by omega) (b := [1,2,3]) ?_ (.nil _ _)
  rw [show kd g13 ((2 : Nat) : Int) = [] from g13_2]
  exact .nil _ _
 have h1 : DepW (kd g13) 2 [((1 : Nat) : Int),((0 : Nat) : Int)] [1,0,0] [1,2,3] := by
  refine .step (x := 0) rfl (by omega) (b := [1,2,3]) ?_ (.skip (x := 1) rfl (by omega) (.nil _ _))
  rw [show kd g13 ((1 : Nat) : Int) = [2] from g13_1]
  exact h2
 have h0 : DepW (kd g13) 1 [((0 : Nat) : Int)] [0,0,0] [1,2,3] := by
  refine .step (x := 0) rfl (by omega) (b := [1,2,3]) ?_ (.nil _ _)
  rw [show kd g13 ((0 : Nat) : Int) = [1,0] from g13_0]
  exact h1
 exact h0.eq
theorem g13_deep : deepQ g13 := by
 intro i x d hx hd
 rw [g13_dep] at hd
 match i,hd with
 | 0,hd => cases hd; omega
 | 1,hd => cases hd; omega
 | 2,hd => cases hd; omega
theorem g13_a0 : anc g13 0 = 1 := by unfold anc; rw [g13_anc]; rfl
theorem g13_place : placeL g13 = 3 := by
 unfold placeL
 have h0 : anc g13 0 = 1 := g13_a0
 have h1 : anc g13 1 = 0 := by unfold anc; rw [g13_anc]; rfl
 have h2 : anc g13 2 = 0 := by unfold anc; rw [g13_anc]; rfl
 show ((0 + (if 0 < anc g13 0 then _ else _)) + (if 0 < anc g13 1 then _ else _)) + (if 0 < anc g13 2 then _ else _) = (3 : Int)
 rw [h0,h1,h2]
 decide
abbrev t13 : Tr := .mk 1 (aName 1) z13 [] [.mk 2 ⟨#[]⟩ z13 [k13] [.mk 0 ⟨#[]⟩ ⟨2,5,⟨#[]⟩⟩ [] []],.mk 3 (aName 1) z13 [] []]
theorem g13_em : EmW g13 1 [0] [] [t13] [0,1] := by
 have h2 : EmW g13 3 [((2 : Nat) : Int)] [0,1] [.mk 0 ⟨#[]⟩ ⟨2,5,⟨#[]⟩⟩ [] []] [0,1] := .leaf (y := n13c) rfl rfl (.nil _ _)
 have h1 : EmW g13 2 [((1 : Nat) : Int),((0 : Nat) : Int)] [0] [.mk 2 ⟨#[]⟩ z13 [k13] [.mk 0 ⟨#[]⟩ ⟨2,5,⟨#[]⟩⟩ [] []],.mk 3 (aName 1) z13 [] []] [0,1] := by
  have hr : EmW g13 2 [((0 : Nat) : Int)] [0,1] [.mk 3 (aName 1) z13 [] []] [0,1] := by
   have := EmW.ref (g := g13) (d := 2) (i := 0) (y := n13a) (t := []) (met := [0,1]) (met' := [0,1]) (q := []) rfl (by simp [n13a]) (by simp) (by rw [g13_a0]; decide) (.nil _ _)
   rwa [g13_a0] at this
  have h1a : anc g13 1 = 0 := by unfold anc; rw [g13_anc]; rfl
  have := EmW.node (g := g13) (d := 2) (i := 1) (y := n13b) (t := [((0 : Nat) : Int)]) (met := [0]) (met1 := [0,1]) (met' := [0,1]) rfl (by simp [n13b]) (by simp) (by omega) h2 hr
  rw [h1a,aName_nil (by omega)] at this
  exact this
 have := EmW.node (g := g13) (d := 1) (i := 0) (y := n13a) (t := []) (met := []) (met1 := [0,1]) (met' := [0,1]) rfl (by simp [n13a]) (by simp) (by omega) h1 (.nil _ _)
 rw [g13_a0] at this
 exact this
theorem g13_lines : topL t13 = [[38,97,49],[45],[32,32,34,107,34,58,32,53],[45,32,42,97,49]] := by kernel_rfl
theorem g13_out : outE g13 = (topL t13,0) := by
 have he := emT_eq g13_tdy g13_deep g13_em
 rw [outE_ok ⟨g13_tdy.good.c,g13_tdy.self⟩ g13_deep (by rw [g13_place]; omega) (by rw [he,g13_lines]; decide),he]
theorem g13_short : ∀ x ∈ g13.l,x.short := by
 intro x hx
 simp only [g13,List.mem_cons,List.not_mem_nil,or_false] at hx
 rcases hx with rfl | rfl | rfl <;> simp [Nd.short,Sc.short,n13a,n13b,n13c] <;> decide
theorem shown13_ok (h : Env13 gp) : Does QP gp 9 [] (vb true) := by
 have c1 := text13 h g13_good.s g13_short
 have c2 := lines13 h g13_good.s g13_short
 have c3 := size13 h g13_good.s g13_short
 have hs1 : Small (⟨1,g13.l⟩ : Gr) := small_of13 (by kernel_rfl)
 have c4 := text13 h hs1 g13_short
 rw [outE_bad (g := ⟨1,g13.l⟩) (fun e => by have := congrArg Gr.root e.2; cases this)] at c4
 rw [g13_out,g13_lines] at c1 c2 c3
 have e1 : bT (textL [[38,97,49],[45],[32,32,34,107,34,58,32,53],[45,32,42,97,49]]) = ⟨#[38,97,49,10,45,10,32,32,34,107,34,58,32,53,10,45,32,42,97,49,10]⟩ := rfl
 have e2 : sizeL [[38,97,49],[45],[32,32,34,107,34,58,32,53],[45,32,42,97,49]] = 21 := rfl
 simp only [e1,e2] at c1 c2 c3
 refine f9_in ?_
 simp only [go_sem]
 repeat' (first | refine Kn rfl ?_ | ((first | refine Ka ?_ | refine Kb ?_ | refine Kc ?_ | refine Kd ?_ | refine Ke ?_); simp only [go_sem]) | refine Kf ?_ | refine Kg ?_ | refine ⟨_,c1,Kg ?_⟩ | refine ⟨_,⟨c1,rfl⟩,Kg ?_⟩ | refine ⟨_,c2,Kg ?_⟩ | refine ⟨_,⟨c2,rfl⟩,Kg ?_⟩ | refine ⟨_,c3,Kg ?_⟩ | refine ⟨_,⟨c3,rfl⟩,Kg ?_⟩ | refine ⟨_,c4,Kg ?_⟩ | refine ⟨_,⟨c4,rfl⟩,Kg ?_⟩ | refine And.intro (fun _ => ?_) (fun _ => ?_) | ((first | refine Kh ?_ | refine Ki rfl ?_); simp only [or_self,Qs,Qt,Qu,Qv,Qw,Qx,Qy,Qz,Za,go_sem]))
 all_goals (rename_i hh; exact absurd rfl hh)
end Go.Fw.L07
