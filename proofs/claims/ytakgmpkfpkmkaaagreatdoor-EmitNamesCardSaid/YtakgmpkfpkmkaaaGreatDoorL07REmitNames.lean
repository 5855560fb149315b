/- EmitNames. -/
import Derived.Test.YtakgmpkfpkmkaaaGreatDoorL07S13
import Derived.Test.YtakgmpkfpkmkaaaGreatDoorNc
import Derived.Test.YtakgmpkfpkmkaaaGreatDoorL07Q13
set_option linter.all false
namespace Go.Fw.L07
open Go Go.Fw
open Go.Fw.Sh renaming intro -> Kg
open Go.Fw renaming G_reg -> Ka,VO_chk -> Kb,VO_go -> Kc,VO_gx -> Kd,G_cond -> Ke,VO_end -> Kf,G_fin -> Kh,G_ret -> Ki,G_weak -> Kj,G_again -> Kl,G_loop -> Km,Gx -> Kn
open Int renaming natCast_nonneg -> Kq
open And renaming intro -> Kp
open Go.Proofs.Tryz renaming prog -> QP
open Go.Fw.V.one renaming injEq -> Qs
open Go.Fw.V.agg renaming injEq -> Qt
open Go.Fw.V.tup renaming injEq -> Qu
open Go.Fw.A.d renaming injEq -> Qv
open Go.Fw.D.bool renaming injEq -> Qw
open Go.Fw.D.int renaming injEq -> Qx
open Go.Fw.D.str renaming injEq -> Qy
open Go.Fw.D.sl renaming injEq -> Qz
open List.cons renaming injEq -> Za
set_option maxRecDepth 4000
variable {gp : Heap}
theorem num13 : ∀ (N u : Nat),u <= N -> u < 1000000000000000000 -> Does QP gp 20 [vi u] (vs (bT (Lib.itoa u))) := by
 have e0 : ∀ u : Nat,Lib.itoa (u : Int) = Lib.decDigits u := fun u => by unfold Lib.itoa; rw [if_neg (by omega),Int.toNat_natCast]
 intro N
 induction N with
 | zero =>
  intro u h0 hu
  obtain rfl : u = 0 := by omega
  have hi0 : inK .i64 1 := by simp [inK,IntKind.min,IntKind.max,IntKind.signed,IntKind.bits]
  refine f20_in ?_
  simp only [go_sem]
  repeat' (first | refine Kn rfl ?_ | ((first | refine Ka ?_ | refine Kb ?_ | refine Kc ?_ | refine Kd ?_ | refine Ke ?_); simp only [go_sem]) | refine Kf ?_ | refine Kg ?_ | refine ⟨0,1,⟨rfl,rfl,by decide,by decide⟩,Kg ?_⟩ | refine ⟨hi0,?_⟩ | (refine Kp (fun _ => ?_) (fun _ => ?_) <;> try (exfalso; omega)) | ((first | refine Kh ?_ | refine Ki rfl ?_); simp only [or_self,Qs,Qt,Qu,Qv,Qw,Qx,Qy,Qz,Za,go_sem]))
  all_goals (first | rfl | (rw [show Lib.itoa (0 : Int) = Lib.decDigits 0 from e0 0,Lib.decDigits]; rfl) | trace_state)
 | succ N ih =>
  intro u h0 hu
  by_cases h10 : u < 10
  ·have e1 : decide ((u : Int) < 0) = false := by simp
   have e2 : decide ((u : Int) < 10) = true := by simp; omega
   have hd := dec_cut u h10
   have hi1 : inK .i64 ((u : Int) + 1) := by simp [inK,IntKind.min,IntKind.max,IntKind.signed,IntKind.bits]; omega
   have hu1 : u <= u + 1 := by omega
   have hu2 : u + 1 <= 10 := by omega
   have hm : (if (u : Int) < 0 then 0 else (u : Int)) = u := by rw [if_neg (by omega)]
   rw [e0,Lib.decDigits,dif_pos h10]
   refine f20_in ?_
   simp only [go_sem]
   repeat' (first | refine Kn rfl ?_ | ((first | refine Ka ?_ | refine Kb ?_ | refine Kc ?_ | refine Kd ?_ | refine Ke ?_); simp only [e1,e2,hd,hm,go_sem]) | refine Kf ?_ | refine Kg ?_ | refine ⟨u,u + 1,⟨rfl,rfl,hu1,hu2⟩,Kg ?_⟩ | refine ⟨hi1,?_⟩ | (refine Kp (fun _ => ?_) (fun _ => ?_) <;> try (exfalso; omega)) | ((first | refine Kh ?_ | refine Ki rfl ?_); simp only [e1,e2,hd,hm,or_self,Qs,Qt,Qu,Qv,Qw,Qx,Qy,Qz,Za,go_sem]))
   all_goals trace_state
  ·have e2 : decide ((u : Int) < 10) = false := by simp; omega
   have q1 : Int.tdiv (u : Int) 10 = ((u / 10 : Nat) : Int) := tdiv_nat u 10
   have q2 : Int.tmod (u : Int) 10 = ((u % 10 : Nat) : Int) := rfl
   have c1 := ih (u / 10) (by omega) (by omega)
   rw [e0] at c1
   have hd := dec_cut (u % 10) (by omega)
   have hi1 : inK .i64 (((u % 10 : Nat) : Int) + 1) := by simp [inK,IntKind.min,IntKind.max,IntKind.signed,IntKind.bits]; omega
   have hi2 : inK .i64 ((u / 10 : Nat) : Int) := by simp [inK,IntKind.min,IntKind.max,IntKind.signed,IntKind.bits]; omega
   have hi3 : inK .i64 ((u % 10 : Nat) : Int) := by simp [inK,IntKind.min,IntKind.max,IntKind.signed,IntKind.bits]; omega
   have hu1 : u % 10 <= u % 10 + 1 := by omega
   have hu2 : u % 10 + 1 <= 10 := by omega
   have hl := decD_len (u / 10) (by omega)
   have hsz : (((bT (Lib.decDigits (u / 10))).size + (bT [UInt8.ofNat (48 + u % 10)]).size : Nat) : Int) <= 9223372036854775807 := by rw [bT_size',bT_size']; simp; omega
   have hap := bT_app' (Lib.decDigits (u / 10)) [UInt8.ofNat (48 + u % 10)]
   rw [e0,Lib.decDigits,dif_neg h10]
   refine f20_in ?_
   simp only [go_sem]
   repeat' (first | refine Kn rfl ?_ | ((first | refine Ka ?_ | refine Kb ?_ | refine Kc ?_ | refine Kd ?_ | refine Ke ?_); simp only [e2,q1,q2,hd,hap,go_sem]) | refine Kf ?_ | refine Kg ?_ | refine ⟨_,c1,Kg ?_⟩ | refine ⟨_,⟨c1,rfl⟩,Kg ?_⟩ | refine ⟨u % 10,u % 10 + 1,⟨rfl,rfl,hu1,hu2⟩,Kg ?_⟩ | refine ⟨hsz,?_⟩ | refine ⟨hi1,?_⟩ | refine ⟨hi2,?_⟩ | refine ⟨hi3,?_⟩ | (refine Kp (fun _ => ?_) (fun _ => ?_) <;> try (exfalso; omega)) | ((first | refine Kh ?_ | refine Ki rfl ?_); simp only [e2,q1,q2,hd,hap,or_self,Qs,Qt,Qu,Qv,Qw,Qx,Qy,Qz,Za,go_sem]))
   all_goals trace_state
def Cln (w : List UInt8) : Prop := ∀ c ∈ w,c ≠ 32 /\ c ≠ 34
def Wd (s w : List UInt8) : Prop := ∃ p,s = p ++ w /\ Cln w /\ (p = [] \/ ∃ p' c,p = p' ++ [c] /\ (c = 32 \/ c = 34))
def Pln (w : List UInt8) : Prop := w.head? ≠ some 38 /\ w.head? ≠ some 42
def PlnW (s : List UInt8) : Prop := ∃ w,Wd s w /\ Pln w
theorem wd_blank {w : List UInt8} (h : Cln w) (p : List UInt8) : Wd (p ++ 32 :: w) w := ⟨p ++ [32],by simp,h,.inr ⟨p,32,rfl,.inl rfl⟩⟩
theorem wd_all {w : List UInt8} (h : Cln w) : Wd w w := ⟨[],rfl,h,.inl rfl⟩
theorem wd_blk {w : List UInt8} (h : Cln w) (n : Nat) : Wd (blk13 n ++ w) w := by
 refine ⟨blk13 n,rfl,h,?_⟩
 cases n with
 | zero => exact .inl rfl
 | succ n => exact .inr ⟨blk13 n,32,by unfold blk13; rw [List.replicate_succ'],.inl rfl⟩
theorem wd_quote {w : List UInt8} (h : Cln w) (p : List UInt8) : Wd (p ++ 34 :: w) w := ⟨p ++ [34],by simp,h,.inr ⟨p,34,rfl,.inr rfl⟩⟩
theorem cln_nil : Cln [] := fun _ h => by cases h
def BareOK (s : List UInt8) : Prop := (∃ u,s = u ++ [34]) \/ (Cln s /\ Pln s /\ s ≠ [])
theorem itoa_cln (n : Int) : Cln (Lib.itoa n) := fun c hc => by
 have := itoa_byte n c hc
 constructor
 ·rintro rfl; revert this; decide
 ·rintro rfl; revert this; decide
theorem scB_bareOK {x : Sc} (h : prR rightS x = true) : BareOK (scB x) := by
 unfold scB boolB
 rcases prR_kind h with ⟨h1,h2⟩ | ⟨h1,h2,h3⟩ | ⟨h1,h2,h3⟩ | ⟨h1,_⟩
 ·rw [if_pos h1]; exact .inr ⟨by unfold Cln; decide,by unfold Pln; decide,by simp⟩
 ·rw [if_neg (by omega),if_pos h1]
  split
  ·exact .inr ⟨by unfold Cln; decide,by unfold Pln; decide,by simp⟩
  ·exact .inr ⟨by unfold Cln; decide,by unfold Pln; decide,by simp⟩
 ·rw [if_neg (by omega),if_neg (by omega),if_pos h1]
  refine .inr ⟨itoa_cln _,?_,itoa_ne _⟩
  cases e : Lib.itoa x.n with
  | nil => exact absurd e (itoa_ne _)
  | cons b t =>
   have := itoa_byte x.n b (by rw [e]; simp)
   unfold Pln
   simp only [List.head?_cons,ne_eq,Option.some.injEq]
   constructor
   ·rintro rfl; revert this; decide
   ·rintro rfl; revert this; decide
 ·rw [if_neg (by omega),if_neg (by omega),if_neg (by omega)]
  exact .inl ⟨34 :: encL ((sgS x.s).flatMap pcR),rfl⟩
theorem BareOK.after {s : List UInt8} (h : BareOK s) (p : List UInt8) : PlnW (p ++ 32 :: s) := by
 rcases h with ⟨u,rfl⟩ | ⟨h1,h2,_⟩
 ·refine ⟨[],?_,by unfold Pln; decide⟩
  have := wd_quote cln_nil (p ++ 32 :: u)
  simpa using this
 ·exact ⟨s,wd_blank h1 p,h2⟩
theorem BareOK.all {s : List UInt8} (h : BareOK s) : PlnW s := by
 rcases h with ⟨u,rfl⟩ | ⟨h1,h2,_⟩
 ·exact ⟨[],wd_quote cln_nil u,by unfold Pln; decide⟩
 ·exact ⟨s,wd_all h1,h2⟩
theorem cln58 : Cln [58] := by unfold Cln; decide
theorem BareOK.key {s : List UInt8} (h : BareOK s) (n : Nat) : PlnW (blk13 n ++ (s ++ [58])) := by
 rcases h with ⟨u,rfl⟩ | ⟨h1,h2,h3⟩
 ·refine ⟨[58],?_,by unfold Pln; decide⟩
  have := wd_quote cln58 (blk13 n ++ u)
  simpa using this
 ·refine ⟨s ++ [58],wd_blk ?_ n,?_⟩
  ·intro c hc
   rcases List.mem_append.1 hc with hc | hc
   ·exact h1 c hc
   ·exact cln58 c hc
  ·cases s with
   | nil => exact absurd rfl h3
   | cons c s => exact h2
def HdOK (h : List UInt8) : Prop := ∀ n,PlnW (blk13 n ++ h)
theorem heads_ok13 {g : Gr} (hg : Tdy g) {i : Nat} {x : Nd} (hx : g.l[i]? = some x) (hk : x.kids ≠ []) (n : Nat) : ∀ h ∈ heads13 x.k x.keys n,HdOK h := by
 intro h hm m
 rcases nd_kind hg hx with ⟨_,h1,_⟩ | ⟨h0,_⟩ | ⟨h0,_,h2,_⟩
 ·exact absurd h1 hk
 ·unfold heads13 at hm; rw [if_pos h0,List.mem_replicate] at hm; rw [hm.2]
  exact ⟨[45],wd_blk (by unfold Cln; decide) m,by unfold Pln; decide⟩
 ·unfold heads13 at hm
  rw [if_neg (by omega)] at hm
  obtain ⟨y,hy,rfl⟩ := List.mem_map.1 hm
  exact (scB_bareOK (List.all_eq_true.1 h2 y hy)).key m
theorem bare_ok13 {g : Gr} (hg : Tdy g) {i : Nat} {x : Nd} (hx : g.l[i]? = some x) : BareOK (bareN x) := by
 rcases nd_kind hg hx with ⟨h0,_,_,h2⟩ | ⟨h0,_⟩ | ⟨h0,_⟩
 ·show BareOK (if x.k = 0 then scB x.x else if x.k = 1 then _ else _)
  rw [if_pos h0]; exact scB_bareOK h2
 ·show BareOK (if x.k = 0 then scB x.x else if x.k = 1 then _ else _)
  rw [if_neg (by omega),if_pos h0]; exact .inr ⟨by unfold Cln; decide,by unfold Pln; decide,by simp⟩
 ·show BareOK (if x.k = 0 then scB x.x else if x.k = 1 then _ else _)
  rw [if_neg (by omega),if_neg (by omega)]; exact .inr ⟨by unfold Cln; decide,by unfold Pln; decide,by simp⟩
inductive NL : Nat -> List (List UInt8) -> Prop
 | nil (n : Nat) : NL n []
 | pl {n : Nat} {s : List UInt8} {l : List (List UInt8)} : PlnW s -> NL n l -> NL n (s :: l)
 | amp {n : Nat} {s : List UInt8} {l : List (List UInt8)} : Wd s (38 :: 97 :: Lib.itoa ((n + 1 : Nat) : Int)) -> NL (n + 1) l -> NL n (s :: l)
 | star {n j : Nat} {s : List UInt8} {l : List (List UInt8)} : 1 <= j -> j <= n -> Wd s (42 :: 97 :: Lib.itoa (j : Int)) -> NL n l -> NL n (s :: l)
theorem NmW.inv {n n' : Nat} {p : Tr} {q : List Tr} (h : NmW n (p :: q) n') : (p.name = ⟨#[]⟩ /\ p.kids = [] /\ p.k ≠ 3 /\ NmW n q n') \/ (p.k = 3 /\ ∃ j : Nat,p.name = aName j /\ 1 <= j /\ j <= n /\ NmW n q n') \/
  (p.k ≠ 3 /\ p.kids ≠ [] /\ p.name = ⟨#[]⟩ /\ ∃ n1,NmW n p.kids n1 /\ NmW n1 q n') \/ (p.k ≠ 3 /\ p.kids ≠ [] /\ p.name = aName ((n + 1 : Nat) : Int) /\ ∃ n1,NmW (n + 1) p.kids n1 /\ NmW n1 q n') := by
 cases h with
 | leaf hk h => exact .inl ⟨rfl,rfl,hk,h⟩
 | ref h1 h2 h => exact .inr (.inl ⟨rfl,_,rfl,h1,h2,h⟩)
 | plain hk hq h1 h2 => exact .inr (.inr (.inl ⟨hk,hq,rfl,_,h1,h2⟩))
 | opn hk hq h1 h2 => exact .inr (.inr (.inr ⟨hk,hq,rfl,_,h1,h2⟩))
theorem cln_name {c : UInt8} (hc : c ≠ 32 /\ c ≠ 34) (n : Int) : Cln (c :: 97 :: Lib.itoa n) := fun b hb => by
 rcases List.mem_cons.1 hb with rfl | hb
 ·exact hc
 ·rcases List.mem_cons.1 hb with rfl | hb
  ·decide
  ·exact itoa_cln n b hb
theorem nl_items {g : Gr} (hg : Tdy g) {d : Nat} {t met met' : List Int} {q : List Tr} (h : EmW g d t met q met') : ∀ (b : Nat) (hs : List (List UInt8)) (n n' : Nat) (rest : List (List UInt8)),hs.length = q.length -> (∀ h ∈ hs,HdOK h) -> NmW n q n' -> NL n' rest -> NL n (lnK b hs q ++ rest) := by
 induction h with
 | nil => intro b hs n n' rest _ _ hN hr; rw [lnK_nil]; rw [hN.nil_inv rfl] at hr; exact hr
 | leaf hy hk h ih =>
  intro b hs n n' rest hl hh hN hr
  cases hs with
  | nil => simp at hl
  | cons h0 hs =>
   have hb := (bare_ok13 hg hy).after (blk13 b ++ h0)
   have hk3 := kind_not3 hg hy
   rcases hN.inv with ⟨_,hkk,_,h2⟩ | ⟨h1,_⟩ | ⟨_,h1,_⟩ | ⟨_,h1,_⟩
   ·rw [lnK_cons,lnT_eq]
    refine NL.pl ?_ (?_ : NL n ((lnK (b + 2) _ [] ++ lnK b hs _) ++ rest))
    ·unfold stB
     rw [if_neg (by exact hk3),if_pos hkk]
     rw [List.append_assoc] at hb; exact hb
    ·rw [lnK_nil,List.nil_append]
     exact ih b hs n n' rest (by simpa using hl) (fun h hm => hh h (by simp [hm])) h2 hr
   ·exact absurd h1 hk3
   ·exact absurd rfl h1
   ·exact absurd rfl h1
 | ref hy hk hm ha h ih =>
  intro b hs n n' rest hl hh hN hr
  cases hs with
  | nil => simp at hl
  | cons h0 hs =>
   rcases hN.inv with ⟨_,_,h1,_⟩ | ⟨hkk,j,hj,hj1,hj2,h2⟩ | ⟨h1,_⟩ | ⟨h1,_⟩
   ·exact absurd rfl h1
   ·rw [lnK_cons,lnT_eq]
    refine NL.star hj1 hj2 ?_ (?_ : NL n ((lnK (b + 2) _ [] ++ lnK b hs _) ++ rest))
    ·unfold stB
     rw [if_pos hkk,hj,aName_list (by omega)]
     have := wd_blank (cln_name (c := 42) (by decide) (j : Int)) (blk13 b ++ h0)
     rw [List.append_assoc] at this; exact this
    ·rw [lnK_nil,List.nil_append]
     exact ih b hs n n' rest (by simpa using hl) (fun h hm => hh h (by simp [hm])) h2 hr
   ·exact absurd rfl h1
   ·exact absurd rfl h1
 | @node d i y t met met1 met' q1 q2 hy hk hm hd h1 h2 ih1 ih2 =>
  intro b hs n n' rest hl hh hN hr
  cases hs with
  | nil => simp at hl
  | cons h0 hs =>
   have hk3 := kind_not3 hg hy
   have hq1 : q1 ≠ [] := fun e => hk (List.eq_nil_of_length_eq_zero (by rw [<- h1.len,e]; rfl))
   have hhl : (heads13 y.k y.keys q1.length).length = q1.length := by rw [h1.len]; exact heads_len hg hy hk
   rcases hN.inv with ⟨_,h3,_⟩ | ⟨h3,_⟩ | ⟨_,_,hnm,n1,h3,h4⟩ | ⟨_,_,hnm,n1,h3,h4⟩
   ·exact absurd h3 hq1
   ·exact absurd h3 hk3
   ·rw [lnK_cons,lnT_eq]
    refine NL.pl ?_ (?_ : NL n ((lnK (b + 2) (heads13 y.k y.keys q1.length) q1 ++ lnK b hs _) ++ rest))
    ·unfold stB
     rw [if_neg (by exact hk3),if_neg (by exact hq1),if_pos hnm,List.append_nil]
     exact hh h0 (by simp) b
    ·rw [List.append_assoc]
     exact ih1 (b + 2) _ n n1 _ hhl (heads_ok13 hg hy hk _) h3 (ih2 b hs n1 n' rest (by simpa using hl) (fun h hm => hh h (by simp [hm])) h4 hr)
   ·have hnn : ¬ (aName ((n + 1 : Nat) : Int) = ⟨#[]⟩) := aName_ne (by omega)
    rw [lnK_cons,lnT_eq]
    refine NL.amp (n := n) ?_ (?_ : NL (n + 1) ((lnK (b + 2) (heads13 y.k y.keys q1.length) q1 ++ lnK b hs _) ++ rest))
    ·unfold stB
     rw [if_neg (by exact hk3),if_neg (by exact hq1),hnm,if_neg hnn,aName_list (by omega)]
     have := wd_blank (cln_name (c := 38) (by decide) ((n + 1 : Nat) : Int)) (blk13 b ++ h0)
     rw [List.append_assoc] at this; exact this
    ·rw [List.append_assoc]
     exact ih1 (b + 2) _ (n + 1) n1 _ hhl (heads_ok13 hg hy hk _) h3 (ih2 b hs n1 n' rest (by simpa using hl) (fun h hm => hh h (by simp [hm])) h4 hr)
theorem top_nl {q : Gr} (hg : Tdy q) (hd : deepQ q) : NL 0 (topL (emT q)) := by
 obtain ⟨met,hem,hN,hfl⟩ := emT_ok hg hd
 obtain ⟨i,y,p,q2,met1,e0,hy,e1,hr,hc⟩ := hem.inv
 obtain rfl : i = 0 := by omega
 obtain ⟨e2,e3⟩ := List.cons.inj e1
 rw [<- e2] at hc
 generalize emT q = t at *
 rcases hc with ⟨hk,_,rfl⟩ | ⟨_,hm,_⟩ | ⟨hk,_,q1,h1,rfl⟩
 ·have ht : topL (.mk y.k ⟨#[]⟩ y.x y.keys []) = [bareN y] := by unfold topL; rw [if_pos (show (Tr.mk y.k ⟨#[]⟩ y.x y.keys []).kids = [] from rfl)]
  rw [ht]
  exact .pl (bare_ok13 hg hy).all (.nil _)
 ·cases hm
 ·have hk3 := kind_not3 hg hy
  have hq1 : q1 ≠ [] := fun e => hk (List.eq_nil_of_length_eq_zero (by rw [<- h1.len,e]; rfl))
  have hhl : (heads13 y.k y.keys q1.length).length = q1.length := by rw [h1.len]; exact heads_len hg hy hk
  have hw : topL (.mk y.k (aName (anc q 0)) y.x y.keys q1) = (if aName (anc q 0) = ⟨#[]⟩ then [] else [38 :: (aName (anc q 0)).data.toList]) ++ lnK 0 (heads13 y.k y.keys q1.length) q1 := by
   unfold topL; rw [if_neg (show ¬ (Tr.mk y.k (aName (anc q 0)) y.x y.keys q1).kids = [] from hq1)]; rfl
  rw [hw]
  have hi : ∀ n n1,NmW n q1 n1 -> NL n (lnK 0 (heads13 y.k y.keys q1.length) q1) := fun n n1 h => by
   have := nl_items hg h1 0 (heads13 y.k y.keys q1.length) n n1 [] hhl (heads_ok13 hg hy hk _) h (.nil _)
   rwa [List.append_nil] at this
  rcases hN.inv with ⟨_,h3,_⟩ | ⟨h3,_⟩ | ⟨_,_,hnm,n1,h3,h4⟩ | ⟨_,_,hnm,n1,h3,h4⟩
  ·exact absurd h3 hq1
  ·exact absurd h3 hk3
  ·rw [if_pos (by exact hnm),List.nil_append]
   exact hi _ _ h3
  ·have hnm' : aName (anc q 0) = aName ((0 + 1 : Nat) : Int) := hnm
   rw [hnm',if_neg (aName_ne (by omega)),aName_list (by omega)]
   exact .amp (n := 0) (wd_all (cln_name (by decide) _)) (hi _ _ h3)
theorem bT_at (s : List UInt8) (i : Nat) : (bT s)[i]? = s[i]? := by
 by_cases h : i < s.length
 ·have h' : i < (bT s).size := by rw [bT_size]; exact h
  rw [List.getElem?_eq_getElem h,getElem?_pos (bT s) i h']; rfl
 ·have h' : ¬ i < (bT s).size := by rw [bT_size]; exact h
  rw [List.getElem?_eq_none (by omega),getElem?_neg (bT s) i h']
theorem drop_at {α : Type} : ∀ {l : List α} {i : Nat} {x : α},l[i]? = some x -> l.drop i = x :: l.drop (i + 1)
 | [],i,x,h => by simp at h
 | y :: l,0,x,h => by simp at h; subst h; rfl
 | y :: l,i + 1,x,h => by simpa using drop_at (l := l) (i := i) (by simpa using h)
theorem bT_ext (s : List UInt8) (a b : Nat) : (bT s).extract a b = bT ((s.drop a).take (b - a)) := by
 apply ByteArray.ext
 apply Array.toList_inj.1
 rw [ByteArray.data_extract,Array.toList_extract,List.extract_eq_take_drop]
 simp [bT]
theorem wd_at {s w : List UInt8} (h : Wd s w) : ∃ a,s.length = a + w.length /\ s.drop a = w /\ (∀ j,j < w.length -> ∃ c,s[s.length - (j + 1)]? = some c /\ c ≠ 32 /\ c ≠ 34) /\ (a = 0 \/ ∃ c,s[a - 1]? = some c /\ 0 < a /\ (c = 32 \/ c = 34)) := by
 obtain ⟨p,rfl,hc,hp⟩ := h
 refine ⟨p.length,by simp,by simp,fun j hj => ?_,?_⟩
 ·obtain ⟨c,h1⟩ := at_lt (l := w) (i := w.length - (j + 1)) (by omega)
  refine ⟨c,?_,hc c (List.mem_of_getElem? h1)⟩
  rw [List.length_append,List.getElem?_append_right (by omega)]
  rw [show p.length + w.length - (j + 1) - p.length = w.length - (j + 1) by omega]; exact h1
 ·rcases hp with rfl | ⟨p',c,rfl,h1⟩
  ·exact .inl rfl
  ·exact .inr ⟨c,by simp,by simp,h1⟩
theorem ext2_eq (w : List UInt8) : (bT w).extract 0 2 = bT (w.take 2) := by rw [bT_ext]; simp
theorem ext2_no {w : List UInt8} {x y : UInt8} (h : w.head? ≠ some x) : decide ((bT w).extract 0 2 = (⟨#[x,y]⟩ : ByteArray)) = false := by
 rw [decide_eq_false_iff_not,ext2_eq]
 intro e
 have e2 : w.take 2 = [x,y] := by
  have := congrArg (fun b => b.data.toList) e
  simpa [bT] using this
 cases w with
 | nil => simp at e2
 | cons a w => apply h; simp at e2; rw [e2.1]; rfl
theorem ext2_yes (x y : UInt8) (L : List UInt8) : decide ((bT (x :: y :: L)).extract 0 2 = (⟨#[x,y]⟩ : ByteArray)) = true := by
 rw [decide_eq_true_iff,ext2_eq]; rfl
theorem wlen_name {w : List UInt8} {c : UInt8} {n : Int} (h : w = c :: 97 :: Lib.itoa n) : 2 < w.length := by
 rw [h]
 cases e : Lib.itoa n with
 | nil => exact absurd e (itoa_ne _)
 | cons => simp
theorem ext_name {w : List UInt8} {c : UInt8} {n : Int} (h : w = c :: 97 :: Lib.itoa n) : (bT w).extract 2 w.length = bT (Lib.itoa n) := by
 rw [bT_ext,List.take_of_length_le (by simp),h]; rfl
theorem name_eq (r k : Nat) : decide (bT (Lib.itoa (r : Int)) = bT (Lib.itoa (k : Int))) = decide (r = k) := by
 apply decide_eq_decide.2
 constructor
 ·intro e
  have e2 : Lib.itoa (r : Int) = Lib.itoa (k : Int) := by
   have := congrArg (fun b => b.data.toList) e
   simpa [bT] using this
  have := itoa_inj e2; omega
 ·rintro rfl; rfl
def met13 (r : Nat) : Nat -> Bool
 | 0 => false
 | k + 1 => met13 r k || decide (r = k + 1)
theorem met13_ok {r : Nat} (h1 : 1 <= r) : ∀ {n : Nat},r <= n -> met13 r n = true
 | 0,h => by omega
 | k + 1,h => by
  show (met13 r k || decide (r = k + 1)) = true
  by_cases e : r = k + 1
  ·simp [e]
  ·rw [met13_ok h1 (n := k) (by omega)]; rfl
set_option maxHeartbeats 4000000 in
theorem emit_names (h : Env13 gp) (g : Gr) : Does QP gp 7 [g.v] (vb true) := by
 have cs := shown13_ok h
 have ct := tidied13 h.e g true
 have hs := tidied_small g true
 have hst := tidied_short g true
 have c2 := lines13 h hs hst
 have hsz := outE_size (tidied g true)
 generalize tidied g true = q at *
 refine f7_in ?_
 simp only [go_sem]
 have ho : (outE q).2 = 0 /\ NL 0 (outE q).1 \/ (outE q).2 ≠ 0 /\ (outE q).1 = [] := by
  by_cases ht : chk q = none /\ q = tidyG q
  ·have hg := tdy_of hs ht
   by_cases hd : deepQ q
   ·by_cases hp : placeL q > 200
    ·rw [outE_many ht hd hp]; exact .inr ⟨by decide,rfl⟩
    ·by_cases hz : sizeL (topL (emT q)) > 8000
     ·rw [outE_long ht hd hp hz]; exact .inr ⟨by decide,rfl⟩
     ·rw [outE_ok ht hd hp hz]; exact .inl ⟨rfl,top_nl hg hd⟩
   ·rw [outE_deep ht hd]; exact .inr ⟨by decide,rfl⟩
  ·rw [outE_bad ht]; exact .inr ⟨by decide,rfl⟩
 generalize outE q = o at *
 obtain ⟨T,e⟩ := o
 dsimp only at ho hsz c2
 rcases ho with ⟨rfl,hi⟩ | ⟨he,rfl⟩
 ·have hge := sizeL_ge T
  repeat' (first | refine Kn rfl ?_ | ((first | refine Ka ?_ | refine Kb ?_ | refine Kc ?_ | refine Kd ?_ | refine Ke ?_); simp only [go_sem]) | refine Kf ?_ | refine Kg ?_ | refine ⟨_,cs,Kg ?_⟩ | refine ⟨_,⟨cs,rfl⟩,Kg ?_⟩ | refine ⟨_,ct,Kg ?_⟩ | refine ⟨_,⟨ct,rfl⟩,Kg ?_⟩ | refine ⟨_,c2,Kg ?_⟩ | refine ⟨_,⟨c2,rfl⟩,Kg ?_⟩ | (refine Kp (fun _ => ?_) (fun _ => ?_) <;> try (exfalso; omega)) | ((first | refine Kh ?_ | refine Ki rfl ?_); simp only [or_self,Qs,Qt,Qu,Qv,Qw,Qx,Qy,Qz,Za,go_sem]))
  refine Kj (fr 108 [(3,vb true),(4,.one (.d (.sl (strD T)))),(6,vi (0 : Nat)),(7,vi (0 : Nat))]) (by simp only [go_sem]; repeat' (first | refine Kp ?_ ?_ | exact Or.inl rfl | exact Or.inr rfl | rfl)) ?_
  refine Km (fun mz sz => ∃ i n : Nat,i <= T.length /\ mz = T.length - i /\ (n <= i /\ NL n (T.drop i)) /\ sz = ⟨fr 108 [(3,vb true),(4,.one (.d (.sl (strD T)))),(6,vi n),(7,vi i)],[.cells q.as]⟩) (T.length) ⟨0,0,Nat.zero_le _,(Nat.sub_zero _).symm,⟨Nat.le_refl _,hi⟩,rfl⟩ ?_
  rintro _ _ ⟨i,n,hiT,rfl,⟨hni,hN⟩,rfl⟩
  simp only [go_sem]
  by_cases hil : i < T.length
  ·obtain ⟨s,hsi⟩ := at_lt hil
   obtain ⟨w,hw,hcase⟩ : ∃ w,Wd s w /\ ((Pln w /\ NL n (T.drop (i + 1))) \/ (w = 38 :: 97 :: Lib.itoa ((n + 1 : Nat) : Int) /\ NL (n + 1) (T.drop (i + 1))) \/ ∃ r : Nat,1 <= r /\ r <= n /\ w = 42 :: 97 :: Lib.itoa (r : Int) /\ NL n (T.drop (i + 1))) := by
    have hd : T.drop i = s :: T.drop (i + 1) := drop_at hsi
    rw [hd] at hN
    cases hN with
    | pl h1 h2 => obtain ⟨w,h1,h3⟩ := h1; exact ⟨w,h1,.inl ⟨h3,h2⟩⟩
    | amp h1 h2 => exact ⟨_,h1,.inr (.inl ⟨rfl,h2⟩)⟩
    | star h1 h2 h3 h4 => exact ⟨_,h3,.inr (.inr ⟨_,h1,h2,rfl,h4⟩)⟩
   obtain ⟨a,ha,hdr,hins,hend⟩ := wd_at hw
   have hsl : s.length + 1 <= 8000 := by
    have h1 := sizeL_take T (i + 1)
    rw [getD_take_snoc hsi,sizeL_snoc] at h1; omega
   have hbs : (bT s).size = s.length := bT_size s
   have hws : (bT w).size = w.length := bT_size w
   have hex : (bT s).extract a s.length = bT w := by rw [bT_ext,hdr,List.take_of_length_le (by omega)]
   have hik2 : inK .i64 ((i : Int) + 1) := inK_small (by omega) (by omega)
   have hsub : s.length - w.length = a := by omega
   repeat' (first | refine Kn rfl ?_ | ((first | refine Ka ?_ | refine Kb ?_ | refine Kc ?_ | refine Kd ?_ | refine Ke ?_); simp only [hbs,go_sem]) | refine Kf ?_ | refine Kg ?_ | refine ⟨_,⟨Kq _,(by first | exact map_at hsi | (rw [Int.toNat_natCast]; exact map_at hsi)),rfl⟩,Kg ?_⟩ | (refine Kp (fun _ => ?_) (fun _ => ?_) <;> try (exfalso; omega)))
   refine Kj (fr 108 [(3,vb true),(4,.one (.d (.sl (strD T)))),(6,vi n),(7,vi i),(8,vi (s.length - (0 : Nat) : Nat))]) (by (simp only [go_sem]; repeat' (first | refine Kp ?_ ?_ | exact Or.inl rfl | exact Or.inr rfl | rfl))) ?_
   refine Km (fun mz sz => ∃ j : Nat,j <= w.length /\ mz = w.length - j /\ (0 <= j) /\ sz = ⟨fr 108 [(3,vb true),(4,.one (.d (.sl (strD T)))),(6,vi n),(7,vi i),(8,vi (s.length - j : Nat))],[.cells q.as]⟩) (w.length) ⟨0,Nat.zero_le _,(Nat.sub_zero _).symm,?_,rfl⟩ ?_
   ·exact Nat.zero_le _
   rintro _ _ ⟨j,hj,rfl,-,rfl⟩
   simp only [go_sem]
   by_cases hjw : j < w.length
   ·obtain ⟨c,hc,h32,h34⟩ := hins j hjw
    have hb : (bT s)[s.length - (j + 1)]? = some c := by rw [bT_at]; exact hc
    have hat : (((s.length - j : Nat) : Int) - 1) = ((s.length - (j + 1) : Nat) : Int) := by omega
    have hpos : ((s.length - j : Nat) : Int) > 0 := by omega
    have k32 : (((c.toNat : Nat) : Int) != 32) = true := by
     rw [bne_iff_ne]; intro e; apply h32
     exact UInt8.toNat_inj.1 (by rw [show (32 : UInt8).toNat = 32 from rfl]; omega)
    have k34 : (((c.toNat : Nat) : Int) != 34) = true := by
     rw [bne_iff_ne]; intro e; apply h34
     exact UInt8.toNat_inj.1 (by rw [show (34 : UInt8).toNat = 34 from rfl]; omega)
    have hik : inK .i64 ((s.length - (j + 1) : Nat) : Int) := inK_small (by omega) (by omega)
    repeat' (first | refine Kn rfl ?_ | ((first | refine Ka ?_ | refine Kb ?_ | refine Kc ?_ | refine Kd ?_ | refine Ke ?_); simp only [hat,hpos,k32,k34,go_sem]) | refine Kf ?_ | refine Kg ?_ | refine ⟨_,⟨Kq _,(by first | exact map_at hsi | (rw [Int.toNat_natCast]; exact map_at hsi)),rfl⟩,Kg ?_⟩ | refine ⟨_,_,⟨rfl,hb⟩,Kg ?_⟩ | refine ⟨hik,?_⟩ | (refine Kp (fun _ => ?_) (fun _ => ?_) <;> try (exfalso; omega)))
    refine Kj (fr 108 [(3,vb true),(4,.one (.d (.sl (strD T)))),(6,vi n),(7,vi i),(8,vi (s.length - (j + 1) : Nat))]) (by (simp only [go_sem]; repeat' (first | refine Kp ?_ ?_ | exact Or.inl rfl | exact Or.inr rfl | rfl))) ?_
    refine Kl ⟨w.length - (j + 1),by omega,j + 1,by omega,rfl,?_,rfl⟩
    exact Nat.zero_le _
   ·obtain rfl : w.length = j := by omega
    rw [hsub]
    have hal : a <= s.length := by omega
    rcases hend with h0 | ⟨c,hc,h0,rfl | rfl⟩
    have hpos : ¬ ((a : Int) > 0) := by omega
    repeat' (first | refine Kn rfl ?_ | ((first | refine Ka ?_ | refine Kb ?_ | refine Kc ?_ | refine Kd ?_ | refine Ke ?_); simp only [hpos,hbs,go_sem]) | refine Kf ?_ | refine Kg ?_ | refine ⟨_,⟨Kq _,(by first | exact map_at hsi | (rw [Int.toNat_natCast]; exact map_at hsi)),rfl⟩,Kg ?_⟩ | (refine Kp (fun _ => ?_) (fun _ => ?_) <;> try (exfalso; omega)))
    rotate_left
    have hpos : ((a : Int) > 0) := by omega
    have hat : ((a : Int) - 1) = ((a - 1 : Nat) : Int) := by omega
    have hb : (bT s)[a - 1]? = some 32 := by rw [bT_at]; exact hc
    have k32 : (((UInt8.toNat 32 : Nat) : Int) != 32) = false := rfl
    have hik : inK .i64 ((a - 1 : Nat) : Int) := inK_small (by omega) (by omega)
    repeat' (first | refine Kn rfl ?_ | ((first | refine Ka ?_ | refine Kb ?_ | refine Kc ?_ | refine Kd ?_ | refine Ke ?_); simp only [hpos,hbs,hat,k32,go_sem]) | refine Kf ?_ | refine Kg ?_ | refine ⟨_,⟨Kq _,(by first | exact map_at hsi | (rw [Int.toNat_natCast]; exact map_at hsi)),rfl⟩,Kg ?_⟩ | refine ⟨_,_,⟨rfl,hb⟩,Kg ?_⟩ | refine ⟨hik,?_⟩ | (refine Kp (fun _ => ?_) (fun _ => ?_) <;> try (exfalso; omega)))
    rotate_left
    have hpos : ((a : Int) > 0) := by omega
    have hat : ((a : Int) - 1) = ((a - 1 : Nat) : Int) := by omega
    have hb : (bT s)[a - 1]? = some 34 := by rw [bT_at]; exact hc
    have k32 : (((UInt8.toNat 34 : Nat) : Int) != 32) = true := rfl
    have k34 : (((UInt8.toNat 34 : Nat) : Int) != 34) = false := rfl
    have hik : inK .i64 ((a - 1 : Nat) : Int) := inK_small (by omega) (by omega)
    repeat' (first | refine Kn rfl ?_ | ((first | refine Ka ?_ | refine Kb ?_ | refine Kc ?_ | refine Kd ?_ | refine Ke ?_); simp only [hpos,hbs,hat,k32,k34,go_sem]) | refine Kf ?_ | refine Kg ?_ | refine ⟨_,⟨Kq _,(by first | exact map_at hsi | (rw [Int.toNat_natCast]; exact map_at hsi)),rfl⟩,Kg ?_⟩ | refine ⟨_,_,⟨rfl,hb⟩,Kg ?_⟩ | refine ⟨hik,?_⟩ | (refine Kp (fun _ => ?_) (fun _ => ?_) <;> try (exfalso; omega)))
    rotate_left
    all_goals refine ⟨a,s.length,⟨rfl,rfl,hal,Nat.le_refl _⟩,Kg ?_⟩
    all_goals rw [hex]
    all_goals
     have hik3 : inK .i64 ((n : Int) + 1) := inK_small (by omega) (by omega)
     rcases hcase with ⟨hp,hN'⟩ | ⟨hwe,hN'⟩ | ⟨r,hr1,hr2,hwe,hN'⟩
     ·have p4 : decide ((bT w).extract 0 2 = (⟨#[38,97]⟩ : ByteArray)) = false := ext2_no hp.1
      have p5 : decide ((bT w).extract 0 2 = (⟨#[42,97]⟩ : ByteArray)) = false := ext2_no hp.2
      by_cases h2 : 2 < w.length
      ·have hl2 : 2 <= w.length := by omega
       have hl : ((w.length : Nat) : Int) > 2 := by omega
       repeat' (first | refine Kn rfl ?_ | ((first | refine Ka ?_ | refine Kb ?_ | refine Kc ?_ | refine Kd ?_ | refine Ke ?_); simp only [hl,p4,p5,hws,go_sem]) | refine Kf ?_ | refine Kg ?_ | refine ⟨0,2,⟨rfl,rfl,Nat.zero_le _,hl2⟩,Kg ?_⟩ | refine ⟨2,w.length,⟨rfl,rfl,hl2,Nat.le_refl _⟩,Kg ?_⟩ | refine ⟨hik2,?_⟩ | refine ⟨hik3,?_⟩ | (refine Kp (fun _ => ?_) (fun _ => ?_) <;> try (exfalso; omega)))
       refine Kj (fr 108 [(3,vb true),(4,.one (.d (.sl (strD T)))),(6,vi n),(7,vi (i + 1 : Nat))]) (by simp only [go_sem]; repeat' (first | refine Kp ?_ ?_ | exact Or.inl rfl | exact Or.inr rfl | rfl)) ?_
       exact Kl ⟨T.length - (i + 1),by omega,i + 1,n,by omega,rfl,⟨by omega,hN'⟩,rfl⟩
      ·have hl : ¬ (((w.length : Nat) : Int) > 2) := by omega
       repeat' (first | refine Kn rfl ?_ | ((first | refine Ka ?_ | refine Kb ?_ | refine Kc ?_ | refine Kd ?_ | refine Ke ?_); simp only [hl,hws,go_sem]) | refine Kf ?_ | refine Kg ?_ | refine ⟨hik2,?_⟩ | (refine Kp (fun _ => ?_) (fun _ => ?_) <;> try (exfalso; omega)))
       refine Kj (fr 108 [(3,vb true),(4,.one (.d (.sl (strD T)))),(6,vi n),(7,vi (i + 1 : Nat))]) (by simp only [go_sem]; repeat' (first | refine Kp ?_ ?_ | exact Or.inl rfl | exact Or.inr rfl | rfl)) ?_
       exact Kl ⟨T.length - (i + 1),by omega,i + 1,n,by omega,rfl,⟨by omega,hN'⟩,rfl⟩
     ·have p4 : decide ((bT w).extract 0 2 = (⟨#[38,97]⟩ : ByteArray)) = true := by rw [hwe]; exact ext2_yes _ _ _
      have p5 : decide ((bT w).extract 0 2 = (⟨#[42,97]⟩ : ByteArray)) = false := ext2_no (by rw [hwe]; simp)
      have hwl := wlen_name hwe
      have hl2 : 2 <= w.length := by omega
      have hl : ((w.length : Nat) : Int) > 2 := by omega
      have p6 : (bT w).extract 2 w.length = bT (Lib.itoa ((n + 1 : Nat) : Int)) := ext_name hwe
      have c6 : Does QP gp 20 [vi ((n : Int) + 1)] (vs (bT (Lib.itoa ((n + 1 : Nat) : Int)))) := num13 (n + 1) (n + 1) (Nat.le_refl _) (by omega)
      repeat' (first | refine Kn rfl ?_ | ((first | refine Ka ?_ | refine Kb ?_ | refine Kc ?_ | refine Kd ?_ | refine Ke ?_); simp only [hl,p4,p5,p6,hws,go_sem]) | refine Kf ?_ | refine Kg ?_ | refine ⟨_,c6,Kg ?_⟩ | refine ⟨_,⟨c6,rfl⟩,Kg ?_⟩ | refine ⟨0,2,⟨rfl,rfl,Nat.zero_le _,hl2⟩,Kg ?_⟩ | refine ⟨2,w.length,⟨rfl,rfl,hl2,Nat.le_refl _⟩,Kg ?_⟩ | refine ⟨hik2,?_⟩ | refine ⟨hik3,?_⟩ | (refine Kp (fun _ => ?_) (fun _ => ?_) <;> try (exfalso; omega)))
      refine Kj (fr 108 [(3,vb true),(4,.one (.d (.sl (strD T)))),(6,vi (n + 1 : Nat)),(7,vi (i + 1 : Nat))]) (by simp only [go_sem]; repeat' (first | refine Kp ?_ ?_ | exact Or.inl rfl | exact Or.inr rfl | rfl)) ?_
      exact Kl ⟨T.length - (i + 1),by omega,i + 1,n + 1,by omega,rfl,⟨by omega,hN'⟩,rfl⟩
     ·have p4 : decide ((bT w).extract 0 2 = (⟨#[38,97]⟩ : ByteArray)) = false := ext2_no (by rw [hwe]; simp)
      have p5 : decide ((bT w).extract 0 2 = (⟨#[42,97]⟩ : ByteArray)) = true := by rw [hwe]; exact ext2_yes _ _ _
      have hwl := wlen_name hwe
      have hl2 : 2 <= w.length := by omega
      have hl : ((w.length : Nat) : Int) > 2 := by omega
      have p6 : (bT w).extract 2 w.length = bT (Lib.itoa (r : Int)) := ext_name hwe
      repeat' (first | refine Kn rfl ?_ | ((first | refine Ka ?_ | refine Kb ?_ | refine Kc ?_ | refine Kd ?_ | refine Ke ?_); simp only [hl,p4,p5,p6,hws,go_sem]) | refine Kf ?_ | refine Kg ?_ | refine ⟨0,2,⟨rfl,rfl,Nat.zero_le _,hl2⟩,Kg ?_⟩ | refine ⟨2,w.length,⟨rfl,rfl,hl2,Nat.le_refl _⟩,Kg ?_⟩ | refine ⟨hik2,?_⟩ | refine ⟨hik3,?_⟩ | (refine Kp (fun _ => ?_) (fun _ => ?_) <;> try (exfalso; omega)))
      refine Kj (fr 108 [(3,vb true),(4,.one (.d (.sl (strD T)))),(6,vi n),(7,vi i),(9,vs (bT w)),(10,vb (met13 r (0 : Nat))),(11,vi ((((0 : Nat) : Nat) : Int) + 1))]) (by (simp only [go_sem]; repeat' (first | refine Kp ?_ ?_ | exact Or.inl rfl | exact Or.inr rfl | rfl))) ?_
      refine Km (fun mz sz => ∃ j : Nat,j <= n /\ mz = n - j /\ (0 <= j) /\ sz = ⟨fr 108 [(3,vb true),(4,.one (.d (.sl (strD T)))),(6,vi n),(7,vi i),(9,vs (bT w)),(10,vb (met13 r j)),(11,vi (((j : Nat) : Int) + 1))],[.cells q.as]⟩) (n) ⟨0,Nat.zero_le _,(Nat.sub_zero _).symm,?_,rfl⟩ ?_
      ·exact Nat.zero_le _
      rintro _ _ ⟨k,hk,rfl,-,rfl⟩
      simp only [go_sem]
      by_cases hkn : k < n
      ·have hle : ((k : Int) + 1 <= n) := by omega
       have hik4 : inK .i64 ((k : Int) + 1 + 1) := inK_small (by omega) (by omega)
       have c7 : Does QP gp 20 [vi ((k : Int) + 1)] (vs (bT (Lib.itoa ((k + 1 : Nat) : Int)))) := num13 (k + 1) (k + 1) (Nat.le_refl _) (by omega)
       have p8 := name_eq r (k + 1)
       have hmn : met13 r (k + 1) = (met13 r k || decide (r = k + 1)) := rfl
       cases hm : met13 r k with
       | true =>
        rw [hm,Bool.true_or] at hmn
        repeat' (first | refine Kn rfl ?_ | ((first | refine Ka ?_ | refine Kb ?_ | refine Kc ?_ | refine Kd ?_ | refine Ke ?_); simp only [hle,p6,p8,hws,go_sem]) | refine Kf ?_ | refine Kg ?_ | refine ⟨_,c7,Kg ?_⟩ | refine ⟨_,⟨c7,rfl⟩,Kg ?_⟩ | refine ⟨0,2,⟨rfl,rfl,Nat.zero_le _,hl2⟩,Kg ?_⟩ | refine ⟨2,w.length,⟨rfl,rfl,hl2,Nat.le_refl _⟩,Kg ?_⟩ | refine ⟨hik2,?_⟩ | refine ⟨hik3,?_⟩ | refine ⟨hik4,?_⟩ | (refine Kp (fun _ => ?_) (fun _ => ?_) <;> try (exfalso; omega)))
        refine Kj (fr 108 [(3,vb true),(4,.one (.d (.sl (strD T)))),(6,vi n),(7,vi i),(9,vs (bT w)),(10,vb true),(11,vi (((k + 1 : Nat) : Int) + 1))]) (by simp only [go_sem]; repeat' (first | refine Kp ?_ ?_ | exact Or.inl rfl | exact Or.inr rfl | rfl)) ?_
        exact Kl ⟨n - (k + 1),by omega,k + 1,by omega,rfl,Nat.zero_le _,by rw [hmn]; rfl⟩
       | false =>
        rw [hm,Bool.false_or] at hmn
        repeat' (first | refine Kn rfl ?_ | ((first | refine Ka ?_ | refine Kb ?_ | refine Kc ?_ | refine Kd ?_ | refine Ke ?_); simp only [hle,p6,p8,hws,go_sem]) | refine Kf ?_ | refine Kg ?_ | refine ⟨_,c7,Kg ?_⟩ | refine ⟨_,⟨c7,rfl⟩,Kg ?_⟩ | refine ⟨0,2,⟨rfl,rfl,Nat.zero_le _,hl2⟩,Kg ?_⟩ | refine ⟨2,w.length,⟨rfl,rfl,hl2,Nat.le_refl _⟩,Kg ?_⟩ | refine ⟨hik2,?_⟩ | refine ⟨hik3,?_⟩ | refine ⟨hik4,?_⟩ | (refine Kp (fun _ => ?_) (fun _ => ?_) <;> try (exfalso; omega)))
        refine Kj (fr 108 [(3,vb true),(4,.one (.d (.sl (strD T)))),(6,vi n),(7,vi i),(9,vs (bT w)),(10,vb (decide (r = k + 1))),(11,vi (((k + 1 : Nat) : Int) + 1))]) (by simp only [go_sem]; repeat' (first | refine Kp ?_ ?_ | exact Or.inl rfl | exact Or.inr rfl | rfl)) ?_
        exact Kl ⟨n - (k + 1),by omega,k + 1,by omega,rfl,Nat.zero_le _,by rw [hmn]; rfl⟩
      ·obtain rfl : n = k := by omega
       have hle : ¬ ((n : Int) + 1 <= n) := by omega
       have hm : met13 r n = true := met13_ok hr1 hr2
       repeat' (first | refine Kn rfl ?_ | ((first | refine Ka ?_ | refine Kb ?_ | refine Kc ?_ | refine Kd ?_ | refine Ke ?_); simp only [hle,hm,go_sem]) | refine Kf ?_ | refine Kg ?_ | refine ⟨hik2,?_⟩ | (refine Kp (fun _ => ?_) (fun _ => ?_) <;> try (exfalso; omega)))
       refine Kj (fr 108 [(3,vb true),(4,.one (.d (.sl (strD T)))),(6,vi n),(7,vi (i + 1 : Nat))]) (by simp only [go_sem]; repeat' (first | refine Kp ?_ ?_ | exact Or.inl rfl | exact Or.inr rfl | rfl)) ?_
       exact Kl ⟨T.length - (i + 1),by omega,i + 1,n,by omega,rfl,⟨by omega,hN'⟩,rfl⟩
  ·obtain rfl : T.length = i := by omega
   repeat' (first | refine Kn rfl ?_ | ((first | refine Ka ?_ | refine Kb ?_ | refine Kc ?_ | refine Kd ?_ | refine Ke ?_); simp only [go_sem]) | refine Kf ?_ | refine Kg ?_ | (refine Kp (fun _ => ?_) (fun _ => ?_) <;> try (exfalso; omega)) | ((first | refine Kh ?_ | refine Ki rfl ?_); simp only [or_self,Qs,Qt,Qu,Qv,Qw,Qx,Qy,Qz,Za,go_sem]))
   all_goals trace_state
 ·have he' : (e != 0) = true := by simp [he]
  repeat' (first | refine Kn rfl ?_ | ((first | refine Ka ?_ | refine Kb ?_ | refine Kc ?_ | refine Kd ?_ | refine Ke ?_); simp only [he',go_sem]) | refine Kf ?_ | refine Kg ?_ | refine ⟨_,cs,Kg ?_⟩ | refine ⟨_,⟨cs,rfl⟩,Kg ?_⟩ | refine ⟨_,ct,Kg ?_⟩ | refine ⟨_,⟨ct,rfl⟩,Kg ?_⟩ | refine ⟨_,c2,Kg ?_⟩ | refine ⟨_,⟨c2,rfl⟩,Kg ?_⟩ | (refine Kp (fun _ => ?_) (fun _ => ?_) <;> try (exfalso; omega)) | ((first | refine Kh ?_ | refine Ki rfl ?_); simp only [he',or_self,Qs,Qt,Qu,Qv,Qw,Qx,Qy,Qz,Za,go_sem]))
  all_goals trace_state
end Go.Fw.L07
