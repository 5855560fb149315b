/- EmitLines. -/
import Derived.Test.YtakgmpkfpkmkaaaGreatDoorL07S13
import Derived.Test.YtakgmpkfpkmkaaaGreatDoorNc
set_option linter.all false
namespace Go.Fw.L07
open Go Go.Fw
open Go.Fw.Sh renaming intro -> Kg
open Go.Fw renaming G_reg -> Ka,VO_chk -> Kb,VO_go -> Kc,VO_gx -> Kd,G_cond -> Ke,VO_end -> Kf,G_fin -> Kh,G_ret -> Ki,G_weak -> Kj,G_again -> Kl,G_loop -> Km,Gx -> Kn
open And renaming intro -> Kp
open Go.Proofs.Tryz renaming prog -> QP
open Go.Fw.V.one renaming injEq -> Qs
open Go.Fw.V.agg renaming injEq -> Qt
open Go.Fw.V.tup renaming injEq -> Qu
open Go.Fw.A.d renaming injEq -> Qv
open Go.Fw.D.bool renaming injEq -> Qw
open Go.Fw.D.int renaming injEq -> Qx
open Go.Fw.D.str renaming injEq -> Qy
open Go.Fw.D.sl renaming injEq -> Qz
open List.cons renaming injEq -> Za
set_option maxRecDepth 4000
variable {gp : Heap}
def bl13 : List UInt8 -> Nat
 | [] => 0
 | c :: s => if c = 32 then bl13 s + 1 else 0
theorem bl13_blk {c : UInt8} {r : List UInt8} (h : c ≠ 32) : ∀ n,bl13 (blk13 n ++ c :: r) = n
 | 0 => by show (if c = 32 then _ else 0) = 0; rw [if_neg h]
 | n + 1 => by
  have := bl13_blk (r := r) h n
  show (if (32 : UInt8) = 32 then bl13 (blk13 n ++ c :: r) + 1 else 0) = n + 1
  rw [if_pos rfl,this]
theorem bl13_at : ∀ {s : List UInt8} {j : Nat},j < bl13 s -> s[j]? = some 32
 | [],j,h => by simp [bl13] at h
 | c :: s,j,h => by
  unfold bl13 at h
  split at h
  ·rename_i e
   cases j with
   | zero => simp [e]
   | succ j => simpa using bl13_at (s := s) (j := j) (by omega)
  ·omega
theorem bl13_end : ∀ {s : List UInt8},bl13 s < s.length -> ∃ c,s[bl13 s]? = some c /\ c ≠ 32
 | [],h => by simp [bl13] at h
 | c :: s,h => by
  unfold bl13 at h ⊢
  split
  ·rename_i e
   rw [if_pos e] at h
   obtain ⟨d,h1,h2⟩ := bl13_end (s := s) (by simp at h; omega)
   exact ⟨d,by simpa using h1,h2⟩
  ·rename_i e
   exact ⟨c,by simp,e⟩
def IndL : Int -> List (List UInt8) -> Prop
 | _,[] => True
 | last,s :: l => (bl13 s < s.length /\ bl13 s % 2 = 0 /\ (bl13 s : Int) <= last + 2) /\ IndL (bl13 s) l
def lastL (T : List (List UInt8)) : Nat -> Int
 | 0 => -2
 | i + 1 => bl13 ((T[i]?).getD [])
theorem IndL.at : ∀ {l : List (List UInt8)} {last : Int},IndL last l -> ∀ {i : Nat} {s : List UInt8},l[i]? = some s -> bl13 s < s.length /\ bl13 s % 2 = 0 /\ (i = 0 -> (bl13 s : Int) <= last + 2) /\ (∀ k t,i = k + 1 -> l[k]? = some t -> (bl13 s : Int) <= bl13 t + 2)
 | [],_,_,i,s,h => by simp at h
 | u :: l,last,hi,0,s,h => by
  simp at h; subst h
  exact ⟨hi.1.1,hi.1.2.1,fun _ => hi.1.2.2,fun k t e => by omega⟩
 | u :: l,last,hi,i + 1,s,h => by
  have := hi.2.at (i := i) (s := s) (by simpa using h)
  refine ⟨this.1,this.2.1,fun e => by omega,fun k t e ht => ?_⟩
  obtain rfl : k = i := by omega
  cases k with
  | zero => simp at ht; subst ht; exact this.2.2.1 rfl
  | succ k => exact this.2.2.2 k t rfl (by simpa using ht)
theorem IndL.last {T : List (List UInt8)} (h : IndL (-2) T) {i : Nat} {s : List UInt8} (hs : T[i]? = some s) : bl13 s < s.length /\ bl13 s % 2 = 0 /\ (bl13 s : Int) <= lastL T i + 2 := by
 have := h.at hs
 refine ⟨this.1,this.2.1,?_⟩
 cases i with
 | zero => exact this.2.2.1 rfl
 | succ k =>
  obtain ⟨t,ht⟩ := at_lt (l := T) (i := k) (by have := (List.getElem?_eq_some_iff.1 hs).1; omega)
  show _ <= ((bl13 ((T[k]?).getD []) : Nat) : Int) + 2
  rw [ht]
  exact this.2.2.2 k t rfl ht
def NoB (h : List UInt8) : Prop := ∃ c r,h = c :: r /\ c ≠ 32
theorem NoB.app {h : List UInt8} (hh : NoB h) (t : List UInt8) : NoB (h ++ t) := by obtain ⟨c,r,rfl,hc⟩ := hh; exact ⟨c,r ++ t,rfl,hc⟩
theorem scB_noB {x : Sc} (h : prR rightS x = true) : NoB (scB x) := by
 unfold scB boolB
 rcases prR_kind h with ⟨h1,h2⟩ | ⟨h1,h2,h3⟩ | ⟨h1,h2,h3⟩ | ⟨h1,_⟩
 ·rw [if_pos h1]; exact ⟨_,_,rfl,by decide⟩
 ·rw [if_neg (by omega),if_pos h1]
  split
  ·exact ⟨_,_,rfl,by decide⟩
  ·exact ⟨_,_,rfl,by decide⟩
 ·rw [if_neg (by omega),if_neg (by omega),if_pos h1]
  cases e : Lib.itoa x.n with
  | nil => exact absurd e (itoa_ne _)
  | cons b t =>
   refine ⟨b,t,rfl,fun hb => ?_⟩
   have := itoa_byte x.n b (by rw [e]; simp)
   rw [hb] at this
   revert this; decide
 ·rw [if_neg (by omega),if_neg (by omega),if_neg (by omega)]; exact ⟨_,_,rfl,by decide⟩
theorem heads_noB {g : Gr} (hg : Tdy g) {i : Nat} {x : Nd} (hx : g.l[i]? = some x) (hk : x.kids ≠ []) (n : Nat) : ∀ h ∈ heads13 x.k x.keys n,NoB h := by
 intro h hm
 rcases nd_kind hg hx with ⟨_,h1,_⟩ | ⟨h0,_⟩ | ⟨h0,_,h2,_⟩
 ·exact absurd h1 hk
 ·unfold heads13 at hm; rw [if_pos h0,List.mem_replicate] at hm; rw [hm.2]; exact ⟨_,_,rfl,by decide⟩
 ·unfold heads13 at hm
  rw [if_neg (by omega)] at hm
  obtain ⟨y,hy,rfl⟩ := List.mem_map.1 hm
  exact (scB_noB (List.all_eq_true.1 h2 y hy)).app _
theorem IndL.cons13 {n : Nat} {h t : List UInt8} {l : List (List UInt8)} {last : Int} (hh : NoB h) (hn : n % 2 = 0) (hl : (n : Int) <= last + 2) (h2 : IndL n l) : IndL last ((blk13 n ++ (h ++ t)) :: l) := by
 obtain ⟨c,r,e,hc⟩ := hh.app t
 rw [e]
 have hb := bl13_blk (r := r) hc n
 refine ⟨⟨?_,?_,?_⟩,?_⟩
 ·rw [hb]; simp [blk13]
 ·rw [hb]; exact hn
 ·rw [hb]; exact hl
 ·rw [hb]; exact h2
theorem ind_items {g : Gr} (hg : Tdy g) {d : Nat} {t met met' : List Int} {q : List Tr} (h : EmW g d t met q met') : ∀ (n : Nat) (hs : List (List UInt8)) (last : Int) (rest : List (List UInt8)),n % 2 = 0 -> (∀ h ∈ hs,NoB h) -> (n : Int) <= last + 2 -> (∀ last' : Int,(n : Int) <= last' + 2 -> IndL last' rest) -> IndL last (lnK n hs q ++ rest) := by
 induction h with
 | nil => intro n hs last rest _ _ hl hr; rw [lnK_nil]; exact hr last hl
 | leaf hy hk h ih =>
  intro n hs last rest hn hh hl hr
  cases hs with
  | nil => exact hr last hl
  | cons h0 hs =>
   rw [lnK_cons,lnT_eq,List.append_assoc]
   refine IndL.cons13 (hh h0 (by simp)) hn hl ?_
   refine (?_ : IndL n (lnK (n + 2) _ [] ++ (lnK n hs _ ++ rest)))
   rw [lnK_nil,List.nil_append]
   exact ih n hs n rest hn (fun h hm => hh h (by simp [hm])) (by omega) hr
 | ref hy hk hm ha h ih =>
  intro n hs last rest hn hh hl hr
  cases hs with
  | nil => exact hr last hl
  | cons h0 hs =>
   rw [lnK_cons,lnT_eq,List.append_assoc]
   refine IndL.cons13 (hh h0 (by simp)) hn hl ?_
   refine (?_ : IndL n (lnK (n + 2) _ [] ++ (lnK n hs _ ++ rest)))
   rw [lnK_nil,List.nil_append]
   exact ih n hs n rest hn (fun h hm => hh h (by simp [hm])) (by omega) hr
 | @node d i y t met met1 met' q1 q2 hy hk hm hd h1 h2 ih1 ih2 =>
  intro n hs last rest hn hh hl hr
  cases hs with
  | nil => exact hr last hl
  | cons h0 hs =>
   rw [lnK_cons,lnT_eq,List.append_assoc,List.cons_append]
   refine IndL.cons13 (hh h0 (by simp)) hn hl ?_
   refine ih1 (n + 2) _ n _ (by omega) (heads_noB hg hy hk _) (by omega) fun last' hl' => ?_
   exact ih2 n hs last' rest hn (fun h hm => hh h (by simp [hm])) (by omega) hr
theorem bare_noB {g : Gr} (hg : Tdy g) {i : Nat} {x : Nd} (hx : g.l[i]? = some x) : NoB (bareN x) := by
 rcases nd_kind hg hx with ⟨h0,_,_,h2⟩ | ⟨h0,_⟩ | ⟨h0,_⟩
 ·show NoB (if x.k = 0 then scB x.x else if x.k = 1 then _ else _)
  rw [if_pos h0]; exact scB_noB h2
 ·show NoB (if x.k = 0 then scB x.x else if x.k = 1 then _ else _)
  rw [if_neg (by omega),if_pos h0]; exact ⟨_,_,rfl,by decide⟩
 ·show NoB (if x.k = 0 then scB x.x else if x.k = 1 then _ else _)
  rw [if_neg (by omega),if_neg (by omega)]; exact ⟨_,_,rfl,by decide⟩
theorem top_ind {q : Gr} (hg : Tdy q) (hd : deepQ q) : IndL (-2) (topL (emT q)) /\ topL (emT q) ≠ [] := by
 obtain ⟨met,hem,_,hfl⟩ := emT_ok hg hd
 obtain ⟨i,y,p,q2,met1,e0,hy,e1,hr,hc⟩ := hem.inv
 obtain rfl : i = 0 := by omega
 obtain ⟨e2,e3⟩ := List.cons.inj e1
 rw [<- e2] at hc
 generalize emT q = t at *
 rcases hc with ⟨hk,_,rfl⟩ | ⟨_,hm,_⟩ | ⟨hk,_,q1,h1,rfl⟩
 ·have ht : topL (.mk y.k ⟨#[]⟩ y.x y.keys []) = [bareN y] := by unfold topL; rw [if_pos (show (Tr.mk y.k ⟨#[]⟩ y.x y.keys []).kids = [] from rfl)]
  rw [ht]
  refine ⟨?_,by simp⟩
  have := IndL.cons13 (n := 0) (t := []) (l := []) (last := -2) (bare_noB hg hy) rfl (by omega) trivial
  simpa [blk13] using this
 ·cases hm
 ·have hq1 : q1 ≠ [] := fun e => hk (List.eq_nil_of_length_eq_zero (by rw [<- h1.len,e]; rfl))
  have hw : topL (.mk y.k (aName (anc q 0)) y.x y.keys q1) = (if aName (anc q 0) = ⟨#[]⟩ then [] else [38 :: (aName (anc q 0)).data.toList]) ++ lnK 0 (heads13 y.k y.keys q1.length) q1 := by
   unfold topL; rw [if_neg (show ¬ (Tr.mk y.k (aName (anc q 0)) y.x y.keys q1).kids = [] from hq1)]; rfl
  rw [hw]
  have hi : ∀ last : Int,0 <= last + 2 -> IndL last (lnK 0 (heads13 y.k y.keys q1.length) q1) := fun last hl => by
   have := ind_items hg h1 0 (heads13 y.k y.keys q1.length) last [] rfl (heads_noB hg hy hk _) (by omega) fun _ _ => trivial
   rwa [List.append_nil] at this
  by_cases hn : aName (anc q 0) = ⟨#[]⟩
  ·rw [if_pos hn,List.nil_append]
   refine ⟨hi _ (by omega),fun e => ?_⟩
   have hl := heads_len hg hy hk
   cases q1 with
   | nil => exact hq1 rfl
   | cons t1 q1 =>
    rw [<- h1.len] at hl
    cases hh : heads13 y.k y.keys (t1 :: q1).length with
    | nil => rw [hh] at hl; simp at hl
    | cons h0 hs => rw [hh,lnK_cons,lnT_eq] at e; simp at e
  ·rw [if_neg hn]
   refine ⟨?_,by simp⟩
   have := IndL.cons13 (n := 0) (h := 38 :: (aName (anc q 0)).data.toList) (t := []) (last := -2) ⟨_,_,rfl,by decide⟩ rfl (by omega) (hi 0 (by omega))
   simpa [blk13] using this
theorem bT_at (s : List UInt8) (i : Nat) : (bT s)[i]? = s[i]? := by
 by_cases h : i < s.length
 ·have h' : i < (bT s).size := by rw [bT_size]; exact h
  rw [List.getElem?_eq_getElem h,getElem?_pos (bT s) i h']; rfl
 ·have h' : ¬ i < (bT s).size := by rw [bT_size]; exact h
  rw [List.getElem?_eq_none (by omega),getElem?_neg (bT s) i h']
def rT13 (T : List (List UInt8)) (i : Nat) : ByteArray := bT (textL (T.take i))
theorem rT13_size (T : List (List UInt8)) (i : Nat) : (rT13 T i).size <= sizeL T := by unfold rT13; rw [bT_size,textL_len]; exact sizeL_take T i
theorem rT13_next {T : List (List UInt8)} {i : Nat} {s : List UInt8} (h : T[i]? = some s) : rT13 T i ++ bT s ++ (⟨#[10]⟩ : ByteArray) = rT13 T (i + 1) := by
 unfold rT13
 rw [show (⟨#[10]⟩ : ByteArray) = bT [10] from rfl,bT_app,bT_app,getD_take_snoc h,textL_snoc,List.append_assoc]
theorem lastL_next {T : List (List UInt8)} {i : Nat} {s : List UInt8} (h : T[i]? = some s) : lastL T (i + 1) = bl13 s := by show ((bl13 ((T[i]?).getD []) : Nat) : Int) = _; rw [h]; rfl
theorem lastL_ge (T : List (List UInt8)) (i : Nat) : -2 <= lastL T i := by
 cases i with
 | zero => exact Int.le_refl _
 | succ k => show (-2 : Int) <= ((bl13 ((T[k]?).getD []) : Nat) : Int); omega
set_option maxHeartbeats 2000000 in
theorem emit_lines (h : Env13 gp) (g : Gr) : Does QP gp 4 [g.v] (vb true) := by
 have cs := shown13_ok h
 have ct := tidied13 h.e g true
 have hs := tidied_small g true
 have hst := tidied_short g true
 have c1 := text13 h hs hst
 have c2 := lines13 h hs hst
 have c3 := size13 h hs hst
 have hsz := outE_size (tidied g true)
 generalize tidied g true = q at *
 refine f4_in ?_
 simp only [go_sem]
 have ho : (outE q).2 = 0 /\ IndL (-2) (outE q).1 /\ (outE q).1 ≠ [] \/ (outE q).2 ≠ 0 /\ (outE q).1 = [] := by
  by_cases ht : chk q = none /\ q = tidyG q
  ·have hg := tdy_of hs ht
   by_cases hd : deepQ q
   ·by_cases hp : placeL q > 200
    ·rw [outE_many ht hd hp]; exact .inr ⟨by decide,rfl⟩
    ·by_cases hz : sizeL (topL (emT q)) > 8000
     ·rw [outE_long ht hd hp hz]; exact .inr ⟨by decide,rfl⟩
     ·rw [outE_ok ht hd hp hz]; exact .inl ⟨rfl,top_ind hg hd⟩
   ·rw [outE_deep ht hd]; exact .inr ⟨by decide,rfl⟩
  ·rw [outE_bad ht]; exact .inr ⟨by decide,rfl⟩
 generalize outE q = o at *
 obtain ⟨T,e⟩ := o
 dsimp only at ho hsz c1 c2 c3
 rcases ho with ⟨rfl,hi,hne⟩ | ⟨he,rfl⟩
 ·have hTl : 0 < T.length := by cases T with | nil => exact absurd rfl hne | cons => simp
  have hge := sizeL_ge T
  have eA : rT13 T T.length = bT (textL T) := by unfold rT13; rw [List.take_length]
  have eZ : ((sizeL T : Nat) : Int) = (((bT (textL T)).size : Nat) : Int) := by rw [bT_size,textL_len]
  repeat' (first | refine Kn rfl ?_ | ((first | refine Ka ?_ | refine Kb ?_ | refine Kc ?_ | refine Kd ?_ | refine Ke ?_); simp only [go_sem]) | refine Kf ?_ | refine Kg ?_ | refine ⟨_,cs,Kg ?_⟩ | refine ⟨_,⟨cs,rfl⟩,Kg ?_⟩ | refine ⟨_,ct,Kg ?_⟩ | refine ⟨_,⟨ct,rfl⟩,Kg ?_⟩ | refine ⟨_,c1,Kg ?_⟩ | refine ⟨_,⟨c1,rfl⟩,Kg ?_⟩ | refine ⟨_,c2,Kg ?_⟩ | refine ⟨_,⟨c2,rfl⟩,Kg ?_⟩ | refine ⟨_,c3,Kg ?_⟩ | refine ⟨_,⟨c3,rfl⟩,Kg ?_⟩ | (refine Kp (fun _ => ?_) (fun _ => ?_) <;> try (exfalso; omega)) | ((first | refine Kh ?_ | refine Ki rfl ?_); simp only [or_self,Qs,Qt,Qu,Qv,Qw,Qx,Qy,Qz,Za,go_sem]))
  refine Kj (fr 137 [(3,vb true),(4,vs (bT (textL T))),(6,.one (.d (.sl (strD T)))),(7,vi 0),(8,vi (sizeL T)),(9,vi 0),(10,vs (rT13 T (0 : Nat))),(11,vi (lastL T (0 : Nat))),(12,vi (0 : Nat))]) (by (simp only [go_sem]; repeat' (first | refine Kp ?_ ?_ | exact Or.inl rfl | exact Or.inr rfl | rfl))) ?_
  refine Km (fun mz sz => ∃ i : Nat,i <= T.length /\ mz = T.length - i /\ (0 <= i) /\ sz = ⟨fr 137 [(3,vb true),(4,vs (bT (textL T))),(6,.one (.d (.sl (strD T)))),(7,vi 0),(8,vi (sizeL T)),(9,vi 0),(10,vs (rT13 T i)),(11,vi (lastL T i)),(12,vi i)],[.cells q.as]⟩) (T.length) ⟨0,Nat.zero_le _,(Nat.sub_zero _).symm,?_,rfl⟩ ?_
  ·exact Nat.zero_le _
  rintro _ _ ⟨i,hil0,rfl,-,rfl⟩
  simp only [go_sem]
  by_cases hil : i < T.length
  ·obtain ⟨s,hsi⟩ := at_lt hil
   obtain ⟨k1,k2,k3⟩ := hi.last hsi
   obtain ⟨c,hc1,hc2⟩ := bl13_end k1
   have hin : ∀ j,j < bl13 s -> s[j]? = some 32 := fun j => bl13_at
   have hlg := lastL_ge T i
   have hln := lastL_next hsi
   have hrn := rT13_next hsi
   have hsl : s.length + 1 <= 8000 := by
    have h1 := sizeL_take T (i + 1)
    rw [getD_take_snoc hsi,sizeL_snoc] at h1; omega
   have hr1 := rT13_size T i
   have hbs : (bT s).size = s.length := bT_size s
   have hz1 : (((rT13 T i).size + (bT s).size : Nat) : Int) <= 9223372036854775807 := by omega
   have hz2 : (((rT13 T i).size + (bT s).size + #[(10 : UInt8)].size : Nat) : Int) <= 9223372036854775807 := by simp only [List.size_toArray,List.length_cons,List.length_nil]; omega
   generalize hL : lastL T i = L at *
   have hL8 : L <= 8000 := by
    rw [<- hL]
    cases i with
    | zero => show (-2 : Int) <= 8000; omega
    | succ k =>
     obtain ⟨t,ht⟩ := at_lt (l := T) (i := k) (by omega)
     rw [lastL_next ht]
     have h1 := sizeL_take T (k + 1)
     rw [getD_take_snoc ht,sizeL_snoc] at h1
     have := (hi.last ht).1
     omega
   generalize hm : bl13 s = m at *
   repeat' (first | refine Kn rfl ?_ | ((first | refine Ka ?_ | refine Kb ?_ | refine Kc ?_ | refine Kd ?_ | refine Ke ?_); simp only [go_sem]) | refine Kf ?_ | refine Kg ?_ | (refine Kp (fun _ => ?_) (fun _ => ?_) <;> try (exfalso; omega)))
   refine Kj (fr 137 [(3,vb true),(4,vs (bT (textL T))),(6,.one (.d (.sl (strD T)))),(7,vi 0),(8,vi (sizeL T)),(9,vi 0),(10,vs (rT13 T i)),(11,vi L),(12,vi i),(13,vi (0 : Nat))]) (by (simp only [go_sem]; repeat' (first | refine Kp ?_ ?_ | exact Or.inl rfl | exact Or.inr rfl | rfl))) ?_
   refine Km (fun mz sz => ∃ j : Nat,j <= m /\ mz = m - j /\ (0 <= j) /\ sz = ⟨fr 137 [(3,vb true),(4,vs (bT (textL T))),(6,.one (.d (.sl (strD T)))),(7,vi 0),(8,vi (sizeL T)),(9,vi 0),(10,vs (rT13 T i)),(11,vi L),(12,vi i),(13,vi j)],[.cells q.as]⟩) (m) ⟨0,Nat.zero_le _,(Nat.sub_zero _).symm,?_,rfl⟩ ?_
   ·exact Nat.zero_le _
   rintro _ _ ⟨j,hj,rfl,-,rfl⟩
   simp only [go_sem]
   have hjl : j < s.length := by omega
   have hjd : decide ((j : Int) < ((bT s).size : Nat)) = true := by rw [hbs]; simp; omega
   by_cases hjm : j < m
   ·have hb : (bT s)[j]? = some 32 := by rw [bT_at]; exact hin j hjm
    have h32 : (((UInt8.toNat 32 : Nat) : Int) == 32) = true := rfl
    have hik : inK .i64 ((j : Int) + 1) := inK_small (by omega) (by omega)
    repeat' (first | refine Kn rfl ?_ | ((first | refine Ka ?_ | refine Kb ?_ | refine Kc ?_ | refine Kd ?_ | refine Ke ?_); simp only [hjd,h32,go_sem]) | refine Kf ?_ | refine Kg ?_ | refine ⟨_,⟨Int.natCast_nonneg _,(by first | exact map_at hsi | (rw [Int.toNat_natCast]; exact map_at hsi)),rfl⟩,Kg ?_⟩ | refine ⟨_,_,⟨rfl,hb⟩,Kg ?_⟩ | refine ⟨hik,?_⟩ | (refine Kp (fun _ => ?_) (fun _ => ?_) <;> try (exfalso; omega)))
    refine Kj (fr 137 [(3,vb true),(4,vs (bT (textL T))),(6,.one (.d (.sl (strD T)))),(7,vi 0),(8,vi (sizeL T)),(9,vi 0),(10,vs (rT13 T i)),(11,vi L),(12,vi i),(13,vi (j + 1))]) (by (simp only [go_sem]; repeat' (first | refine Kp ?_ ?_ | exact Or.inl rfl | exact Or.inr rfl | rfl))) ?_
    refine Kl ⟨m - (j + 1),by omega,j + 1,by omega,rfl,?_,rfl⟩
    exact Nat.zero_le _
   ·obtain rfl : m = j := by omega
    have hb : (bT s)[m]? = some c := by rw [bT_at]; exact hc1
    have h32 : (((c.toNat : Nat) : Int) == 32) = false := by
     rw [beq_eq_false_iff_ne]; intro e; apply hc2
     exact UInt8.toNat_inj.1 (by rw [show (32 : UInt8).toNat = 32 from rfl]; omega)
    have h33 : ((m : Int) == ((bT s).size : Nat)) = false := by rw [beq_eq_false_iff_ne,hbs]; omega
    have h34 : ((m : Int).tmod 2 != 0) = false := by rw [bne_eq_false_iff_eq,Int.tmod_eq_emod_of_nonneg (by omega)]; omega
    have hik : inK .i64 (L + 2) := inK_small (by omega) (by omega)
    have hik2 : inK .i64 ((i : Int) + 1) := inK_small (by omega) (by omega)
    have hgt : ¬ ((m : Int) > L + 2) := by omega
    repeat' (first | refine Kn rfl ?_ | ((first | refine Ka ?_ | refine Kb ?_ | refine Kc ?_ | refine Kd ?_ | refine Ke ?_); simp only [hjd,h32,h33,h34,hgt,hz1,hz2,hrn,go_sem]) | refine Kf ?_ | refine Kg ?_ | refine ⟨_,⟨Int.natCast_nonneg _,(by first | exact map_at hsi | (rw [Int.toNat_natCast]; exact map_at hsi)),rfl⟩,Kg ?_⟩ | refine ⟨_,_,⟨rfl,hb⟩,Kg ?_⟩ | refine ⟨hik,?_⟩ | refine ⟨hik2,?_⟩ | (refine Kp (fun _ => ?_) (fun _ => ?_) <;> try (exfalso; omega)))
    refine Kj (fr 137 [(3,vb true),(4,vs (bT (textL T))),(6,.one (.d (.sl (strD T)))),(7,vi 0),(8,vi (sizeL T)),(9,vi 0),(10,vs (rT13 T (i + 1))),(11,vi m),(12,vi (i + 1))]) (by (simp only [go_sem]; repeat' (first | refine Kp ?_ ?_ | exact Or.inl rfl | exact Or.inr rfl | rfl))) ?_
    refine Kl ⟨T.length - (i + 1),by omega,i + 1,by omega,rfl,?_,by rw [hln]; rfl⟩
    exact Nat.zero_le _
  ·obtain rfl : T.length = i := by omega
   rw [eA,eZ]
   repeat' (first | refine Kn rfl ?_ | ((first | refine Ka ?_ | refine Kb ?_ | refine Kc ?_ | refine Kd ?_ | refine Ke ?_); simp only [go_sem]) | refine Kf ?_ | refine Kg ?_ | (refine Kp (fun _ => ?_) (fun _ => ?_) <;> try (exfalso; omega)) | ((first | refine Kh ?_ | refine Ki rfl ?_); simp only [or_self,Qs,Qt,Qu,Qv,Qw,Qx,Qy,Qz,Za,go_sem]))
   all_goals (rw [bT_size,textL_len]; omega)
 ·have he' : (e != 0) = true := by simp [he]
  have t0 : bT (textL []) = (⟨#[]⟩ : ByteArray) := rfl
  have z0 : sizeL [] = 0 := rfl
  rw [t0] at c1
  rw [z0] at c3
  repeat' (first | refine Kn rfl ?_ | ((first | refine Ka ?_ | refine Kb ?_ | refine Kc ?_ | refine Kd ?_ | refine Ke ?_); simp only [he',go_sem]) | refine Kf ?_ | refine Kg ?_ | refine ⟨_,cs,Kg ?_⟩ | refine ⟨_,⟨cs,rfl⟩,Kg ?_⟩ | refine ⟨_,ct,Kg ?_⟩ | refine ⟨_,⟨ct,rfl⟩,Kg ?_⟩ | refine ⟨_,c1,Kg ?_⟩ | refine ⟨_,⟨c1,rfl⟩,Kg ?_⟩ | refine ⟨_,c2,Kg ?_⟩ | refine ⟨_,⟨c2,rfl⟩,Kg ?_⟩ | refine ⟨_,c3,Kg ?_⟩ | refine ⟨_,⟨c3,rfl⟩,Kg ?_⟩ | (refine Kp (fun _ => ?_) (fun _ => ?_) <;> try (exfalso; omega)) | ((first | refine Kh ?_ | refine Ki rfl ?_); simp only [he',or_self,Qs,Qt,Qu,Qv,Qw,Qx,Qy,Qz,Za,go_sem]))
  all_goals trace_state
end Go.Fw.L07
