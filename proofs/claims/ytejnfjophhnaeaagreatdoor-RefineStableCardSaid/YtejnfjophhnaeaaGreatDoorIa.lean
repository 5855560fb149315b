/- Chapter 9,plain: pairs. -/
import Derived.Test.YtejnfjophhnaeaaGreatDoorEa
import Derived.Test.YtejnfjophhnaeaaGreatDoorL07L09Mini
set_option linter.all false
namespace Go.Fw.L07
open Go Go.Fw
open Go.Fw.Sh renaming intro -> Kg
open Go.Fw renaming G_reg -> Ka,G_regw -> Ka,VO_chk -> Kb,VO_go -> Kc,VO_gx -> Kd,G_cond -> Ke,VO_end -> Kf,G_fin -> Kh,G_ret -> Ki,G_weak -> Kj,G_drop -> Kk,G_again -> Kl,G_loop -> Km,Gx -> Kn
open And renaming intro -> Kp
open Go.Fw.V.one renaming injEq -> Qs
open Go.Fw.V.agg renaming injEq -> Qt
open Go.Fw.V.tup renaming injEq -> Qu
open Go.Fw.A.d renaming injEq -> Qv
open Go.Fw.D.bool renaming injEq -> Qw
open Go.Fw.D.int renaming injEq -> Qx
open Go.Fw.D.str renaming injEq -> Qy
open Go.Fw.D.sl renaming injEq -> Qz
open List.cons renaming injEq -> Za
set_option maxRecDepth 4000
abbrev Pp := Int × Int
def fitN (x y : Nd) : Bool := decide (x.k = y.k) && (decide (x.x = y.x) && (decide (keysOf x = keysOf y) && decide (x.kids.length = y.kids.length)))
theorem fitN_iff {x y : Nd} : fitN x y = true ↔ x.k = y.k /\ x.x = y.x /\ keysOf x = keysOf y /\ x.kids.length = y.kids.length := by simp [fitN]
def fitP (g h : Gr) (p : Pp) : Bool := fitN (ndAt g.l p.1) (ndAt h.l p.2)
def kdP (g h : Gr) (p : Pp) : List Pp := List.zip (kd g p.1) (kd h p.2)
inductive PW (f : Pp -> Bool) (k : Pp -> List Pp) : List Pp -> List Pp -> List Pp -> Bool -> Prop
 | nil (out : List Pp) : PW f k [] out out true
 | skip {p : Pp} {r out w : List Pp} {b : Bool} : p ∈ out -> PW f k r out w b -> PW f k (p :: r) out w b
 | stop {p : Pp} {r out : List Pp} : p ∉ out -> f p = false -> PW f k (p :: r) out (out ++ [p]) false
 | step {p : Pp} {r out w : List Pp} {b : Bool} : p ∉ out -> f p = true -> PW f k (k p ++ r) (out ++ [p]) w b -> PW f k (p :: r) out w b
section
variable {f : Pp -> Bool} {k : Pp -> List Pp}
theorem PW.det {t o w v : List Pp} {b c : Bool} (h : PW f k t o w b) (h' : PW f k t o v c) : w = v /\ b = c := by
 induction h with
 | nil => cases h'; exact ⟨rfl,rfl⟩
 | skip hm _ ih =>
  cases h' with
  | skip _ h2 => exact ih h2
  | stop hn _ => exact absurd hm hn
  | step hn _ _ => exact absurd hm hn
 | stop hn hf =>
  cases h' with
  | skip hm _ => exact absurd hm hn
  | stop _ _ => exact ⟨rfl,rfl⟩
  | step _ h2 _ => rw [hf] at h2; cases h2
 | step hn hf _ ih =>
  cases h' with
  | skip hm _ => exact absurd hm hn
  | stop _ h2 => rw [hf] at h2; cases h2
  | step _ _ h3 => exact ih h3
theorem PW.step_inv {p : Pp} {r o w : List Pp} {b : Bool} (h : PW f k (p :: r) o w b) (hm : p ∉ o) (hf : f p = true) : PW f k (k p ++ r) (o ++ [p]) w b := by
 cases h with
 | skip hn _ => exact absurd hn hm
 | stop _ h2 => rw [hf] at h2; cases h2
 | step _ _ h => exact h
theorem PW.pre {t o w : List Pp} {b : Bool} (h : PW f k t o w b) : ∃ r,w = o ++ r := by
 induction h with
 | nil out => exact ⟨[],by simp⟩
 | skip _ _ ih => exact ih
 | stop _ _ => exact ⟨_,rfl⟩
 | step _ _ _ ih =>
  obtain ⟨r,hr⟩ := ih
  exact ⟨_ :: r,by rw [hr,List.append_assoc]; rfl⟩
theorem PW.sub {t o w : List Pp} {b : Bool} (h : PW f k t o w b) {p : Pp} (hp : p ∈ o) : p ∈ w := by
 obtain ⟨r,rfl⟩ := h.pre
 exact List.mem_append_left _ hp
theorem snoc_nodup {o : List Pp} {p : Pp} (ho : o.Nodup) (hn : p ∉ o) : (o ++ [p]).Nodup := by
 refine List.nodup_append.2 ⟨ho,by simp,?_⟩
 intro a ha b hb; simp at hb; subst hb; rintro rfl; exact hn ha
theorem PW.nodup {t o w : List Pp} {b : Bool} (h : PW f k t o w b) (ho : o.Nodup) : w.Nodup := by
 induction h with
 | nil => exact ho
 | skip _ _ ih => exact ih ho
 | stop hn _ => exact snoc_nodup ho hn
 | step hn _ _ ih => exact ih (snoc_nodup ho hn)
theorem PW.all {P : Pp -> Prop} {t o w : List Pp} {b : Bool} (h : PW f k t o w b) (ht : ∀ p ∈ t,P p) (ho : ∀ p ∈ o,P p) (hk : ∀ p,P p -> ∀ q ∈ k p,P q) : ∀ p ∈ w,P p := by
 induction h with
 | nil => exact ho
 | skip _ _ ih => exact ih (fun i hi => ht i (List.mem_cons_of_mem _ hi)) ho
 | stop _ _ =>
  intro q hq
  rcases List.mem_append.1 hq with hq | hq
  ·exact ho q hq
  ·simp only [List.mem_singleton] at hq; subst hq; exact ht _ (by simp)
 | @step p r out w b _ _ _ ih =>
  refine ih (fun j hj => ?_) (fun j hj => ?_)
  ·rcases List.mem_append.1 hj with hj | hj
   ·exact hk p (ht p (by simp)) j hj
   ·exact ht j (List.mem_cons_of_mem _ hj)
  ·rcases List.mem_append.1 hj with hj | hj
   ·exact ho j hj
   ·simp only [List.mem_singleton] at hj; subst hj; exact ht _ (by simp)
theorem PW.todo {t o w : List Pp} {b : Bool} (h : PW f k t o w b) (hb : b = true) : ∀ p ∈ t,p ∈ w := by
 induction h with
 | nil => intro i hi; cases hi
 | skip hm h ih =>
  intro i hi
  rcases List.mem_cons.1 hi with rfl | hi
  ·exact h.sub hm
  ·exact ih hb i hi
 | stop _ _ => cases hb
 | step hn hf h ih =>
  intro i hi
  rcases List.mem_cons.1 hi with rfl | hi
  ·exact h.sub (by simp)
  ·exact ih hb i (List.mem_append_right _ hi)
theorem PW.closed {t o w : List Pp} {b : Bool} (h : PW f k t o w b) (hb : b = true) : ∀ p ∈ w,p ∉ o -> ∀ q ∈ k p,q ∈ w := by
 induction h with
 | nil => intro i hi hn; exact absurd hi hn
 | skip _ _ ih => exact ih hb
 | stop _ _ => cases hb
 | @step p r out w b hn hf h ih =>
  intro x hx hxo j hj
  by_cases e : x = p
  ·subst e; exact h.todo hb j (List.mem_append_left _ hj)
  ·exact ih hb x hx (by simp [hxo,e]) j hj
theorem PW.walks {k' : Int -> List Int} {φ : Pp -> Int} {t o w : List Pp} {b : Bool} (h : PW f k t o w b) (hb : b = true) (hi : ∀ p ∈ w,∀ q ∈ w,φ p = φ q -> p = q) (hk : ∀ p ∈ w,k' (φ p) = (k p).map φ) : Walks k' (t.map φ) (o.map φ) (w.map φ) := by
 induction h with
 | nil => exact .nil _
 | skip hm _ ih => exact .skip (List.mem_map_of_mem hm) (ih hb hi hk)
 | stop _ _ => cases hb
 | @step p r out w b hn hf h ih =>
  have hpw : p ∈ w := h.sub (by simp)
  refine .step ?_ ?_
  ·intro hm
   obtain ⟨q,hq,e⟩ := List.mem_map.1 hm
   have : q = p := hi q (h.sub (List.mem_append_left _ hq)) p hpw e
   subst this
   exact hn hq
  ·have := ih hb hi hk
   rw [hk p hpw]
   simpa using this
theorem pair_range {n : Nat} {l : List Pp} (hn : l.Nodup) (h : ∀ p ∈ l,(0 <= p.1 /\ p.1 < 200) /\ (0 <= p.2 /\ p.2 < 200)) : l.length <= 200000 := by
 have := range_len (n := 200000) (l := l.map fun p => p.1 * 1000 + p.2) (by
  rw [List.Nodup,List.pairwise_map]
  refine List.Pairwise.imp_of_mem ?_ hn
  intro a b ha hb hab e
  have h1 := h a ha
  have h2 := h b hb
  exact hab (Prod.ext (by omega) (by omega))) (by
  intro i hi
  obtain ⟨p,hp,rfl⟩ := List.mem_map.1 hi
  have := h p hp
  omega)
 simpa using this
theorem PW.ex (c : Nat) (hc : ∀ p,(k p).length <= c) (hk : ∀ p,∀ q ∈ k p,(0 <= q.1 /\ q.1 < 200) /\ (0 <= q.2 /\ q.2 < 200)) : ∀ (z : Nat) (t o : List Pp),(200000 - o.length) * (c + 1) + t.length <= z -> o.Nodup -> (∀ p ∈ o,(0 <= p.1 /\ p.1 < 200) /\ (0 <= p.2 /\ p.2 < 200)) -> (∀ p ∈ t,(0 <= p.1 /\ p.1 < 200) /\ (0 <= p.2 /\ p.2 < 200)) -> ∃ w b,PW f k t o w b
 | z,[],o,_,_,_,_ => ⟨o,true,.nil o⟩
 | 0,i :: t,o,hf,_,_,_ => by simp at hf
 | z + 1,i :: t,o,hf,hn,ho,ht => by
  by_cases hm : i ∈ o
  ·obtain ⟨w,b,hw⟩ := PW.ex c hc hk z t o (by simp at hf; omega) hn ho fun j hj => ht j (List.mem_cons_of_mem _ hj)
   exact ⟨w,b,.skip hm hw⟩
  ·cases hfi : f i with
   | false => exact ⟨_,_,.stop hm hfi⟩
   | true =>
    have hn' : (o ++ [i]).Nodup := snoc_nodup hn hm
    have ho' : ∀ p ∈ o ++ [i],(0 <= p.1 /\ p.1 < 200) /\ (0 <= p.2 /\ p.2 < 200) := fun j hj => by
     rcases List.mem_append.1 hj with hj | hj
     ·exact ho j hj
     ·simp only [List.mem_singleton] at hj; subst hj; exact ht _ (by simp)
    have hlen : o.length + 1 <= 200000 := by
     have := pair_range (n := 0) hn' ho'
     simpa using this
    obtain ⟨w,b,hw⟩ := PW.ex c hc hk z (k i ++ t) (o ++ [i]) (by
     have h1 := hc i
     simp only [List.length_append,List.length_cons,List.length_nil] at hf ⊢
     have h2 : 200000 - o.length = (200000 - (o.length + (0 + 1))) + 1 := by omega
     rw [h2,Nat.add_mul] at hf
     omega) hn' ho' fun j hj => by
     rcases List.mem_append.1 hj with hj | hj
     ·exact hk i j hj
     ·exact ht j (List.mem_cons_of_mem _ hj)
    exact ⟨w,b,.step hm hfi hw⟩
end
open Classical in
noncomputable def pairsF (f : Pp -> Bool) (k : Pp -> List Pp) (t : List Pp) : List Pp × Bool := if h : ∃ r : List Pp × Bool,PW f k t [] r.1 r.2 then Classical.choose h else ([],false)
theorem PW.eq {f : Pp -> Bool} {k : Pp -> List Pp} {t w : List Pp} {b : Bool} (h : PW f k t [] w b) : pairsF f k t = (w,b) := by
 unfold pairsF
 have hx : ∃ r : List Pp × Bool,PW f k t [] r.1 r.2 := ⟨(w,b),h⟩
 rw [dif_pos hx]
 have := (Classical.choose_spec hx).det h
 exact Prod.ext this.1 this.2
noncomputable def pairsG (g h : Gr) : List Pp × Bool := pairsF (fitP g h) (kdP g h) [(g.root,h.root)]
theorem pz_at {A B : List Int} {q : Pp} (h : q ∈ List.zip A B) : ∃ i : Nat,A[i]? = some q.1 /\ B[i]? = some q.2 := by
 obtain ⟨i,hi⟩ := List.mem_iff_getElem?.1 h
 exact ⟨i,List.getElem?_zip_eq_some.1 hi⟩
theorem at_pz {A B : List Int} {i : Nat} {a b : Int} (h : A[i]? = some a) (h' : B[i]? = some b) : (a,b) ∈ List.zip A B :=
 List.mem_of_getElem? (List.getElem?_zip_eq_some.2 ⟨h,h'⟩)
noncomputable def alikeG (g h : Gr) : Bool := (pairsG g h).2 && (decide (((pairsG g h).1.map Prod.fst).Nodup) && decide (((pairsG g h).1.map Prod.snd).Nodup))
structure Iso (g h : Gr) (R : Int -> Int -> Prop) : Prop where
 root : R g.root h.root
 fit : ∀ a b,R a b -> fitP g h (a,b) = true
 kid : ∀ a b,R a b -> ∀ q ∈ kdP g h (a,b),R q.1 q.2
 one : ∀ a b c,R a b -> R a c -> b = c
 inj : ∀ a b c,R a c -> R b c -> a = b
theorem inj_nodup {α : Type} {φ : Pp -> α} {l : List Pp} (hn : l.Nodup) (h : ∀ p ∈ l,∀ q ∈ l,φ p = φ q -> p = q) : (l.map φ).Nodup := by
 rw [List.Nodup,List.pairwise_map]
 exact List.Pairwise.imp_of_mem (fun {a b} ha hb hab e => hab (h a ha b hb e)) hn
theorem kd_zero {g : Gr} {a : Int} (h : ¬ (0 <= a /\ a < g.l.length)) : kd g a = [] := by
 rw [kd,node_off h]; simp [kidsOf,pairsOf,Nd.zero]
theorem kd_full {g : Gr} (hg : Good g) (a : Int) : (kd g a).length = (ndAt g.l a).kids.length := by
 by_cases h : 0 <= a /\ a < g.l.length
 ·exact (kids_ok (hg.node h)).len
 ·rw [kd_zero h,node_off h]; rfl
theorem fit_kd {g h : Gr} (hg : Good g) (hh : Good h) {p : Pp} (hf : fitP g h p = true) : (kd g p.1).length = (kd h p.2).length := by
 rw [kd_full hg,kd_full hh]
 exact (fitN_iff.1 hf).2.2.2
theorem Iso.trans {g h k : Gr} (hg : Good g) (hh : Good h) {R S : Int -> Int -> Prop} (H : Iso g h R) (K : Iso h k S) : Iso g k fun a c => ∃ b,R a b /\ S b c where
 root := ⟨_,H.root,K.root⟩
 fit := by
  rintro a c ⟨b,e,e'⟩
  obtain ⟨h1,h2,h3,h4⟩ := fitN_iff.1 (H.fit a b e)
  obtain ⟨k1,k2,k3,k4⟩ := fitN_iff.1 (K.fit b c e')
  exact fitN_iff.2 ⟨h1.trans k1,h2.trans k2,h3.trans k3,h4.trans k4⟩
 kid := by
  rintro a c ⟨b,e,e'⟩ q hq
  obtain ⟨i,h1,h2⟩ := pz_at hq
  have hl := fit_kd hg hh (H.fit a b e)
  have hi := (List.getElem?_eq_some_iff.1 h1).1
  obtain ⟨m,hm⟩ := at_lt (l := kd h b) (i := i) (by rw [<- hl]; exact hi)
  exact ⟨m,H.kid a b e _ (at_pz h1 hm),K.kid b c e' _ (at_pz hm h2)⟩
 one := by
  rintro a c d ⟨b,e,e'⟩ ⟨b',f,f'⟩
  obtain rfl := H.one _ _ _ e f
  exact K.one _ _ _ e' f'
 inj := by
  rintro a a' c ⟨b,e,e'⟩ ⟨b',f,f'⟩
  obtain rfl := K.inj _ _ _ e' f'
  exact H.inj _ _ _ e f
theorem Iso.sub {g h : Gr} {R : Int -> Int -> Prop} (H : Iso g h R) {a b : Int} (e : R a b) : Iso ⟨a,g.l⟩ ⟨b,h.l⟩ R := ⟨e,H.fit,H.kid,H.one,H.inj⟩
theorem Iso.path {g h : Gr} (hg : Good g) (hh : Good h) {R : Int -> Int -> Prop} (H : Iso g h R) : ∀ {ps : List Int} {a b : Int},R a b -> (∃ c d,atF (kd g) ps a = some c /\ atF (kd h) ps b = some d /\ R c d) \/ (atF (kd g) ps a = none /\ atF (kd h) ps b = none)
 | [],a,b,e => .inl ⟨a,b,rfl,rfl,e⟩
 | p :: ps,a,b,e => by
  simp only [atF]
  split
  ·have hl := fit_kd hg hh (H.fit a b e)
   dsimp only at hl
   by_cases hp : p.toNat < (kd g a).length
   ·obtain ⟨c,hc⟩ := at_lt hp
    obtain ⟨d,hd⟩ := at_lt (l := kd h b) (i := p.toNat) (by omega)
    rw [hc,hd]
    exact H.path hg hh (H.kid a b e _ (at_pz hc hd))
   ·rw [List.getElem?_eq_none (by omega),List.getElem?_eq_none (by omega)]
    exact .inr ⟨rfl,rfl⟩
  ·exact .inr ⟨rfl,rfl⟩
open Go.Proofs.Tryz renaming prog -> QP
variable {gp : Heap}
def cmp6 (x y : Sc) : Int := if x.k < y.k then -1 else if y.k < x.k then 1 else if x.n < y.n then -1 else if y.n < x.n then 1 else if Op.bytesLess x.s.toList y.s.toList then -1 else if !(Op.bytesLess x.s.toList y.s.toList || decide (x.s = y.s)) then 1 else 0
theorem cmp6_neg (x y : Sc) : cmp6 x y < 0 ↔ lex x y := by unfold cmp6 lex ltL; grind
theorem compare6 (x y : Sc) : Does QP gp 104 [x.v,y.v] (vi (cmp6 x y)) := by
 refine f104_in ?_
 simp only [go_sem]
 repeat' (first | refine Kn rfl ?_ | ((first | refine Ka ?_ | refine Kb ?_ | refine Kc ?_ | refine Kd ?_ | refine Ke ?_); simp only [go_sem]) | refine Kf ?_ | refine Kg ?_ | refine Kp (fun _ => ?_) (fun _ => ?_) | ((first | refine Kh ?_ | refine Ki rfl ?_); simp only [or_self,Qs,Qt,Qu,Qv,Qw,Qx,Qy,Qz,Za,go_sem]))
 all_goals (unfold cmp6; grind)
theorem is_map7 (x : Nd) : Does QP gp 76 [x.v] (vb (decide (x.k = 2 /\ x.keys.length = x.kids.length))) := by
 refine f76_in ?_
 simp only [go_sem]
 repeat' (first | refine Kn rfl ?_ | ((first | refine Ka ?_ | refine Kb ?_ | refine Kc ?_ | refine Kd ?_ | refine Ke ?_); simp only [go_sem]) | refine Kf ?_ | refine Kg ?_ | refine Kp (fun _ => ?_) (fun _ => ?_) | ((first | refine Kh ?_ | refine Ki rfl ?_); simp only [or_self,Qs,Qt,Qu,Qv,Qw,Qx,Qy,Qz,Za,go_sem]))
 all_goals (first | (simp_all; done) | grind | trace_state)
def kyO (x : Nd) (k : Int) : Sc := (x.keys[k.toNat]?).getD ⟨0,0,⟨#[]⟩⟩
def posO (f : Int -> Bool) (out : List Int) : Nat := (out.takeWhile fun k => !f k).length
theorem posO_le (f : Int -> Bool) : ∀ out : List Int,posO f out <= out.length
 | [] => Nat.le_refl _
 | a :: l => by
  have := posO_le f l
  unfold posO at *
  rw [List.takeWhile_cons]
  split
  ·simp; exact this
  ·simp
theorem posO_lt {f : Int -> Bool} : ∀ {out : List Int} {j : Nat} {k : Int},j < posO f out -> out[j]? = some k -> f k = false
 | [],j,k,_,h => by simp at h
 | a :: l,j,k,hj,h => by
  unfold posO at hj
  rw [List.takeWhile_cons] at hj
  split at hj
  ·rename_i ha
   cases j with
   | zero => simp at h; subst h; simpa using ha
   | succ j => exact posO_lt (j := j) (by unfold posO; simpa using hj) (by simpa using h)
  ·simp at hj
theorem posO_at {f : Int -> Bool} : ∀ {out : List Int} {k : Int},out[posO f out]? = some k -> f k = true
 | [],k,h => by simp at h
 | a :: l,k,h => by
  unfold posO at h
  rw [List.takeWhile_cons] at h
  split at h
  ·exact posO_at (out := l) (by unfold posO; simpa using h)
  ·rename_i ha
   simp at h; subst h; simpa using ha
def ltO (x : Nd) (i : Nat) (k : Int) : Bool := decide (cmp6 (kyO x i) (kyO x k) < 0)
def ordN (x : Nd) : Nat -> List Int
 | 0 => []
 | i + 1 => (ordN x i).take (posO (ltO x i) (ordN x i)) ++ (i : Int) :: (ordN x i).drop (posO (ltO x i) (ordN x i))
theorem ordN_len (x : Nd) : ∀ i,(ordN x i).length = i
 | 0 => rfl
 | i + 1 => by
  have h1 := ordN_len x i
  have h2 := posO_le (ltO x i) (ordN x i)
  simp only [ordN,List.length_append,List.length_take,List.length_cons,List.length_drop]; omega
theorem ordN_in (x : Nd) : ∀ i,∀ k ∈ ordN x i,0 <= k /\ k < i
 | 0,k,h => by simp [ordN] at h
 | i + 1,k,h => by
  simp only [ordN,List.mem_append,List.mem_cons] at h
  rcases h with h | rfl | h
  ·have := ordN_in x i k (List.mem_of_mem_take h); omega
  ·omega
  ·have := ordN_in x i k (List.mem_of_mem_drop h); omega
def nxtO (out : List Int) (p : Nat) (i : Int) (j : Nat) : List Int := if p < j then out.take p ++ i :: (out.take j).drop p else out.take j
theorem nxtO_step {out : List Int} {p : Nat} {i k : Int} {j : Nat} (hk : out[j]? = some k) : nxtO out p i (j + 1) = if j = p then nxtO out p i j ++ [i] ++ [k] else nxtO out p i j ++ [k] := by
 have hj := (List.getElem?_eq_some_iff.1 hk).1
 have ht : out.take (j + 1) = out.take j ++ [k] := by rw [List.take_succ,hk]; rfl
 unfold nxtO
 by_cases h1 : j = p
 ·subst h1
  rw [if_pos (Nat.lt_succ_self j),if_pos rfl,if_neg (Nat.lt_irrefl j),ht,List.drop_append_of_le_length (by simp; omega)]
  simp
 ·rw [if_neg h1]
  by_cases h2 : p < j
  ·rw [if_pos (by omega),if_pos h2,ht,List.drop_append_of_le_length (by simp; omega)]
   simp
  ·rw [if_neg (by omega),if_neg h2,ht]
theorem nxtO_len {out : List Int} {p : Nat} {i : Int} {j : Nat} (hj : j <= out.length) : (nxtO out p i j).length <= j + 1 := by
 unfold nxtO
 split
 ·simp; omega
 ·simp; omega
theorem nxtO_end {out : List Int} {p : Nat} {i : Int} (hp : p <= out.length) : out.take p ++ i :: out.drop p = if p < out.length then nxtO out p i out.length else nxtO out p i out.length ++ [i] := by
 unfold nxtO
 split
 ·rw [List.take_of_length_le (Nat.le_refl out.length)]
 ·have : p = out.length := by omega
  subst this
  simp
set_option maxHeartbeats 1000000 in
theorem order_n (x : Nd) (hl : x.keys.length <= 12) : Does QP gp 77 [x.v] (.one (.d (.sl (ints (ordN x x.keys.length))))) := by
 refine f77_in ?_
 simp only [go_sem]
 repeat' (first | refine Kn rfl ?_ | ((first | refine Ka ?_ | refine Kb ?_ | refine Kc ?_ | refine Kd ?_ | refine Ke ?_); simp only [go_sem]) | refine Kf ?_ | refine Kg ?_ | refine Kp (fun _ => ?_) (fun _ => ?_) | ((first | refine Kh ?_ | refine Ki rfl ?_); simp only [or_self,Qs,Qt,Qu,Qv,Qw,Qx,Qy,Qz,Za,go_sem]))
 refine G_row0 3 1 (by decide) rfl ?_
 simp only [go_sem]
 refine G_freeze 0 ?_
 simp only [go_sem]
 refine Kk 0 (by simp only [List.length_nil]; decide) (by simp only [go_sem]) (by simp only [go_sem]) ?_
 simp only [go_sem]
 refine Kj (fr 59 [(1,.one (.d (.bx x.ds))),(3,.one (.d (.sl (ints (ordN x (0 : Nat)))))),(4,vi (0 : Nat))]) (by (simp only [go_sem]; repeat' (first | refine Kp ?_ ?_ | exact Or.inl rfl | exact Or.inr rfl | rfl))) ?_
 refine Km (fun mz sz => ∃ i : Nat,i <= x.keys.length /\ mz = x.keys.length - i /\ (0 <= i) /\ sz = ⟨fr 59 [(1,.one (.d (.bx x.ds))),(3,.one (.d (.sl (ints (ordN x i))))),(4,vi i)],[]⟩) (x.keys.length) ⟨0,Nat.zero_le _,(Nat.sub_zero _).symm,?_,rfl⟩ ?_
 ·exact Nat.zero_le _
 rintro _ _ ⟨i,hi,rfl,-,rfl⟩
 simp only [go_sem]
 by_cases hil : i < x.keys.length
 ·obtain ⟨a,ha⟩ := at_lt hil
  have hol := ordN_len x i
  have hin := ordN_in x i
  have hpl := posO_le (ltO x i) (ordN x i)
  have hlt := fun j k h1 h2 => posO_lt (f := ltO x i) (out := ordN x i) (j := j) (k := k) h1 h2
  have hat := fun k h => posO_at (f := ltO x i) (out := ordN x i) (k := k) h
  have hnx : ordN x (i + 1) = (ordN x i).take (posO (ltO x i) (ordN x i)) ++ (i : Int) :: (ordN x i).drop (posO (ltO x i) (ordN x i)) := rfl
  generalize posO (ltO x i) (ordN x i) = p at *
  generalize ordN x i = out at *
  repeat' (first | refine Kn rfl ?_ | ((first | refine Ka ?_ | refine Kb ?_ | refine Kc ?_ | refine Kd ?_ | refine Ke ?_); simp only [go_sem]) | refine Kf ?_ | refine Kg ?_ | refine Kp (fun _ => ?_) (fun _ => ?_) | ((first | refine Kh ?_ | refine Ki rfl ?_); simp only [or_self,Qs,Qt,Qu,Qv,Qw,Qx,Qy,Qz,Za,go_sem]))
  all_goals first | (exfalso; omega) | skip
  refine G_row0 5 1 (by decide) rfl ?_
  simp only [go_sem]
  refine Kj (fr 59 [(1,.one (.d (.bx x.ds))),(3,.one (.d (.sl (ints out)))),(4,vi i),(5,.one (.own 0 (nxtO out p i (0 : Nat)).length)),(6,vb (decide (p < (0 : Nat)))),(7,vi (0 : Nat))]) (by (simp only [go_sem]; repeat' (first | refine Kp ?_ ?_ | exact Or.inl rfl | exact Or.inr rfl | rfl))) ?_
  refine Km (fun mz sz => ∃ j : Nat,j <= out.length /\ mz = out.length - j /\ (0 <= j) /\ sz = ⟨fr 59 [(1,.one (.d (.bx x.ds))),(3,.one (.d (.sl (ints out)))),(4,vi i),(5,.one (.own 0 (nxtO out p i j).length)),(6,vb (decide (p < j))),(7,vi j)],[.row 1 (nxtO out p i j).length (ints (nxtO out p i j))]⟩) (out.length) ⟨0,Nat.zero_le _,(Nat.sub_zero _).symm,?_,rfl⟩ ?_
  ·exact Nat.zero_le _
  rintro _ _ ⟨j,hj,rfl,-,rfl⟩
  simp only [go_sem]
  by_cases hjl : j < out.length
  ·obtain ⟨k,hk⟩ := at_lt hjl
   have hkr := hin k (List.mem_of_getElem? hk)
   obtain ⟨m,rfl⟩ := Int.eq_ofNat_of_zero_le hkr.1
   obtain ⟨b,hb⟩ := at_lt (l := x.keys) (i := m) (by omega)
   have hst := nxtO_step (p := p) (i := (i : Int)) hk
   have hnl := nxtO_len (p := p) (i := (i : Int)) hj
   have hky : ltO x i m = decide (cmp6 a b < 0) := by unfold ltO kyO; rw [Int.toNat_natCast,Int.toNat_natCast,ha,hb]; rfl
   generalize nxtO out p (i : Int) j = N at *
   rcases Nat.lt_trichotomy j p with hjp | hjp | hjp
   ·have hd : decide (p < j) = false := decide_eq_false (by omega)
    have hc := hlt j m hjp hk
    rw [hky] at hc
    rw [if_neg (by omega)] at hst
    have hd1 : decide (p < j + 1) = false := decide_eq_false (by omega)
    repeat' (first | refine Kn rfl ?_ | ((first | refine Ka ?_ | refine Kb ?_ | refine Kc ?_ | refine Kd ?_ | refine Ke ?_); simp only [hd,hc,go_sem]) | refine Kf ?_ | refine Kg ?_ | refine ⟨_,compare6 a b,Sh.intro ?_⟩ | refine ⟨_,⟨compare6 a b,rfl⟩,Sh.intro ?_⟩ | refine ⟨_,⟨Int.natCast_nonneg _,(by first | exact map_at ha | (rw [Int.toNat_natCast]; exact map_at ha)),rfl⟩,Sh.intro ?_⟩ | refine ⟨_,⟨Int.natCast_nonneg _,(by first | exact map_at hb | (rw [Int.toNat_natCast]; exact map_at hb)),rfl⟩,Sh.intro ?_⟩ | refine ⟨_,⟨Int.natCast_nonneg _,(by first | exact map_at hk | (rw [Int.toNat_natCast]; exact map_at hk)),rfl⟩,Sh.intro ?_⟩ | (refine Kp (fun _ => ?_) (fun _ => ?_) <;> try (exfalso; omega)) | ((first | refine Kh ?_ | refine Ki rfl ?_); simp only [hd,hc,or_self,Qs,Qt,Qu,Qv,Qw,Qx,Qy,Qz,Za,go_sem]))
    refine ⟨by simp,by omega,by unfold lenMax; omega,?_⟩
    rw [show ints N ++ [[.int .i64 (m : Int)]] = ints (nxtO out p i (j + 1)) from by rw [hst]; simp [ints],show N.length + 1 = (nxtO out p i (j + 1)).length from by rw [hst]; simp]
    repeat' (first | refine Kn rfl ?_ | ((first | refine Ka ?_ | refine Kb ?_ | refine Kc ?_ | refine Kd ?_ | refine Ke ?_); simp only [go_sem]) | refine Kf ?_ | refine Kg ?_ | (refine Kp (fun _ => ?_) (fun _ => ?_) <;> try (exfalso; omega)) | ((first | refine Kh ?_ | refine Ki rfl ?_); simp only [or_self,Qs,Qt,Qu,Qv,Qw,Qx,Qy,Qz,Za,go_sem]))
    refine ⟨inK_nat hjl (by unfold lenMax; omega),?_⟩
    refine Kj (fr 59 [(1,.one (.d (.bx x.ds))),(3,.one (.d (.sl (ints out)))),(4,vi i),(5,.one (.own 0 (nxtO out p i (j + 1)).length)),(6,vb false),(7,vi (j + 1))]) (by (simp only [go_sem]; repeat' (first | refine Kp ?_ ?_ | exact Or.inl rfl | exact Or.inr rfl | rfl))) ?_
    refine Kl ⟨out.length - (j + 1),by omega,j + 1,by omega,rfl,?_,by rw [hd1]; rfl⟩
    exact Nat.zero_le _
   ·have hd : decide (p < j) = false := decide_eq_false (by omega)
    have hc := hat m (by rw [<- hjp]; exact hk)
    rw [hky] at hc
    rw [if_pos hjp] at hst
    have hd1 : decide (p < j + 1) = true := decide_eq_true (by omega)
    repeat' (first | refine Kn rfl ?_ | ((first | refine Ka ?_ | refine Kb ?_ | refine Kc ?_ | refine Kd ?_ | refine Ke ?_); simp only [hd,hc,go_sem]) | refine Kf ?_ | refine Kg ?_ | refine ⟨_,compare6 a b,Sh.intro ?_⟩ | refine ⟨_,⟨compare6 a b,rfl⟩,Sh.intro ?_⟩ | refine ⟨_,⟨Int.natCast_nonneg _,(by first | exact map_at ha | (rw [Int.toNat_natCast]; exact map_at ha)),rfl⟩,Sh.intro ?_⟩ | refine ⟨_,⟨Int.natCast_nonneg _,(by first | exact map_at hb | (rw [Int.toNat_natCast]; exact map_at hb)),rfl⟩,Sh.intro ?_⟩ | refine ⟨_,⟨Int.natCast_nonneg _,(by first | exact map_at hk | (rw [Int.toNat_natCast]; exact map_at hk)),rfl⟩,Sh.intro ?_⟩ | (refine Kp (fun _ => ?_) (fun _ => ?_) <;> try (exfalso; omega)) | ((first | refine Kh ?_ | refine Ki rfl ?_); simp only [hd,hc,or_self,Qs,Qt,Qu,Qv,Qw,Qx,Qy,Qz,Za,go_sem]))
    refine ⟨by simp,by omega,by unfold lenMax; omega,?_⟩
    rw [show ints N ++ [[.int .i64 (i : Int)]] = ints (N ++ [(i : Int)]) from by simp [ints],show N.length + 1 = (N ++ [(i : Int)]).length from by simp]
    repeat' (first | refine Kn rfl ?_ | ((first | refine Ka ?_ | refine Kb ?_ | refine Kc ?_ | refine Kd ?_ | refine Ke ?_); simp only [go_sem]) | refine Kf ?_ | refine Kg ?_ | refine ⟨_,⟨Int.natCast_nonneg _,(by first | exact map_at hk | (rw [Int.toNat_natCast]; exact map_at hk)),rfl⟩,Sh.intro ?_⟩ | (refine Kp (fun _ => ?_) (fun _ => ?_) <;> try (exfalso; omega)) | ((first | refine Kh ?_ | refine Ki rfl ?_); simp only [or_self,Qs,Qt,Qu,Qv,Qw,Qx,Qy,Qz,Za,go_sem]))
    refine ⟨by simp,by simp; omega,by simp [lenMax]; omega,?_⟩
    rw [show ints (N ++ [(i : Int)]) ++ [[.int .i64 (m : Int)]] = ints (nxtO out p i (j + 1)) from by rw [hst]; simp [ints],show (N ++ [(i : Int)]).length + 1 = (nxtO out p i (j + 1)).length from by rw [hst]; simp]
    repeat' (first | refine Kn rfl ?_ | ((first | refine Ka ?_ | refine Kb ?_ | refine Kc ?_ | refine Kd ?_ | refine Ke ?_); simp only [go_sem]) | refine Kf ?_ | refine Kg ?_ | (refine Kp (fun _ => ?_) (fun _ => ?_) <;> try (exfalso; omega)) | ((first | refine Kh ?_ | refine Ki rfl ?_); simp only [or_self,Qs,Qt,Qu,Qv,Qw,Qx,Qy,Qz,Za,go_sem]))
    refine ⟨inK_nat hjl (by unfold lenMax; omega),?_⟩
    refine Kj (fr 59 [(1,.one (.d (.bx x.ds))),(3,.one (.d (.sl (ints out)))),(4,vi i),(5,.one (.own 0 (nxtO out p i (j + 1)).length)),(6,vb true),(7,vi (j + 1))]) (by (simp only [go_sem]; repeat' (first | refine Kp ?_ ?_ | exact Or.inl rfl | exact Or.inr rfl | rfl))) ?_
    refine Kl ⟨out.length - (j + 1),by omega,j + 1,by omega,rfl,?_,by rw [hd1]; rfl⟩
    exact Nat.zero_le _
   ·have hd : decide (p < j) = true := decide_eq_true (by omega)
    rw [if_neg (by omega)] at hst
    have hd1 : decide (p < j + 1) = true := decide_eq_true (by omega)
    repeat' (first | refine Kn rfl ?_ | ((first | refine Ka ?_ | refine Kb ?_ | refine Kc ?_ | refine Kd ?_ | refine Ke ?_); simp only [hd,go_sem]) | refine Kf ?_ | refine Kg ?_ | refine ⟨_,⟨Int.natCast_nonneg _,(by first | exact map_at hk | (rw [Int.toNat_natCast]; exact map_at hk)),rfl⟩,Sh.intro ?_⟩ | (refine Kp (fun _ => ?_) (fun _ => ?_) <;> try (exfalso; omega)) | ((first | refine Kh ?_ | refine Ki rfl ?_); simp only [hd,or_self,Qs,Qt,Qu,Qv,Qw,Qx,Qy,Qz,Za,go_sem]))
    refine ⟨by simp,by omega,by unfold lenMax; omega,?_⟩
    rw [show ints N ++ [[.int .i64 (m : Int)]] = ints (nxtO out p i (j + 1)) from by rw [hst]; simp [ints],show N.length + 1 = (nxtO out p i (j + 1)).length from by rw [hst]; simp]
    repeat' (first | refine Kn rfl ?_ | ((first | refine Ka ?_ | refine Kb ?_ | refine Kc ?_ | refine Kd ?_ | refine Ke ?_); simp only [go_sem]) | refine Kf ?_ | refine Kg ?_ | (refine Kp (fun _ => ?_) (fun _ => ?_) <;> try (exfalso; omega)) | ((first | refine Kh ?_ | refine Ki rfl ?_); simp only [or_self,Qs,Qt,Qu,Qv,Qw,Qx,Qy,Qz,Za,go_sem]))
    refine ⟨inK_nat hjl (by unfold lenMax; omega),?_⟩
    refine Kj (fr 59 [(1,.one (.d (.bx x.ds))),(3,.one (.d (.sl (ints out)))),(4,vi i),(5,.one (.own 0 (nxtO out p i (j + 1)).length)),(6,vb true),(7,vi (j + 1))]) (by (simp only [go_sem]; repeat' (first | refine Kp ?_ ?_ | exact Or.inl rfl | exact Or.inr rfl | rfl))) ?_
    refine Kl ⟨out.length - (j + 1),by omega,j + 1,by omega,rfl,?_,by rw [hd1]; rfl⟩
    exact Nat.zero_le _
  ·obtain rfl : out.length = j := by omega
   have hend := nxtO_end (out := out) (p := p) (i := (i : Int)) hpl
   have hnl := nxtO_len (out := out) (p := p) (i := (i : Int)) (Nat.le_refl _)
   rw [<- hnx] at hend
   generalize nxtO out p (i : Int) out.length = N at *
   by_cases hp : p < out.length
   ·have hd : decide (p < out.length) = true := decide_eq_true hp
    rw [if_pos hp] at hend
    rw [<- hend]
    repeat' (first | refine Kn rfl ?_ | ((first | refine Ka ?_ | refine Kb ?_ | refine Kc ?_ | refine Kd ?_ | refine Ke ?_); simp only [hd,go_sem]) | refine Kf ?_ | refine Kg ?_ | (refine Kp (fun _ => ?_) (fun _ => ?_) <;> try (exfalso; omega)) | ((first | refine Kh ?_ | refine Ki rfl ?_); simp only [hd,or_self,Qs,Qt,Qu,Qv,Qw,Qx,Qy,Qz,Za,go_sem]))
    refine ⟨inK_nat hil (by unfold lenMax; omega),?_⟩
    refine Kj (fr 59 [(1,.one (.d (.bx x.ds))),(3,.one (.own 0 (ordN x (i + 1)).length)),(4,vi ((i : Int) + 1))]) (by (simp only [go_sem]; repeat' (first | refine Kp ?_ ?_ | exact Or.inl rfl | exact Or.inr rfl | rfl))) ?_
    simp only [go_sem]
    refine G_freeze 0 ?_
    simp only [go_sem]
    refine Kk 0 (by simp only [List.length_nil]; decide) (by simp only [go_sem]) (by simp only [go_sem]) ?_
    simp only [go_sem]
    refine Kj (fr 59 [(1,.one (.d (.bx x.ds))),(3,.one (.d (.sl (ints (ordN x (i + 1)))))),(4,vi (i + 1))]) (by (simp only [go_sem]; repeat' (first | refine Kp ?_ ?_ | exact Or.inl rfl | exact Or.inr rfl | rfl))) ?_
    refine Kl ⟨x.keys.length - (i + 1),by omega,i + 1,by omega,rfl,?_,rfl⟩
    exact Nat.zero_le _
   ·have hd : decide (p < out.length) = false := decide_eq_false hp
    rw [if_neg hp] at hend
    repeat' (first | refine Kn rfl ?_ | ((first | refine Ka ?_ | refine Kb ?_ | refine Kc ?_ | refine Kd ?_ | refine Ke ?_); simp only [hd,go_sem]) | refine Kf ?_ | refine Kg ?_ | (refine Kp (fun _ => ?_) (fun _ => ?_) <;> try (exfalso; omega)) | ((first | refine Kh ?_ | refine Ki rfl ?_); simp only [hd,or_self,Qs,Qt,Qu,Qv,Qw,Qx,Qy,Qz,Za,go_sem]))
    refine ⟨by simp,by omega,by unfold lenMax; omega,?_⟩
    rw [show ints N ++ [[.int .i64 (i : Int)]] = ints (ordN x (i + 1)) from by rw [hend]; simp [ints]]
    repeat' (first | refine Kn rfl ?_ | ((first | refine Ka ?_ | refine Kb ?_ | refine Kc ?_ | refine Kd ?_ | refine Ke ?_); simp only [go_sem]) | refine Kf ?_ | refine Kg ?_ | (refine Kp (fun _ => ?_) (fun _ => ?_) <;> try (exfalso; omega)) | ((first | refine Kh ?_ | refine Ki rfl ?_); simp only [or_self,Qs,Qt,Qu,Qv,Qw,Qx,Qy,Qz,Za,go_sem]))
    refine ⟨inK_nat hil (by unfold lenMax; omega),?_⟩
    refine Kj (fr 59 [(1,.one (.d (.bx x.ds))),(3,.one (.own 0 (N.length + 1))),(4,vi ((i : Int) + 1))]) (by (simp only [go_sem]; repeat' (first | refine Kp ?_ ?_ | exact Or.inl rfl | exact Or.inr rfl | rfl))) ?_
    simp only [go_sem]
    refine G_freeze 0 ?_
    simp only [go_sem]
    refine Kk 0 (by simp only [List.length_nil]; decide) (by simp only [go_sem]) (by simp only [go_sem]) ?_
    simp only [go_sem]
    refine Kj (fr 59 [(1,.one (.d (.bx x.ds))),(3,.one (.d (.sl (ints (ordN x (i + 1)))))),(4,vi (i + 1))]) (by (simp only [go_sem]; repeat' (first | refine Kp ?_ ?_ | exact Or.inl rfl | exact Or.inr rfl | rfl))) ?_
    refine Kl ⟨x.keys.length - (i + 1),by omega,i + 1,by omega,rfl,?_,rfl⟩
    exact Nat.zero_le _
 ·obtain rfl : x.keys.length = i := by omega
  repeat' (first | refine Kn rfl ?_ | ((first | refine Ka ?_ | refine Kb ?_ | refine Kc ?_ | refine Kd ?_ | refine Ke ?_); simp only [go_sem]) | refine Kf ?_ | refine Kg ?_ | (refine Kp (fun _ => ?_) (fun _ => ?_) <;> try (exfalso; omega)) | ((first | refine Kh ?_ | refine Ki rfl ?_); simp only [or_self,Qs,Qt,Qu,Qv,Qw,Qx,Qy,Qz,Za,go_sem]))
  all_goals trace_state
theorem ord_isort (x : Nd) (hl : x.keys.length = x.kids.length) : ∀ i,i <= x.keys.length -> (ordN x i).map (fun k => ((zips x)[k.toNat]?).getD ⟨⟨0,0,⟨#[]⟩⟩,0⟩) = isortN cmpPr (zips x) i
 | 0,_ => rfl
 | i + 1,hi => by
  have ih := ord_isort x hl i (by omega)
  have hzl : (zips x).length = x.keys.length := by unfold zips; simp; omega
  obtain ⟨a,ha⟩ := at_lt (l := zips x) (i := i) (by omega)
  have hsl := isortN_len (c := cmpPr) (zips x) i (by omega)
  have hso := (isort_ok (zips x) i (by omega)).1
  have hol := ordN_len x i
  have hkey : ∀ (k : Nat) (y : Pr),(zips x)[k]? = some y -> kyO x k = y.key := by
   intro k y hy
   unfold zips at hy
   rw [List.getElem?_zipWith] at hy
   unfold kyO
   rw [Int.toNat_natCast]
   cases hb : x.keys[k]? with
   | none => rw [hb] at hy; cases hy
   | some b =>
    cases hc : x.kids[k]? with
    | none => rw [hb,hc] at hy; cases hy
    | some c => rw [hb,hc] at hy; cases hy; rfl
  simp only [isortN,ha]
  obtain ⟨i1,h1,h2,h3,h4⟩ := insJ_form a (isortN cmpPr (zips x) i) (isortN cmpPr (zips x) i).length (Nat.le_refl _)
  rw [List.take_of_length_le (Nat.le_refl _)] at h3
  rw [hsl] at h1 h2
  rw [h2]
  have hin := ordN_in x i
  have hpl := posO_le (ltO x i) (ordN x i)
  -- what stands where
  have hat : ∀ (j : Nat) (y : Pr),(isortN cmpPr (zips x) i)[j]? = some y -> ∃ k : Int,(ordN x i)[j]? = some k /\ (ltO x i k = true ↔ lex a.key y.key) := by
   intro j y hy
   rw [<- ih,List.getElem?_map] at hy
   cases hk : (ordN x i)[j]? with
   | none => rw [hk] at hy; cases hy
   | some k =>
    rw [hk] at hy
    have hkr := hin k (List.mem_of_getElem? hk)
    obtain ⟨m,rfl⟩ := Int.eq_ofNat_of_zero_le hkr.1
    obtain ⟨z,hz⟩ := at_lt (l := zips x) (i := m) (by omega)
    simp only [Option.map_some,Int.toNat_natCast,hz,Option.getD_some,Option.some.injEq] at hy
    subst hy
    refine ⟨_,rfl,?_⟩
    unfold ltO
    rw [hkey i a ha,hkey m z hz,decide_eq_true_eq,cmp6_neg]
  have hq : i1 = posO (ltO x i) (ordN x i) := by
   rcases Nat.lt_trichotomy i1 (posO (ltO x i) (ordN x i)) with h | h | h
   ·exfalso
    obtain ⟨y,hy⟩ := at_lt (l := isortN cmpPr (zips x) i) (i := i1) (by omega)
    obtain ⟨k,hk,hk2⟩ := hat i1 y hy
    have h5 := posO_lt h hk
    have h6 : lex a.key y.key := h3 y (by
     have : ((isortN cmpPr (zips x) i).drop i1)[0]? = some y := by rw [List.getElem?_drop,Nat.add_zero]; exact hy
     exact List.mem_of_getElem? this)
    rw [hk2.2 h6] at h5; cases h5
   ·exact h
   ·exfalso
    obtain ⟨m,rfl⟩ : ∃ m,i1 = m + 1 := ⟨i1 - 1,by omega⟩
    obtain ⟨y,hy⟩ := at_lt (l := isortN cmpPr (zips x) i) (i := posO (ltO x i) (ordN x i)) (by omega)
    obtain ⟨z,hz⟩ := at_lt (l := isortN cmpPr (zips x) i) (i := m) (by omega)
    obtain ⟨k,hk,hk2⟩ := hat _ y hy
    have h5 := hk2.1 (posO_at hk)
    have h6 := h4 m z rfl hz
    rcases Nat.lt_or_ge (posO (ltO x i) (ordN x i)) m with hm | hm
    ·have h7 := List.pairwise_iff_getElem.1 hso _ m (List.getElem?_eq_some_iff.1 hy).1 (List.getElem?_eq_some_iff.1 hz).1 hm
     rw [(List.getElem?_eq_some_iff.1 hy).2,(List.getElem?_eq_some_iff.1 hz).2] at h7
     rcases lex_tri y.key z.key with e | e | e
     ·exact h6 (lex_trans h5 e)
     ·exact h6 (e ▸ h5)
     ·exact h7 e
    ·have : posO (ltO x i) (ordN x i) = m := by omega
     rw [this,hz] at hy
     cases hy
     exact h6 h5
  rw [hq,<- ih]
  simp only [ordN,List.map_append,List.map_cons,List.map_take,List.map_drop,Int.toNat_natCast,ha,Option.getD_some]
theorem ord_keys (x : Nd) (hk : x.k = 2) (hl : x.keys.length = x.kids.length) : (ordN x x.keys.length).map (kyO x) = keysOf x := by
 have hzl : (zips x).length = x.keys.length := by unfold zips; simp; omega
 have h1 := ord_isort x hl x.keys.length (Nat.le_refl _)
 have h2 : keysOf x = (isortN cmpPr (zips x) x.keys.length).map Pr.key := by
  unfold keysOf
  rw [pairsOf_map hk hl,<- hzl]
 rw [h2,<- h1,List.map_map]
 apply List.map_congr_left
 intro k hk
 have hkr := ordN_in x _ k hk
 obtain ⟨m,rfl⟩ := Int.eq_ofNat_of_zero_le hkr.1
 obtain ⟨a,ha⟩ := at_lt (l := x.keys) (i := m) (by omega)
 obtain ⟨b,hb⟩ := at_lt (l := x.kids) (i := m) (by omega)
 have hz : (zips x)[m]? = some ⟨a,b⟩ := zip_at ha hb
 simp only [Function.comp,kyO,Int.toNat_natCast,ha,hz,Option.getD_some]
set_option maxHeartbeats 1000000 in
theorem keys7 (g : Gr) (i0 : Int) (hg : Small g) : Does QP gp 51 [g.v,vi i0] (.tup [.one (.d (.sl (scs (keysOf (ndAt g.l i0))))),vi (atE g.l i0)]) := by
 refine f51_in ?_
 simp only [go_sem]
 by_cases hr : 0 <= i0 /\ i0 < g.l.length
 ·obtain ⟨i,rfl⟩ := Int.eq_ofNat_of_zero_le hr.1
  obtain ⟨x,hx⟩ := at_lt (l := g.l) (i := i) (by omega)
  have hnd : ndAt g.l i = x := by unfold ndAt; rw [if_pos hr,Int.toNat_natCast,hx]; rfl
  have hat : atE g.l i = 0 := by unfold atE; rw [if_pos hr]
  have hsx := hg x (List.mem_of_getElem? hx)
  have c1 := is_map7 (gp := gp) x
  have c2 := order_n (gp := gp) x hsx.1
  rw [hnd,hat]
  by_cases hm : x.k = 2 /\ x.keys.length = x.kids.length
  ·rw [decide_eq_true hm] at c1
   have hok := ord_keys x hm.1 hm.2
   have hol := ordN_len x x.keys.length
   have hin := ordN_in x x.keys.length
   generalize ordN x x.keys.length = out at *
   repeat' (first | refine Kn rfl ?_ | ((first | refine Ka ?_ | refine Kb ?_ | refine Kc ?_ | refine Kd ?_ | refine Ke ?_); simp only [f51_r29,go_sem]) | refine Kf ?_ | refine Kg ?_ | refine ⟨_,c1,Sh.intro ?_⟩ | refine ⟨_,⟨c1,rfl⟩,Sh.intro ?_⟩ | refine ⟨_,c2,Sh.intro ?_⟩ | refine ⟨_,⟨c2,rfl⟩,Sh.intro ?_⟩ | refine ⟨_,⟨Int.natCast_nonneg _,(by first | exact map_at hx | (rw [Int.toNat_natCast]; exact map_at hx)),rfl⟩,Sh.intro ?_⟩ | (refine Kp (fun _ => ?_) (fun _ => ?_) <;> try (exfalso; omega)) | ((first | refine Kh ?_ | refine Ki rfl ?_); simp only [f51_r29,or_self,Qs,Qt,Qu,Qv,Qw,Qx,Qy,Qz,Za,go_sem]))
   all_goals first | (exfalso; omega) | skip
   refine G_row0 6 3 (by decide) rfl ?_
   simp only [go_sem]
   refine Kj (fr 52 [(1,vi i),(2,.one (.d (.bx [.int .i64 g.root,.sl (nds g.l)]))),(6,.one (.own 0 (0 : Nat))),(7,.one (.d (.sl (ints out)))),(8,vi (0 : Nat))]) (by (simp only [go_sem]; repeat' (first | refine Kp ?_ ?_ | exact Or.inl rfl | exact Or.inr rfl | rfl))) ?_
   refine Km (fun mz sz => ∃ j : Nat,j <= out.length /\ mz = out.length - j /\ (0 <= j) /\ sz = ⟨fr 52 [(1,vi i),(2,.one (.d (.bx [.int .i64 g.root,.sl (nds g.l)]))),(6,.one (.own 0 j)),(7,.one (.d (.sl (ints out)))),(8,vi j)],[.row 3 j (scs ((out.map (kyO x)).take j))]⟩) (out.length) ⟨0,Nat.zero_le _,(Nat.sub_zero _).symm,?_,rfl⟩ ?_
   ·exact Nat.zero_le _
   rintro _ _ ⟨j,hj,rfl,-,rfl⟩
   simp only [go_sem]
   by_cases hjl : j < out.length
   ·obtain ⟨k,hk⟩ := at_lt hjl
    have hkr := hin k (List.mem_of_getElem? hk)
    obtain ⟨m,rfl⟩ := Int.eq_ofNat_of_zero_le hkr.1
    obtain ⟨a,ha⟩ := at_lt (l := x.keys) (i := m) (by omega)
    have hka : (out.map (kyO x))[j]? = some a := by rw [List.getElem?_map,hk]; simp [kyO,ha]
    repeat' (first | refine Kn rfl ?_ | ((first | refine Ka ?_ | refine Kb ?_ | refine Kc ?_ | refine Kd ?_ | refine Ke ?_); simp only [f51_r29,go_sem]) | refine Kf ?_ | refine Kg ?_ | refine ⟨_,⟨Int.natCast_nonneg _,(by first | exact map_at hx | (rw [Int.toNat_natCast]; exact map_at hx)),rfl⟩,Sh.intro ?_⟩ | refine ⟨_,⟨Int.natCast_nonneg _,(by first | exact map_at hk | (rw [Int.toNat_natCast]; exact map_at hk)),rfl⟩,Sh.intro ?_⟩ | refine ⟨_,⟨Int.natCast_nonneg _,(by first | exact map_at ha | (rw [Int.toNat_natCast]; exact map_at ha)),rfl⟩,Sh.intro ?_⟩ | (refine Kp (fun _ => ?_) (fun _ => ?_) <;> try (exfalso; omega)) | ((first | refine Kh ?_ | refine Ki rfl ?_); simp only [f51_r29,or_self,Qs,Qt,Qu,Qv,Qw,Qx,Qy,Qz,Za,go_sem]))
    all_goals first | (exfalso; omega) | skip
    refine ⟨by simp,by simp; omega,by simp [lenMax]; omega,?_⟩
    rw [show scs ((out.map (kyO x)).take j) ++ [_] = scs ((out.map (kyO x)).take (j + 1)) from scs_snoc hka]
    repeat' (first | refine Kn rfl ?_ | ((first | refine Ka ?_ | refine Kb ?_ | refine Kc ?_ | refine Kd ?_ | refine Ke ?_); simp only [f51_r29,go_sem]) | refine Kf ?_ | refine Kg ?_ | (refine Kp (fun _ => ?_) (fun _ => ?_) <;> try (exfalso; omega)) | ((first | refine Kh ?_ | refine Ki rfl ?_); simp only [f51_r29,or_self,Qs,Qt,Qu,Qv,Qw,Qx,Qy,Qz,Za,go_sem]))
    refine ⟨inK_nat hjl (by unfold lenMax; omega),?_⟩
    refine Kj (fr 52 [(1,vi i),(2,.one (.d (.bx [.int .i64 g.root,.sl (nds g.l)]))),(6,.one (.own 0 (j + 1))),(7,.one (.d (.sl (ints out)))),(8,vi (j + 1))]) (by (simp only [go_sem]; repeat' (first | refine Kp ?_ ?_ | exact Or.inl rfl | exact Or.inr rfl | rfl))) ?_
    refine Kl ⟨out.length - (j + 1),by omega,j + 1,by omega,rfl,?_,rfl⟩
    exact Nat.zero_le _
   ·obtain rfl : out.length = j := by omega
    rw [List.take_of_length_le (by simp),hok]
    repeat' (first | refine Kn rfl ?_ | ((first | refine Ka ?_ | refine Kb ?_ | refine Kc ?_ | refine Kd ?_ | refine Ke ?_); simp only [go_sem]) | refine Kf ?_ | refine Kg ?_ | (refine Kp (fun _ => ?_) (fun _ => ?_) <;> try (exfalso; omega)) | ((first | refine Kh ?_ | refine Ki rfl ?_); simp only [or_self,Qs,Qt,Qu,Qv,Qw,Qx,Qy,Qz,Za,go_sem]))
    all_goals first | (exfalso; omega) | skip
    refine G_freeze 0 ?_
    simp only [go_sem]
    repeat' (first | refine Kn rfl ?_ | ((first | refine Ka ?_ | refine Kb ?_ | refine Kc ?_ | refine Kd ?_ | refine Ke ?_); simp only [f51_r29,go_sem]) | refine Kf ?_ | refine Kg ?_ | refine Kp (fun _ => ?_) (fun _ => ?_) | ((first | refine Kh ?_ | refine Ki rfl ?_); simp only [f51_r29,or_self,Qs,Qt,Qu,Qv,Qw,Qx,Qy,Qz,Za,go_sem]))
    all_goals trace_state
  ·rw [decide_eq_false hm] at c1
   have hk : keysOf x = [] := by unfold keysOf pairsOf; rw [if_neg hm]; rfl
   rw [hk]
   repeat' (first | refine Kn rfl ?_ | ((first | refine Ka ?_ | refine Kb ?_ | refine Kc ?_ | refine Kd ?_ | refine Ke ?_); simp only [f51_r29,go_sem]) | refine Kf ?_ | refine Kg ?_ | refine ⟨_,c1,Sh.intro ?_⟩ | refine ⟨_,⟨c1,rfl⟩,Sh.intro ?_⟩ | refine ⟨_,⟨Int.natCast_nonneg _,(by first | exact map_at hx | (rw [Int.toNat_natCast]; exact map_at hx)),rfl⟩,Sh.intro ?_⟩ | (refine Kp (fun _ => ?_) (fun _ => ?_) <;> try (exfalso; omega)) | ((first | refine Kh ?_ | refine Ki rfl ?_); simp only [f51_r29,or_self,Qs,Qt,Qu,Qv,Qw,Qx,Qy,Qz,Za,go_sem]))
   all_goals first | (exfalso; omega) | trace_state
 ·have hat : atE g.l i0 = 2 := by unfold atE; rw [if_neg hr]
  have hk : keysOf (ndAt g.l i0) = [] := by rw [node_off hr]; rfl
  rw [hat,hk]
  repeat' (first | refine Kn rfl ?_ | ((first | refine Ka ?_ | refine Kb ?_ | refine Kc ?_ | refine Kd ?_ | refine Ke ?_); simp only [f51_r29,go_sem]) | refine Kf ?_ | refine Kg ?_ | (refine Kp (fun _ => ?_) (fun _ => ?_) <;> try (exfalso; omega)) | ((first | refine Kh ?_ | refine Ki rfl ?_); simp only [f51_r29,or_self,Qs,Qt,Qu,Qv,Qw,Qx,Qy,Qz,Za,go_sem]))
  all_goals first | (exfalso; omega) | trace_state
theorem fit9 (g h : Gr) (i j : Nat) (hg : Small g) (hh : Small h) (hi : i < g.l.length) (hj : j < h.l.length) : Does QP gp 22 [g.v,vi i,h.v,vi j] (vb (fitP g h (i,j))) := by
 refine f22_in ?_
 simp only [go_sem]
 obtain ⟨x,hx⟩ := at_lt hi
 obtain ⟨y,hy⟩ := at_lt hj
 have hnx : ndAt g.l i = x := by unfold ndAt; rw [if_pos (by omega),Int.toNat_natCast,hx]; rfl
 have hny : ndAt h.l j = y := by unfold ndAt; rw [if_pos (by omega),Int.toNat_natCast,hy]; rfl
 have c1 := keys7 (gp := gp) g i hg
 have c2 := keys7 (gp := gp) h j hh
 rw [hnx] at c1
 rw [hny] at c2
 have c3 := scs_same (gp := gp) (keysOf x) (keysOf y)
 unfold fitP
 rw [hnx,hny]
 unfold fitN
 generalize keysOf x = kx at *
 generalize keysOf y = ky at *
 repeat' (first | refine Kn rfl ?_ | ((first | refine Ka ?_ | refine Kb ?_ | refine Kc ?_ | refine Kd ?_ | refine Ke ?_); simp only [sc_eq,go_sem]) | refine Kf ?_ | refine Kg ?_ | refine ⟨_,c1,Sh.intro ?_⟩ | refine ⟨_,⟨c1,rfl⟩,Sh.intro ?_⟩ | refine ⟨_,c2,Sh.intro ?_⟩ | refine ⟨_,⟨c2,rfl⟩,Sh.intro ?_⟩ | refine ⟨_,c3,Sh.intro ?_⟩ | refine ⟨_,⟨c3,rfl⟩,Sh.intro ?_⟩ | refine ⟨_,⟨Int.natCast_nonneg _,(by first | exact map_at hx | (rw [Int.toNat_natCast]; exact map_at hx)),rfl⟩,Sh.intro ?_⟩ | refine ⟨_,⟨Int.natCast_nonneg _,(by first | exact map_at hy | (rw [Int.toNat_natCast]; exact map_at hy)),rfl⟩,Sh.intro ?_⟩ | (refine Kp (fun _ => ?_) (fun _ => ?_) <;> try (exfalso; omega)) | ((first | refine Kh ?_ | refine Ki rfl ?_); simp only [sc_eq,or_self,Qs,Qt,Qu,Qv,Qw,Qx,Qy,Qz,Za,go_sem]))
 all_goals grind
abbrev pds (p : Pp) : List D := [.int .i64 p.1,.int .i64 p.2]
abbrev pas (p : Pp) : List A := [.d (.int .i64 p.1),.d (.int .i64 p.2)]
abbrev pv (p : Pp) : V := .agg (pas p)
abbrev pps (l : List Pp) : List (List D) := l.map pds
theorem pp_eq (p q : Pp) : (p.1 == q.1 && p.2 == q.2) = decide (p = q) := by
 rw [Bool.eq_iff_iff]; simp [Prod.ext_iff]
def smallG (g : Gr) (n : Int) : Gr := if g.l.length > n then ⟨-1,[]⟩ else g.cut
theorem small9 (g : Gr) (n : Int) : Does QP gp 13 [g.v,vi n] (smallG g n).v := by
 refine f13_in ?_
 simp only [go_sem]
 by_cases h : (g.l.length : Int) > n
 ·have e : smallG g n = ⟨-1,[]⟩ := by unfold smallG; rw [if_pos h]
  rw [e]
  repeat' (first | refine Kn rfl ?_ | ((first | refine Ka ?_ | refine Kb ?_ | refine Kc ?_ | refine Kd ?_ | refine Ke ?_); simp only [go_sem]) | refine Kf ?_ | refine Kg ?_ | (refine Kp (fun _ => ?_) (fun _ => ?_) <;> try (exfalso; omega)) | ((first | refine Kh ?_ | refine Ki rfl ?_); simp only [or_self,Qs,Qt,Qu,Qv,Qw,Qx,Qy,Qz,Za,go_sem]))
  all_goals first | (exfalso; omega) | trace_state
 ·have e : smallG g n = g.cut := by unfold smallG; rw [if_neg h]
  rw [e]
  repeat' (first | refine Kn rfl ?_ | ((first | refine Ka ?_ | refine Kb ?_ | refine Kc ?_ | refine Kd ?_ | refine Ke ?_); simp only [go_sem]) | refine Kf ?_ | refine Kg ?_ | refine ⟨_,cut_gr g,Sh.intro ?_⟩ | refine ⟨_,⟨cut_gr g,rfl⟩,Sh.intro ?_⟩ | (refine Kp (fun _ => ?_) (fun _ => ?_) <;> try (exfalso; omega)) | ((first | refine Kh ?_ | refine Ki rfl ?_); simp only [or_self,Qs,Qt,Qu,Qv,Qw,Qx,Qy,Qz,Za,go_sem]))
  all_goals first | (exfalso; omega) | trace_state
abbrev grs (l : List Gr) : List (List D) := l.map fun g => [.int .i64 g.root,.sl (nds g.l)]
noncomputable def checkE : List Gr -> Int
 | [] => 0
 | g :: l => if chkE g = 0 then checkE l else chkE g
variable {gp : Heap} {ua : Addr}
abbrev uE (a : Addr) : Value := .iface 281 (.pointer (some a))
abbrev iE (a : Addr) : D := .ifc 281 false [.raw (.pointer (some a))]
structure Env9 (gp : Heap) (a : Addr) : Prop where
 e : Env gp
 g : ∃ T fz,gp 1 = some (.cells #[uE a] T fz)
 is1 : Does QP gp 118 [.one (.d (iE a)),.one (.d (.raw (uE a)))] (vb true)
 is0 : Does QP gp 118 [.one (.d .nilI),.one (.d (.raw (uE a)))] (vb false)
def err9 (a : Addr) (b : Bool) : V := .one (.d (if b then .nilI else iE a))
abbrev vwv (g h : Gr) : V := .agg [.d (.int .i64 g.root),.d (.sl (nds g.l)),.d (.int .i64 h.root),.d (.sl (nds h.l))]
def met9 (out : List Pp) : List (V × V) := out.map fun p => (pv p,vb true)
theorem met9_refs (out : List Pp) : (Ch.map (met9 out)).refs = [] := by
 simp only [Ch.refs]
 rw [List.flatMap_eq_nil_iff]
 intro e he
 obtain ⟨a,_,rfl⟩ := List.mem_map.1 he
 rfl
abbrev wp9 (g h : Gr) (v : Nat) : Ch := .cells [.d (.int .i64 g.root),.d (.sl (nds g.l)),.d (.int .i64 h.root),.d (.sl (nds h.l)),.own 0 0,.own 1 v]
end Go.Fw.L07
