/- Chapter 9,plain: pairs. -/
import Derived.Test.YtakgmpkfpkmkaaaGreatDoorEa
import Derived.Test.YtakgmpkfpkmkaaaGreatDoorL07L09Mini
set_option linter.all false
namespace Go.Fw.L07
open Go Go.Fw
set_option maxRecDepth 4000
abbrev Pp := Int × Int
def fitN (x y : Nd) : Bool := decide (x.k = y.k) && (decide (x.x = y.x) && (decide (keysOf x = keysOf y) && decide (x.kids.length = y.kids.length)))
theorem fitN_iff {x y : Nd} : fitN x y = true ↔ x.k = y.k /\ x.x = y.x /\ keysOf x = keysOf y /\ x.kids.length = y.kids.length := by simp [fitN]
def fitP (g h : Gr) (p : Pp) : Bool := fitN (ndAt g.l p.1) (ndAt h.l p.2)
def kdP (g h : Gr) (p : Pp) : List Pp := List.zip (kd g p.1) (kd h p.2)
inductive PW (f : Pp -> Bool) (k : Pp -> List Pp) : List Pp -> List Pp -> List Pp -> Bool -> Prop
 | nil (out : List Pp) : PW f k [] out out true
 | skip {p : Pp} {r out w : List Pp} {b : Bool} : p ∈ out -> PW f k r out w b -> PW f k (p :: r) out w b
 | stop {p : Pp} {r out : List Pp} : p ∉ out -> f p = false -> PW f k (p :: r) out (out ++ [p]) false
 | step {p : Pp} {r out w : List Pp} {b : Bool} : p ∉ out -> f p = true -> PW f k (k p ++ r) (out ++ [p]) w b -> PW f k (p :: r) out w b
section
variable {f : Pp -> Bool} {k : Pp -> List Pp}
theorem PW.det {t o w v : List Pp} {b c : Bool} (h : PW f k t o w b) (h' : PW f k t o v c) : w = v /\ b = c := by
 induction h with
 | nil => cases h'; exact ⟨rfl,rfl⟩
 | skip hm _ ih =>
  cases h' with
  | skip _ h2 => exact ih h2
  | stop hn _ => exact absurd hm hn
  | step hn _ _ => exact absurd hm hn
 | stop hn hf =>
  cases h' with
  | skip hm _ => exact absurd hm hn
  | stop _ _ => exact ⟨rfl,rfl⟩
  | step _ h2 _ => rw [hf] at h2; cases h2
 | step hn hf _ ih =>
  cases h' with
  | skip hm _ => exact absurd hm hn
  | stop _ h2 => rw [hf] at h2; cases h2
  | step _ _ h3 => exact ih h3
theorem PW.nil_inv {o w : List Pp} {b : Bool} (h : PW f k [] o w b) : w = o /\ b = true := by cases h; exact ⟨rfl,rfl⟩
theorem PW.skip_inv {p : Pp} {r o w : List Pp} {b : Bool} (h : PW f k (p :: r) o w b) (hm : p ∈ o) : PW f k r o w b := by
 cases h with
 | skip _ h => exact h
 | stop hn _ => exact absurd hm hn
 | step hn _ _ => exact absurd hm hn
theorem PW.step_inv {p : Pp} {r o w : List Pp} {b : Bool} (h : PW f k (p :: r) o w b) (hm : p ∉ o) (hf : f p = true) : PW f k (k p ++ r) (o ++ [p]) w b := by
 cases h with
 | skip hn _ => exact absurd hn hm
 | stop _ h2 => rw [hf] at h2; cases h2
 | step _ _ h => exact h
theorem PW.pre {t o w : List Pp} {b : Bool} (h : PW f k t o w b) : ∃ r,w = o ++ r := by
 induction h with
 | nil out => exact ⟨[],by simp⟩
 | skip _ _ ih => exact ih
 | stop _ _ => exact ⟨_,rfl⟩
 | step _ _ _ ih =>
  obtain ⟨r,hr⟩ := ih
  exact ⟨_ :: r,by rw [hr,List.append_assoc]; rfl⟩
theorem PW.sub {t o w : List Pp} {b : Bool} (h : PW f k t o w b) {p : Pp} (hp : p ∈ o) : p ∈ w := by
 obtain ⟨r,rfl⟩ := h.pre
 exact List.mem_append_left _ hp
theorem snoc_nodup {o : List Pp} {p : Pp} (ho : o.Nodup) (hn : p ∉ o) : (o ++ [p]).Nodup := by
 refine List.nodup_append.2 ⟨ho,by simp,?_⟩
 intro a ha b hb; simp at hb; subst hb; rintro rfl; exact hn ha
theorem PW.nodup {t o w : List Pp} {b : Bool} (h : PW f k t o w b) (ho : o.Nodup) : w.Nodup := by
 induction h with
 | nil => exact ho
 | skip _ _ ih => exact ih ho
 | stop hn _ => exact snoc_nodup ho hn
 | step hn _ _ ih => exact ih (snoc_nodup ho hn)
theorem PW.all {P : Pp -> Prop} {t o w : List Pp} {b : Bool} (h : PW f k t o w b) (ht : ∀ p ∈ t,P p) (ho : ∀ p ∈ o,P p) (hk : ∀ p,P p -> ∀ q ∈ k p,P q) : ∀ p ∈ w,P p := by
 induction h with
 | nil => exact ho
 | skip _ _ ih => exact ih (fun i hi => ht i (List.mem_cons_of_mem _ hi)) ho
 | stop _ _ =>
  intro q hq
  rcases List.mem_append.1 hq with hq | hq
  ·exact ho q hq
  ·simp only [List.mem_singleton] at hq; subst hq; exact ht _ (by simp)
 | @step p r out w b _ _ _ ih =>
  refine ih (fun j hj => ?_) (fun j hj => ?_)
  ·rcases List.mem_append.1 hj with hj | hj
   ·exact hk p (ht p (by simp)) j hj
   ·exact ht j (List.mem_cons_of_mem _ hj)
  ·rcases List.mem_append.1 hj with hj | hj
   ·exact ho j hj
   ·simp only [List.mem_singleton] at hj; subst hj; exact ht _ (by simp)
theorem PW.todo {t o w : List Pp} {b : Bool} (h : PW f k t o w b) (hb : b = true) : ∀ p ∈ t,p ∈ w := by
 induction h with
 | nil => intro i hi; cases hi
 | skip hm h ih =>
  intro i hi
  rcases List.mem_cons.1 hi with rfl | hi
  ·exact h.sub hm
  ·exact ih hb i hi
 | stop _ _ => cases hb
 | step hn hf h ih =>
  intro i hi
  rcases List.mem_cons.1 hi with rfl | hi
  ·exact h.sub (by simp)
  ·exact ih hb i (List.mem_append_right _ hi)
theorem PW.closed {t o w : List Pp} {b : Bool} (h : PW f k t o w b) (hb : b = true) : ∀ p ∈ w,p ∉ o -> ∀ q ∈ k p,q ∈ w := by
 induction h with
 | nil => intro i hi hn; exact absurd hi hn
 | skip _ _ ih => exact ih hb
 | stop _ _ => cases hb
 | @step p r out w b hn hf h ih =>
  intro x hx hxo j hj
  by_cases e : x = p
  ·subst e; exact h.todo hb j (List.mem_append_left _ hj)
  ·exact ih hb x hx (by simp [hxo,e]) j hj
theorem PW.walks {k' : Int -> List Int} {φ : Pp -> Int} {t o w : List Pp} {b : Bool} (h : PW f k t o w b) (hb : b = true) (hi : ∀ p ∈ w,∀ q ∈ w,φ p = φ q -> p = q) (hk : ∀ p ∈ w,k' (φ p) = (k p).map φ) : Walks k' (t.map φ) (o.map φ) (w.map φ) := by
 induction h with
 | nil => exact .nil _
 | skip hm _ ih => exact .skip (List.mem_map_of_mem hm) (ih hb hi hk)
 | stop _ _ => cases hb
 | @step p r out w b hn hf h ih =>
  have hpw : p ∈ w := h.sub (by simp)
  refine .step ?_ ?_
  ·intro hm
   obtain ⟨q,hq,e⟩ := List.mem_map.1 hm
   have : q = p := hi q (h.sub (List.mem_append_left _ hq)) p hpw e
   subst this
   exact hn hq
  ·have := ih hb hi hk
   rw [hk p hpw]
   simpa using this
theorem pair_range {n : Nat} {l : List Pp} (hn : l.Nodup) (h : ∀ p ∈ l,(0 <= p.1 /\ p.1 < 200) /\ (0 <= p.2 /\ p.2 < 200)) : l.length <= 200000 := by
 have := range_len (n := 200000) (l := l.map fun p => p.1 * 1000 + p.2) (by
  rw [List.Nodup,List.pairwise_map]
  refine List.Pairwise.imp_of_mem ?_ hn
  intro a b ha hb hab e
  have h1 := h a ha
  have h2 := h b hb
  exact hab (Prod.ext (by omega) (by omega))) (by
  intro i hi
  obtain ⟨p,hp,rfl⟩ := List.mem_map.1 hi
  have := h p hp
  omega)
 simpa using this
theorem PW.ex (c : Nat) (hc : ∀ p,(k p).length <= c) (hk : ∀ p,∀ q ∈ k p,(0 <= q.1 /\ q.1 < 200) /\ (0 <= q.2 /\ q.2 < 200)) : ∀ (z : Nat) (t o : List Pp),(200000 - o.length) * (c + 1) + t.length <= z -> o.Nodup -> (∀ p ∈ o,(0 <= p.1 /\ p.1 < 200) /\ (0 <= p.2 /\ p.2 < 200)) -> (∀ p ∈ t,(0 <= p.1 /\ p.1 < 200) /\ (0 <= p.2 /\ p.2 < 200)) -> ∃ w b,PW f k t o w b
 | z,[],o,_,_,_,_ => ⟨o,true,.nil o⟩
 | 0,i :: t,o,hf,_,_,_ => by simp at hf
 | z + 1,i :: t,o,hf,hn,ho,ht => by
  by_cases hm : i ∈ o
  ·obtain ⟨w,b,hw⟩ := PW.ex c hc hk z t o (by simp at hf; omega) hn ho fun j hj => ht j (List.mem_cons_of_mem _ hj)
   exact ⟨w,b,.skip hm hw⟩
  ·cases hfi : f i with
   | false => exact ⟨_,_,.stop hm hfi⟩
   | true =>
    have hn' : (o ++ [i]).Nodup := snoc_nodup hn hm
    have ho' : ∀ p ∈ o ++ [i],(0 <= p.1 /\ p.1 < 200) /\ (0 <= p.2 /\ p.2 < 200) := fun j hj => by
     rcases List.mem_append.1 hj with hj | hj
     ·exact ho j hj
     ·simp only [List.mem_singleton] at hj; subst hj; exact ht _ (by simp)
    have hlen : o.length + 1 <= 200000 := by
     have := pair_range (n := 0) hn' ho'
     simpa using this
    obtain ⟨w,b,hw⟩ := PW.ex c hc hk z (k i ++ t) (o ++ [i]) (by
     have h1 := hc i
     simp only [List.length_append,List.length_cons,List.length_nil] at hf ⊢
     have h2 : 200000 - o.length = (200000 - (o.length + (0 + 1))) + 1 := by omega
     rw [h2,Nat.add_mul] at hf
     omega) hn' ho' fun j hj => by
     rcases List.mem_append.1 hj with hj | hj
     ·exact hk i j hj
     ·exact ht j (List.mem_cons_of_mem _ hj)
    exact ⟨w,b,.step hm hfi hw⟩
end
open Classical in
noncomputable def pairsF (f : Pp -> Bool) (k : Pp -> List Pp) (t : List Pp) : List Pp × Bool := if h : ∃ r : List Pp × Bool,PW f k t [] r.1 r.2 then Classical.choose h else ([],false)
theorem PW.eq {f : Pp -> Bool} {k : Pp -> List Pp} {t w : List Pp} {b : Bool} (h : PW f k t [] w b) : pairsF f k t = (w,b) := by
 unfold pairsF
 have hx : ∃ r : List Pp × Bool,PW f k t [] r.1 r.2 := ⟨(w,b),h⟩
 rw [dif_pos hx]
 have := (Classical.choose_spec hx).det h
 exact Prod.ext this.1 this.2
noncomputable def pairsG (g h : Gr) : List Pp × Bool := pairsF (fitP g h) (kdP g h) [(g.root,h.root)]
theorem pz_at {A B : List Int} {q : Pp} (h : q ∈ List.zip A B) : ∃ i : Nat,A[i]? = some q.1 /\ B[i]? = some q.2 := by
 obtain ⟨i,hi⟩ := List.mem_iff_getElem?.1 h
 exact ⟨i,List.getElem?_zip_eq_some.1 hi⟩
theorem at_pz {A B : List Int} {i : Nat} {a b : Int} (h : A[i]? = some a) (h' : B[i]? = some b) : (a,b) ∈ List.zip A B :=
 List.mem_of_getElem? (List.getElem?_zip_eq_some.2 ⟨h,h'⟩)
noncomputable def alikeG (g h : Gr) : Bool := (pairsG g h).2 && (decide (((pairsG g h).1.map Prod.fst).Nodup) && decide (((pairsG g h).1.map Prod.snd).Nodup))
structure Iso (g h : Gr) (R : Int -> Int -> Prop) : Prop where
 root : R g.root h.root
 fit : ∀ a b,R a b -> fitP g h (a,b) = true
 kid : ∀ a b,R a b -> ∀ q ∈ kdP g h (a,b),R q.1 q.2
 one : ∀ a b c,R a b -> R a c -> b = c
 inj : ∀ a b c,R a c -> R b c -> a = b
theorem kd_zero {g : Gr} {a : Int} (h : ¬ (0 <= a /\ a < g.l.length)) : kd g a = [] := by
 rw [kd,node_off h]; simp [kidsOf,pairsOf,Nd.zero]
theorem kd_full {g : Gr} (hg : Good g) (a : Int) : (kd g a).length = (ndAt g.l a).kids.length := by
 by_cases h : 0 <= a /\ a < g.l.length
 ·exact (kids_ok (hg.node h)).len
 ·rw [kd_zero h,node_off h]; rfl
theorem fit_kd {g h : Gr} (hg : Good g) (hh : Good h) {p : Pp} (hf : fitP g h p = true) : (kd g p.1).length = (kd h p.2).length := by
 rw [kd_full hg,kd_full hh]
 exact (fitN_iff.1 hf).2.2.2
theorem Iso.trans {g h k : Gr} (hg : Good g) (hh : Good h) {R S : Int -> Int -> Prop} (H : Iso g h R) (K : Iso h k S) : Iso g k fun a c => ∃ b,R a b /\ S b c where
 root := ⟨_,H.root,K.root⟩
 fit := by
  rintro a c ⟨b,e,e'⟩
  obtain ⟨h1,h2,h3,h4⟩ := fitN_iff.1 (H.fit a b e)
  obtain ⟨k1,k2,k3,k4⟩ := fitN_iff.1 (K.fit b c e')
  exact fitN_iff.2 ⟨h1.trans k1,h2.trans k2,h3.trans k3,h4.trans k4⟩
 kid := by
  rintro a c ⟨b,e,e'⟩ q hq
  obtain ⟨i,h1,h2⟩ := pz_at hq
  have hl := fit_kd hg hh (H.fit a b e)
  have hi := (List.getElem?_eq_some_iff.1 h1).1
  obtain ⟨m,hm⟩ := at_lt (l := kd h b) (i := i) (by rw [<- hl]; exact hi)
  exact ⟨m,H.kid a b e _ (at_pz h1 hm),K.kid b c e' _ (at_pz hm h2)⟩
 one := by
  rintro a c d ⟨b,e,e'⟩ ⟨b',f,f'⟩
  obtain rfl := H.one _ _ _ e f
  exact K.one _ _ _ e' f'
 inj := by
  rintro a a' c ⟨b,e,e'⟩ ⟨b',f,f'⟩
  obtain rfl := K.inj _ _ _ e' f'
  exact H.inj _ _ _ e f
theorem Iso.sub {g h : Gr} {R : Int -> Int -> Prop} (H : Iso g h R) {a b : Int} (e : R a b) : Iso ⟨a,g.l⟩ ⟨b,h.l⟩ R := ⟨e,H.fit,H.kid,H.one,H.inj⟩
variable {gp : Heap}
def cmp6 (x y : Sc) : Int := if x.k < y.k then -1 else if y.k < x.k then 1 else if x.n < y.n then -1 else if y.n < x.n then 1 else if Op.bytesLess x.s.toList y.s.toList then -1 else if !(Op.bytesLess x.s.toList y.s.toList || decide (x.s = y.s)) then 1 else 0
def kyO (x : Nd) (k : Int) : Sc := (x.keys[k.toNat]?).getD ⟨0,0,⟨#[]⟩⟩
def posO (f : Int -> Bool) (out : List Int) : Nat := (out.takeWhile fun k => !f k).length
def ltO (x : Nd) (i : Nat) (k : Int) : Bool := decide (cmp6 (kyO x i) (kyO x k) < 0)
def ordN (x : Nd) : Nat -> List Int
 | 0 => []
 | i + 1 => (ordN x i).take (posO (ltO x i) (ordN x i)) ++ (i : Int) :: (ordN x i).drop (posO (ltO x i) (ordN x i))
def nxtO (out : List Int) (p : Nat) (i : Int) (j : Nat) : List Int := if p < j then out.take p ++ i :: (out.take j).drop p else out.take j
end Go.Fw.L07
