/- Chapter 9,plain: pairs. -/
import Derived.Test.YtejnfjophhnaeaaGreatDoorEa
import Derived.Test.YtejnfjophhnaeaaGreatDoorL07L09Mini
set_option linter.all false
namespace Go.Fw.L07
open Go Go.Fw
open Go.Fw.Sh renaming intro -> Kg
open Go.Fw renaming Xii -> Ka,Xej -> Ka,Xek -> Ka,Xeh -> Kb,Xio -> Kc,Xip -> Kd,Xei -> Ke,Xel -> Kf,Xik -> Kh,Xij -> Ki,Xfl -> Kj,Xgl -> Kk,Xdv -> Kl,Xfk -> Km,Gx -> Kn
open And renaming intro -> Kp
open Go.Fw.V.one renaming injEq -> Qs
open Go.Fw.V.agg renaming injEq -> Qt
open Go.Fw.V.tup renaming injEq -> Qu
open Go.Fw.A.d renaming injEq -> Qv
open Go.Fw.D.bool renaming injEq -> Qw
open Go.Fw.D.int renaming injEq -> Qx
open Go.Fw.D.str renaming injEq -> Qy
open Go.Fw.D.sl renaming injEq -> Qz
open List.cons renaming injEq -> Za
set_option maxRecDepth 4000
abbrev Pp := Int × Int
def fitN (x y : Nd) : Bool := decide (x.k = y.k) && (decide (x.x = y.x) && (decide (Xah x = Xah y) && decide (x.kids.length = y.kids.length)))
theorem Xbl {x y : Nd} : fitN x y = true ↔ x.k = y.k /\ x.x = y.x /\ Xah x = Xah y /\ x.kids.length = y.kids.length := by simp [fitN]
def fitP (g h : Gr) (p : Pp) : Bool := fitN (ndAt g.l p.1) (ndAt h.l p.2)
def kdP (g h : Gr) (p : Pp) : List Pp := List.zip (kd g p.1) (kd h p.2)
inductive PW (f : Pp -> Bool) (k : Pp -> List Pp) : List Pp -> List Pp -> List Pp -> Bool -> Prop
 | nil (out : List Pp) : PW f k [] out out true
 | skip {p : Pp} {r out w : List Pp} {b : Bool} : p ∈ out -> PW f k r out w b -> PW f k (p :: r) out w b
 | stop {p : Pp} {r out : List Pp} : p ∉ out -> f p = false -> PW f k (p :: r) out (out ++ [p]) false
 | step {p : Pp} {r out w : List Pp} {b : Bool} : p ∉ out -> f p = true -> PW f k (k p ++ r) (out ++ [p]) w b -> PW f k (p :: r) out w b
section
variable {f : Pp -> Bool} {k : Pp -> List Pp}
theorem PW.det {t o w v : List Pp} {b c : Bool} (h : PW f k t o w b) (h' : PW f k t o v c) : w = v /\ b = c := by
 induction h with
 | nil => cases h'; exact ⟨rfl,rfl⟩
 | skip hm _ ih =>
  cases h' with
  | skip _ h2 => exact ih h2
  | stop hn _ => exact absurd hm hn
  | step hn _ _ => exact absurd hm hn
 | stop hn hf =>
  cases h' with
  | skip hm _ => exact absurd hm hn
  | stop _ _ => exact ⟨rfl,rfl⟩
  | step _ h2 _ => rw [hf] at h2; cases h2
 | step hn hf _ ih =>
  cases h' with
  | skip hm _ => exact absurd hm hn
  | stop _ h2 => rw [hf] at h2; cases h2
  | step _ _ h3 => exact ih h3
theorem PW.nil_inv {o w : List Pp} {b : Bool} (h : PW f k [] o w b) : w = o /\ b = true := by cases h; exact ⟨rfl,rfl⟩
theorem PW.skip_inv {p : Pp} {r o w : List Pp} {b : Bool} (h : PW f k (p :: r) o w b) (hm : p ∈ o) : PW f k r o w b := by
 cases h with
 | skip _ h => exact h
 | stop hn _ => exact absurd hm hn
 | step hn _ _ => exact absurd hm hn
theorem PW.stop_inv {p : Pp} {r o w : List Pp} {b : Bool} (h : PW f k (p :: r) o w b) (hm : p ∉ o) (hf : f p = false) : w = o ++ [p] /\ b = false := by
 cases h with
 | skip hn _ => exact absurd hn hm
 | stop _ _ => exact ⟨rfl,rfl⟩
 | step _ h2 _ => rw [hf] at h2; cases h2
theorem PW.step_inv {p : Pp} {r o w : List Pp} {b : Bool} (h : PW f k (p :: r) o w b) (hm : p ∉ o) (hf : f p = true) : PW f k (k p ++ r) (o ++ [p]) w b := by
 cases h with
 | skip hn _ => exact absurd hn hm
 | stop _ h2 => rw [hf] at h2; cases h2
 | step _ _ h => exact h
theorem PW.pre {t o w : List Pp} {b : Bool} (h : PW f k t o w b) : ∃ r,w = o ++ r := by
 induction h with
 | nil out => exact ⟨[],by simp⟩
 | skip _ _ ih => exact ih
 | stop _ _ => exact ⟨_,rfl⟩
 | step _ _ _ ih =>
  obtain ⟨r,hr⟩ := ih
  exact ⟨_ :: r,by rw [hr,List.append_assoc]; rfl⟩
theorem PW.sub {t o w : List Pp} {b : Bool} (h : PW f k t o w b) {p : Pp} (hp : p ∈ o) : p ∈ w := by
 obtain ⟨r,rfl⟩ := h.pre
 exact List.mem_append_left _ hp
theorem Xf7 {o : List Pp} {p : Pp} (ho : o.Nodup) (hn : p ∉ o) : (o ++ [p]).Nodup := by
 refine List.nodup_append.2 ⟨ho,by simp,?_⟩
 intro a ha b hb; simp at hb; subst hb; rintro rfl; exact hn ha
theorem PW.nodup {t o w : List Pp} {b : Bool} (h : PW f k t o w b) (ho : o.Nodup) : w.Nodup := by
 induction h with
 | nil => exact ho
 | skip _ _ ih => exact ih ho
 | stop hn _ => exact Xf7 ho hn
 | step hn _ _ ih => exact ih (Xf7 ho hn)
theorem PW.all {P : Pp -> Prop} {t o w : List Pp} {b : Bool} (h : PW f k t o w b) (ht : ∀ p ∈ t,P p) (ho : ∀ p ∈ o,P p) (hk : ∀ p,P p -> ∀ q ∈ k p,P q) : ∀ p ∈ w,P p := by
 induction h with
 | nil => exact ho
 | skip _ _ ih => exact ih (fun i hi => ht i (List.mem_cons_of_mem _ hi)) ho
 | stop _ _ =>
  intro q hq
  rcases List.mem_append.1 hq with hq | hq
  ·exact ho q hq
  ·simp only [List.mem_singleton] at hq; subst hq; exact ht _ (by simp)
 | @step p r out w b _ _ _ ih =>
  refine ih (fun j hj => ?_) (fun j hj => ?_)
  ·rcases List.mem_append.1 hj with hj | hj
   ·exact hk p (ht p (by simp)) j hj
   ·exact ht j (List.mem_cons_of_mem _ hj)
  ·rcases List.mem_append.1 hj with hj | hj
   ·exact ho j hj
   ·simp only [List.mem_singleton] at hj; subst hj; exact ht _ (by simp)
theorem PW.fits {t o w : List Pp} {b : Bool} (h : PW f k t o w b) (ho : ∀ p ∈ o,f p = true) : (b = true /\ ∀ p ∈ w,f p = true) \/ (b = false /\ ∃ v p,w = v ++ [p] /\ f p = false /\ ∀ q ∈ v,f q = true) := by
 induction h with
 | nil => exact .inl ⟨rfl,ho⟩
 | skip _ _ ih => exact ih ho
 | @stop p r out hn hf => exact .inr ⟨rfl,out,p,rfl,hf,ho⟩
 | @step p r out w b hn hf _ ih =>
  refine ih fun q hq => ?_
  rcases List.mem_append.1 hq with hq | hq
  ·exact ho q hq
  ·simp only [List.mem_singleton] at hq; subst hq; exact hf
theorem PW.todo {t o w : List Pp} {b : Bool} (h : PW f k t o w b) (hb : b = true) : ∀ p ∈ t,p ∈ w := by
 induction h with
 | nil => intro i hi; cases hi
 | skip hm h ih =>
  intro i hi
  rcases List.mem_cons.1 hi with rfl | hi
  ·exact h.sub hm
  ·exact ih hb i hi
 | stop _ _ => cases hb
 | step hn hf h ih =>
  intro i hi
  rcases List.mem_cons.1 hi with rfl | hi
  ·exact h.sub (by simp)
  ·exact ih hb i (List.mem_append_right _ hi)
theorem PW.closed {t o w : List Pp} {b : Bool} (h : PW f k t o w b) (hb : b = true) : ∀ p ∈ w,p ∉ o -> ∀ q ∈ k p,q ∈ w := by
 induction h with
 | nil => intro i hi hn; exact absurd hi hn
 | skip _ _ ih => exact ih hb
 | stop _ _ => cases hb
 | @step p r out w b hn hf h ih =>
  intro x hx hxo j hj
  by_cases e : x = p
  ·subst e; exact h.todo hb j (List.mem_append_left _ hj)
  ·exact ih hb x hx (by simp [hxo,e]) j hj
theorem PW.walks {k' : Int -> List Int} {φ : Pp -> Int} {t o w : List Pp} {b : Bool} (h : PW f k t o w b) (hb : b = true) (hi : ∀ p ∈ w,∀ q ∈ w,φ p = φ q -> p = q) (hk : ∀ p ∈ w,k' (φ p) = (k p).map φ) : Walks k' (t.map φ) (o.map φ) (w.map φ) := by
 induction h with
 | nil => exact .nil _
 | skip hm _ ih => exact .skip (List.mem_map_of_mem hm) (ih hb hi hk)
 | stop _ _ => cases hb
 | @step p r out w b hn hf h ih =>
  have hpw : p ∈ w := h.sub (by simp)
  refine .step ?_ ?_
  ·intro hm
   obtain ⟨q,hq,e⟩ := List.mem_map.1 hm
   have : q = p := hi q (h.sub (List.mem_append_left _ hq)) p hpw e
   subst this
   exact hn hq
  ·have := ih hb hi hk
   rw [hk p hpw]
   simpa using this
theorem Xf8 {n : Nat} {l : List Pp} (hn : l.Nodup) (h : ∀ p ∈ l,(0 <= p.1 /\ p.1 < 200) /\ (0 <= p.2 /\ p.2 < 200)) : l.length <= 200000 := by
 have := Xdg (n := 200000) (l := l.map fun p => p.1 * 1000 + p.2) (by
  rw [List.Nodup,List.pairwise_map]
  refine List.Pairwise.imp_of_mem ?_ hn
  intro a b ha hb hab e
  have h1 := h a ha
  have h2 := h b hb
  exact hab (Prod.ext (by omega) (by omega))) (by
  intro i hi
  obtain ⟨p,hp,rfl⟩ := List.mem_map.1 hi
  have := h p hp
  omega)
 simpa using this
theorem PW.ex (c : Nat) (hc : ∀ p,(k p).length <= c) (hk : ∀ p,∀ q ∈ k p,(0 <= q.1 /\ q.1 < 200) /\ (0 <= q.2 /\ q.2 < 200)) : ∀ (z : Nat) (t o : List Pp),(200000 - o.length) * (c + 1) + t.length <= z -> o.Nodup -> (∀ p ∈ o,(0 <= p.1 /\ p.1 < 200) /\ (0 <= p.2 /\ p.2 < 200)) -> (∀ p ∈ t,(0 <= p.1 /\ p.1 < 200) /\ (0 <= p.2 /\ p.2 < 200)) -> ∃ w b,PW f k t o w b
 | z,[],o,_,_,_,_ => ⟨o,true,.nil o⟩
 | 0,i :: t,o,hf,_,_,_ => by simp at hf
 | z + 1,i :: t,o,hf,hn,ho,ht => by
  by_cases hm : i ∈ o
  ·obtain ⟨w,b,hw⟩ := PW.ex c hc hk z t o (by simp at hf; omega) hn ho fun j hj => ht j (List.mem_cons_of_mem _ hj)
   exact ⟨w,b,.skip hm hw⟩
  ·cases hfi : f i with
   | false => exact ⟨_,_,.stop hm hfi⟩
   | true =>
    have hn' : (o ++ [i]).Nodup := Xf7 hn hm
    have ho' : ∀ p ∈ o ++ [i],(0 <= p.1 /\ p.1 < 200) /\ (0 <= p.2 /\ p.2 < 200) := fun j hj => by
     rcases List.mem_append.1 hj with hj | hj
     ·exact ho j hj
     ·simp only [List.mem_singleton] at hj; subst hj; exact ht _ (by simp)
    have hlen : o.length + 1 <= 200000 := by
     have := Xf8 (n := 0) hn' ho'
     simpa using this
    obtain ⟨w,b,hw⟩ := PW.ex c hc hk z (k i ++ t) (o ++ [i]) (by
     have h1 := hc i
     simp only [List.length_append,List.length_cons,List.length_nil] at hf ⊢
     have h2 : 200000 - o.length = (200000 - (o.length + (0 + 1))) + 1 := by omega
     rw [h2,Nat.add_mul] at hf
     omega) hn' ho' fun j hj => by
     rcases List.mem_append.1 hj with hj | hj
     ·exact hk i j hj
     ·exact ht j (List.mem_cons_of_mem _ hj)
    exact ⟨w,b,.step hm hfi hw⟩
end
open Classical in
noncomputable def X8t (f : Pp -> Bool) (k : Pp -> List Pp) (t : List Pp) : List Pp × Bool := if h : ∃ r : List Pp × Bool,PW f k t [] r.1 r.2 then Classical.choose h else ([],false)
theorem PW.eq {f : Pp -> Bool} {k : Pp -> List Pp} {t w : List Pp} {b : Bool} (h : PW f k t [] w b) : X8t f k t = (w,b) := by
 unfold X8t
 have hx : ∃ r : List Pp × Bool,PW f k t [] r.1 r.2 := ⟨(w,b),h⟩
 rw [dif_pos hx]
 have := (Classical.choose_spec hx).det h
 exact Prod.ext this.1 this.2
noncomputable def Xb9 (g h : Gr) : List Pp × Bool := X8t (fitP g h) (kdP g h) [(g.root,h.root)]
theorem Yhu {A B : List Int} {q : Pp} (h : q ∈ List.zip A B) : ∃ i : Nat,A[i]? = some q.1 /\ B[i]? = some q.2 := by
 obtain ⟨i,hi⟩ := List.mem_iff_getElem?.1 h
 exact ⟨i,List.getElem?_zip_eq_some.1 hi⟩
theorem Yhv {A B : List Int} {i : Nat} {a b : Int} (h : A[i]? = some a) (h' : B[i]? = some b) : (a,b) ∈ List.zip A B :=
 List.mem_of_getElem? (List.getElem?_zip_eq_some.2 ⟨h,h'⟩)
theorem X8u {g h : Gr} (hg : Good g) (hh : Good h) (p : Pp) : ∀ q ∈ kdP g h p,(0 <= q.1 /\ q.1 < 200) /\ (0 <= q.2 /\ q.2 < 200) := by
 intro q hq
 obtain ⟨i,h1,h2⟩ := Yhu hq
 have h3 := hg.kid _ _ (List.mem_of_getElem? h1)
 have h4 := hh.kid _ _ (List.mem_of_getElem? h2)
 have h5 := hg.len
 have h6 := hh.len
 omega
theorem Ymn {g h : Gr} (hg : Good g) (hh : Good h) (p : Pp) : ∀ q ∈ kdP g h p,(0 <= q.1 /\ q.1 < g.l.length) /\ (0 <= q.2 /\ q.2 < h.l.length) := by
 intro q hq
 obtain ⟨i,h1,h2⟩ := Yhu hq
 exact ⟨hg.kid _ _ (List.mem_of_getElem? h1),hh.kid _ _ (List.mem_of_getElem? h2)⟩
theorem X8v {g h : Gr} (hg : Good g) (p : Pp) : (kdP g h p).length <= 12 := by
 have := Xpm hg.s p.1
 simp only [kdP,List.length_zip]; omega
theorem Xh0 {g h : Gr} (hg : Good g) (hh : Good h) : PW (fitP g h) (kdP g h) [(g.root,h.root)] [] (Xb9 g h).1 (Xb9 g h).2 := by
 have h1 := hg.root
 have h2 := hh.root
 have h3 := hg.len
 have h4 := hh.len
 obtain ⟨w,b,hw⟩ := PW.ex (f := fitP g h) 12 (X8v hg) (X8u hg hh) _ [(g.root,h.root)] [] (Nat.le_refl _) (by simp) (by simp) (by simp; omega)
 have := hw.eq
 unfold Xb9
 rw [this]
 exact hw
noncomputable def Xmi (g h : Gr) : Bool := (Xb9 g h).2 && (decide (((Xb9 g h).1.map Prod.fst).Nodup) && decide (((Xb9 g h).1.map Prod.snd).Nodup))
structure Iso (g h : Gr) (R : Int -> Int -> Prop) : Prop where
 root : R g.root h.root
 fit : ∀ a b,R a b -> fitP g h (a,b) = true
 kid : ∀ a b,R a b -> ∀ q ∈ kdP g h (a,b),R q.1 q.2
 one : ∀ a b c,R a b -> R a c -> b = c
 inj : ∀ a b c,R a c -> R b c -> a = b
theorem Xpr {α : Type} {φ : Pp -> α} {l : List Pp} (h : (l.map φ).Nodup) : ∀ p ∈ l,∀ q ∈ l,φ p = φ q -> p = q := by
 rw [List.Nodup,List.pairwise_map] at h
 intro p hp q hq e
 obtain ⟨i,hi⟩ := List.mem_iff_getElem?.1 hp
 obtain ⟨j,hj⟩ := List.mem_iff_getElem?.1 hq
 obtain ⟨hi1,hi2⟩ := List.getElem?_eq_some_iff.1 hi
 obtain ⟨hj1,hj2⟩ := List.getElem?_eq_some_iff.1 hj
 rw [List.pairwise_iff_getElem] at h
 rcases Nat.lt_trichotomy i j with hij | hij | hij
 ·exact absurd (by rw [hi2,hj2]; exact e) (h i j hi1 hj1 hij)
 ·subst hij; rw [<- hi2,<- hj2]
 ·exact absurd (by rw [hi2,hj2]; exact e.symm) (h j i hj1 hi1 hij)
theorem X8w {α : Type} {φ : Pp -> α} {l : List Pp} (hn : l.Nodup) (h : ∀ p ∈ l,∀ q ∈ l,φ p = φ q -> p = q) : (l.map φ).Nodup := by
 rw [List.Nodup,List.pairwise_map]
 exact List.Pairwise.imp_of_mem (fun {a b} ha hb hab e => hab (h a ha b hb e)) hn
theorem Xps {g h : Gr} : Xmi g h = true ↔ (Xb9 g h).2 = true /\ ((Xb9 g h).1.map Prod.fst).Nodup /\ ((Xb9 g h).1.map Prod.snd).Nodup := by
 unfold Xmi; simp
theorem Wcj {g h : Gr} (hg : Good g) (hh : Good h) (ha : Xmi g h = true) : Iso g h fun a b => (a,b) ∈ (Xb9 g h).1 := by
 obtain ⟨hb,h1,h2⟩ := Xps.1 ha
 have hw := Xh0 hg hh
 generalize (Xb9 g h).1 = w at *
 refine ⟨hw.todo hb _ (by simp),fun a b hm => ?_,fun a b hm q hq => ?_,fun a b c hm hm' => ?_,fun a b c hm hm' => ?_⟩
 ·rcases hw.fits (by simp) with ⟨_,h3⟩ | ⟨h3,_⟩
  ·exact h3 _ hm
  ·rw [hb] at h3; cases h3
 ·exact hw.closed hb _ hm (by simp) q hq
 ·have := Xpr h1 _ hm _ hm' rfl
  exact (Prod.mk.inj this).2
 ·have := Xpr h2 _ hm _ hm' rfl
  exact (Prod.mk.inj this).1
theorem Y1s {g : Gr} {a : Int} (h : ¬ (0 <= a /\ a < g.l.length)) : kd g a = [] := by
 rw [kd,Xhx h]; simp [Xaf,Xab,Nd.zero]
theorem Xk9 {g : Gr} (hg : Good g) (a : Int) : (kd g a).length = (ndAt g.l a).kids.length := by
 by_cases h : 0 <= a /\ a < g.l.length
 ·exact (Xit (hg.node h)).len
 ·rw [Y1s h,Xhx h]; rfl
theorem Xv6 {g h : Gr} (hg : Good g) (hh : Good h) {p : Pp} (hf : fitP g h p = true) : (kd g p.1).length = (kd h p.2).length := by
 rw [Xk9 hg,Xk9 hh]
 exact (Xbl.1 hf).2.2.2
theorem Iso.trans {g h k : Gr} (hg : Good g) (hh : Good h) {R S : Int -> Int -> Prop} (H : Iso g h R) (K : Iso h k S) : Iso g k fun a c => ∃ b,R a b /\ S b c where
 root := ⟨_,H.root,K.root⟩
 fit := by
  rintro a c ⟨b,e,e'⟩
  obtain ⟨h1,h2,h3,h4⟩ := Xbl.1 (H.fit a b e)
  obtain ⟨k1,k2,k3,k4⟩ := Xbl.1 (K.fit b c e')
  exact Xbl.2 ⟨h1.trans k1,h2.trans k2,h3.trans k3,h4.trans k4⟩
 kid := by
  rintro a c ⟨b,e,e'⟩ q hq
  obtain ⟨i,h1,h2⟩ := Yhu hq
  have hl := Xv6 hg hh (H.fit a b e)
  have hi := (List.getElem?_eq_some_iff.1 h1).1
  obtain ⟨m,hm⟩ := Xak (l := kd h b) (i := i) (by rw [<- hl]; exact hi)
  exact ⟨m,H.kid a b e _ (Yhv h1 hm),K.kid b c e' _ (Yhv hm h2)⟩
 one := by
  rintro a c d ⟨b,e,e'⟩ ⟨b',f,f'⟩
  obtain rfl := H.one _ _ _ e f
  exact K.one _ _ _ e' f'
 inj := by
  rintro a a' c ⟨b,e,e'⟩ ⟨b',f,f'⟩
  obtain rfl := K.inj _ _ _ e' f'
  exact H.inj _ _ _ e f
theorem Xv7 {g : Gr} (hg : Good g) : Iso g (Xdn g) fun a b => a ∈ Xb3 g /\ b = ((Xb3 g).idxOf a : Int) where
 root := by
  refine ⟨hg.wroot,?_⟩
  obtain ⟨r,hr⟩ := hg.whead
  rw [hr]; simp [Xdn]
 fit := by
  rintro a b ⟨ha,rfl⟩
  have h1 := Xvs (g := g) (Xnl ha)
  have hn := hg.node (hg.wIn a ha)
  show fitN (ndAt g.l a) (ndAt (Xdn g).l ((Xb3 g).idxOf a : Int)) = true
  rw [h1]
  refine Xbl.2 ⟨rfl,rfl,(Xpn hn _).2.symm,?_⟩
  have := Xk9 hg a
  simp only [Xbm,List.length_map]
  exact this.symm
 kid := by
  rintro a b ⟨ha,rfl⟩ q hq
  obtain ⟨i,h1,h2⟩ := Yhu hq
  dsimp only at h1 h2
  rw [Yzz hg ha,List.getElem?_map,h1] at h2
  refine ⟨hg.wclosed a ha _ (List.mem_of_getElem? h1),?_⟩
  exact (Option.some.inj h2).symm
 one := by rintro a b c ⟨_,rfl⟩ ⟨_,rfl⟩; rfl
 inj := by
  rintro a b c ⟨ha,rfl⟩ ⟨hb,e⟩
  exact Yzw ha hb (by exact Int.ofNat.inj e)
theorem Iso.sub {g h : Gr} {R : Int -> Int -> Prop} (H : Iso g h R) {a b : Int} (e : R a b) : Iso ⟨a,g.l⟩ ⟨b,h.l⟩ R := ⟨e,H.fit,H.kid,H.one,H.inj⟩
theorem Iso.path {g h : Gr} (hg : Good g) (hh : Good h) {R : Int -> Int -> Prop} (H : Iso g h R) : ∀ {ps : List Int} {a b : Int},R a b -> (∃ c d,atF (kd g) ps a = some c /\ atF (kd h) ps b = some d /\ R c d) \/ (atF (kd g) ps a = none /\ atF (kd h) ps b = none)
 | [],a,b,e => .inl ⟨a,b,rfl,rfl,e⟩
 | p :: ps,a,b,e => by
  simp only [atF]
  split
  ·have hl := Xv6 hg hh (H.fit a b e)
   dsimp only at hl
   by_cases hp : p.toNat < (kd g a).length
   ·obtain ⟨c,hc⟩ := Xak hp
    obtain ⟨d,hd⟩ := Xak (l := kd h b) (i := p.toNat) (by omega)
    rw [hc,hd]
    exact H.path hg hh (H.kid a b e _ (Yhv hc hd))
   ·rw [List.getElem?_eq_none (by omega),List.getElem?_eq_none (by omega)]
    exact .inr ⟨rfl,rfl⟩
  ·exact .inr ⟨rfl,rfl⟩
variable {gp : Heap}
def cmp6 (x y : Sc) : Int := if x.k < y.k then -1 else if y.k < x.k then 1 else if x.n < y.n then -1 else if y.n < x.n then 1 else if Op.bytesLess x.s.toList y.s.toList then -1 else if !(Op.bytesLess x.s.toList y.s.toList || decide (x.s = y.s)) then 1 else 0
def kyO (x : Nd) (k : Int) : Sc := (x.keys[k.toNat]?).getD ⟨0,0,⟨#[]⟩⟩
def posO (f : Int -> Bool) (out : List Int) : Nat := (out.takeWhile fun k => !f k).length
def ltO (x : Nd) (i : Nat) (k : Int) : Bool := decide (cmp6 (kyO x i) (kyO x k) < 0)
def ordN (x : Nd) : Nat -> List Int
 | 0 => []
 | i + 1 => (ordN x i).take (posO (ltO x i) (ordN x i)) ++ (i : Int) :: (ordN x i).drop (posO (ltO x i) (ordN x i))
def nxtO (out : List Int) (p : Nat) (i : Int) (j : Nat) : List Int := if p < j then out.take p ++ i :: (out.take j).drop p else out.take j
open Go.Proofs.Tryz renaming prog -> QP
abbrev pds (p : Pp) : List D := [.int .i64 p.1,.int .i64 p.2]
abbrev pas (p : Pp) : List A := [.d (.int .i64 p.1),.d (.int .i64 p.2)]
abbrev pv (p : Pp) : V := .agg (pas p)
abbrev pps (l : List Pp) : List (List D) := l.map pds
theorem Wg6 (p q : Pp) : (p.1 == q.1 && p.2 == q.2) = decide (p = q) := by
 rw [Bool.eq_iff_iff]; simp [Prod.ext_iff]
def Xe5 (g : Gr) (n : Int) : Gr := if g.l.length > n then ⟨-1,[]⟩ else g.cut
theorem X8x (g : Gr) (n : Int) : Does QP gp 13 [g.v,vi n] (Xe5 g n).v := by
 refine Wbi ?_
 simp only [go_sem]
 by_cases h : (g.l.length : Int) > n
 ·have e : Xe5 g n = ⟨-1,[]⟩ := by unfold Xe5; rw [if_pos h]
  rw [e]
  repeat' (first | refine Kn rfl ?_ | ((first | refine Ka ?_ | refine Kb ?_ | refine Kc ?_ | refine Kd ?_ | refine Ke ?_); simp only [go_sem]) | refine Kf ?_ | refine Kg ?_ | (refine Kp (fun _ => ?_) (fun _ => ?_) <;> try (exfalso; omega)) | ((first | refine Kh ?_ | refine Ki rfl ?_); simp only [or_self,Qs,Qt,Qu,Qv,Qw,Qx,Qy,Qz,Za,go_sem]))
  all_goals first | (exfalso; omega) | trace_state
 ·have e : Xe5 g n = g.cut := by unfold Xe5; rw [if_neg h]
  rw [e]
  repeat' (first | refine Kn rfl ?_ | ((first | refine Ka ?_ | refine Kb ?_ | refine Kc ?_ | refine Kd ?_ | refine Ke ?_); simp only [go_sem]) | refine Kf ?_ | refine Kg ?_ | refine ⟨_,Yk2 g,Sh.intro ?_⟩ | refine ⟨_,⟨Yk2 g,rfl⟩,Sh.intro ?_⟩ | (refine Kp (fun _ => ?_) (fun _ => ?_) <;> try (exfalso; omega)) | ((first | refine Kh ?_ | refine Ki rfl ?_); simp only [or_self,Qs,Qt,Qu,Qv,Qw,Qx,Qy,Qz,Za,go_sem]))
  all_goals first | (exfalso; omega) | trace_state
abbrev grs (l : List Gr) : List (List D) := l.map fun g => [.int .i64 g.root,.sl (nds g.l)]
noncomputable def Xdz : List Gr -> Int
 | [] => 0
 | g :: l => if chkE g = 0 then Xdz l else chkE g
theorem Ymo (h : Env gp) (l : List Gr) (hl : l.length <= 100) : Does QP gp 92 [.one (.d (.sl (grs l)))] (vi (Xdz l)) := by
 refine Wb9 ?_
 simp only [go_sem]
 repeat' (first | refine Kn rfl ?_ | ((first | refine Ka ?_ | refine Kb ?_ | refine Kc ?_ | refine Kd ?_ | refine Ke ?_); simp only [go_sem]) | refine Kf ?_ | refine Kg ?_ | refine Kp (fun _ => ?_) (fun _ => ?_) | ((first | refine Kh ?_ | refine Ki rfl ?_); simp only [or_self,Qs,Qt,Qu,Qv,Qw,Qx,Qy,Qz,Za,go_sem]))
 refine Kj (fr 22 [(7,.one (.d (.sl (grs l)))),(8,vi l.length),(9,vi (0 : Nat))]) (by (simp only [go_sem]; repeat' (first | refine Kp ?_ ?_ | exact Or.inl rfl | exact Or.inr rfl | rfl))) ?_
 refine Km (fun mz sz => ∃ i : Nat,i <= l.length /\ mz = l.length - i /\ (Xdz l = Xdz (l.drop i)) /\ sz = ⟨fr 22 [(7,.one (.d (.sl (grs l)))),(8,vi l.length),(9,vi i)],[]⟩) (l.length) ⟨0,Nat.zero_le _,(Nat.sub_zero _).symm,?_,rfl⟩ ?_
 ·rfl
 rintro _ _ ⟨i,hi,rfl,hz,rfl⟩
 simp only [go_sem]
 by_cases hil : i < l.length
 ·obtain ⟨g,hg⟩ := Xak hil
  have c1 : Does QP gp 36 [g.v] (.tup [vi ((chk g).getD (0,0)).1,vi (chkE g)]) := Xmf h g
  have hd : l.drop i = g :: l.drop (i + 1) := by
   obtain ⟨h1,h2⟩ := List.getElem?_eq_some_iff.1 hg
   rw [List.drop_eq_getElem_cons h1,h2]
  rw [hd] at hz
  simp only [Xdz] at hz
  by_cases he : chkE g = 0
  ·rw [if_pos he] at hz
   rw [he] at c1
   repeat' (first | refine Kn rfl ?_ | ((first | refine Ka ?_ | refine Kb ?_ | refine Kc ?_ | refine Kd ?_ | refine Ke ?_); simp only [go_sem]) | refine Kf ?_ | refine Kg ?_ | refine ⟨_,c1,Sh.intro ?_⟩ | refine ⟨_,⟨c1,rfl⟩,Sh.intro ?_⟩ | refine ⟨_,⟨Int.natCast_nonneg _,(by first | exact Xae hg | (rw [Int.toNat_natCast]; exact Xae hg)),rfl⟩,Sh.intro ?_⟩ | (refine Kp (fun _ => ?_) (fun _ => ?_) <;> try (exfalso; omega)) | ((first | refine Kh ?_ | refine Ki rfl ?_); simp only [or_self,Qs,Qt,Qu,Qv,Qw,Qx,Qy,Qz,Za,go_sem]))
   all_goals first | (exfalso; omega) | skip
   refine ⟨Xan hil (by unfold Xad; omega),?_⟩
   refine Kj (fr 22 [(7,.one (.d (.sl (grs l)))),(8,vi l.length),(9,vi (i + 1))]) (by (simp only [go_sem]; repeat' (first | refine Kp ?_ ?_ | exact Or.inl rfl | exact Or.inr rfl | rfl))) ?_
   refine Kk 0 (by simp only [List.length_nil,List.length_cons]; decide) (by simp only [go_sem]) (by simp only [go_sem]) ?_
   simp only [go_sem]
   refine Kl ⟨l.length - (i + 1),by omega,i + 1,by omega,rfl,?_,rfl⟩
   exact hz
  ·rw [if_neg he] at hz
   rw [hz]
   generalize chkE g = e at *
   have hne : (e != 0) = true := by simpa using he
   repeat' (first | refine Kn rfl ?_ | ((first | refine Ka ?_ | refine Kb ?_ | refine Kc ?_ | refine Kd ?_ | refine Ke ?_); simp only [hne,go_sem]) | refine Kf ?_ | refine Kg ?_ | refine ⟨_,c1,Sh.intro ?_⟩ | refine ⟨_,⟨c1,rfl⟩,Sh.intro ?_⟩ | refine ⟨_,⟨Int.natCast_nonneg _,(by first | exact Xae hg | (rw [Int.toNat_natCast]; exact Xae hg)),rfl⟩,Sh.intro ?_⟩ | (refine Kp (fun _ => ?_) (fun _ => ?_) <;> try (exfalso; omega)) | ((first | refine Kh ?_ | refine Ki rfl ?_); simp only [hne,or_self,Qs,Qt,Qu,Qv,Qw,Qx,Qy,Qz,Za,go_sem]))
   all_goals first | (exfalso; omega) | trace_state
 ·obtain rfl : l.length = i := by omega
  rw [List.drop_length] at hz
  rw [hz]
  repeat' (first | refine Kn rfl ?_ | ((first | refine Ka ?_ | refine Kb ?_ | refine Kc ?_ | refine Kd ?_ | refine Ke ?_); simp only [go_sem]) | refine Kf ?_ | refine Kg ?_ | (refine Kp (fun _ => ?_) (fun _ => ?_) <;> try (exfalso; omega)) | ((first | refine Kh ?_ | refine Ki rfl ?_); simp only [or_self,Qs,Qt,Qu,Qv,Qw,Qx,Qy,Qz,Za,go_sem]))
  all_goals first | (exfalso; omega) | rfl
variable {gp : Heap} {ua : Addr}
abbrev uE (a : Addr) : Value := .iface 281 (.pointer (some a))
abbrev iE (a : Addr) : D := .ifc 281 false [.raw (.pointer (some a))]
structure Env9 (gp : Heap) (a : Addr) : Prop where
 e : Env gp
 g : ∃ T fz,gp 1 = some (.cells #[uE a] T fz)
 is1 : Does QP gp 118 [.one (.d (iE a)),.one (.d (.raw (uE a)))] (vb true)
 is0 : Does QP gp 118 [.one (.d .nilI),.one (.d (.raw (uE a)))] (vb false)
theorem Wck {S : Sx} {k : List MI} {s : St} (t : Nat) {T : TypeId} {p : Addr} (ht : getV s.fr t = .one (.d (.raw (.iface T (.pointer (some p)))))) (h : G S k ⟨setV s.fr t (.one (.d (.ifc T false [.raw (.pointer (some p))]))),s.own⟩) : G S k s := by
 rintro Y a w ⟨H,an,F,ms,hs⟩
 obtain ⟨u,hu,hd⟩ := hs.fr.get (Xaz _ _ _ ht (by simp))
 have hd : Den H (.raw (.iface T (.pointer (some p)))) u := hd
 cases hd
 refine h Y a w ⟨H,an,F,ms,hs.reframe ?_⟩
 have := Xbi s.fr a.tmps.toList t (.one (.d (.ifc T false [.raw (.pointer (some p))]))) (.iface T (.pointer (some p))) hs.fr (Den.ifcV (H := H) T _ _ (Den.raw _ rfl))
 rwa [Xkt hu] at this
def err9 (a : Addr) (b : Bool) : V := .one (.d (if b then .nilI else iE a))
abbrev vwv (g h : Gr) : V := .agg [.d (.int .i64 g.root),.d (.sl (nds g.l)),.d (.int .i64 h.root),.d (.sl (nds h.l))]
set_option maxHeartbeats 1000000 in
theorem Wg7 (h9 : Env9 gp ua) (g h : Gr) (i j : Nat) (hg : Xbt g) (hh : Xbt h) (hi : i < g.l.length) (hj : j < h.l.length) : Does QP gp 117 [vwv g h,pv ((i : Int),(j : Int))] (err9 ua (fitP g h (i,j))) := by
 obtain ⟨T,fz,hgl⟩ := h9.g
 have keyT : ∀ b,b = true -> V.one (A.d D.nilI) = err9 ua b := by rintro _ rfl; rfl
 have keyF : ∀ b,b = false -> V.one (A.d (iE ua)) = err9 ua b := by rintro _ rfl; rfl
 refine Y04 ?_
 simp only [go_sem]
 obtain ⟨x,hx⟩ := Xak hi
 obtain ⟨y,hy⟩ := Xak hj
 have hnx : ndAt g.l i = x := by unfold ndAt; rw [if_pos (by omega),Int.toNat_natCast,hx]; rfl
 have hny : ndAt h.l j = y := by unfold ndAt; rw [if_pos (by omega),Int.toNat_natCast,hy]; rfl
 have c1 := keys (gp := gp) g i hg
 have c2 := keys (gp := gp) h j hh
 rw [hnx] at c1
 rw [hny] at c2
 have c3 := Y9i (gp := gp) (Xah x) (Xah y)
 unfold fitP
 rw [hnx,hny]
 unfold fitN
 generalize Xah x = kx at *
 generalize Xah y = ky at *
 repeat' (first | refine Kn rfl ?_ | ((first | refine Ka ?_ | refine Kb ?_ | refine Kc ?_ | refine Kd ?_ | refine Ke ?_); simp only [Xo9,go_sem]) | refine Kf ?_ | refine Kg ?_ | refine ⟨_,c1,Sh.intro ?_⟩ | refine ⟨_,⟨c1,rfl⟩,Sh.intro ?_⟩ | refine ⟨_,c2,Sh.intro ?_⟩ | refine ⟨_,⟨c2,rfl⟩,Sh.intro ?_⟩ | refine ⟨_,c3,Sh.intro ?_⟩ | refine ⟨_,⟨c3,rfl⟩,Sh.intro ?_⟩ | refine ⟨_,⟨Int.natCast_nonneg _,(by first | exact Xae hx | (rw [Int.toNat_natCast]; exact Xae hx)),rfl⟩,Sh.intro ?_⟩ | refine ⟨_,⟨Int.natCast_nonneg _,(by first | exact Xae hy | (rw [Int.toNat_natCast]; exact Xae hy)),rfl⟩,Sh.intro ?_⟩ | (refine Kp (fun _ => ?_) (fun _ => ?_) <;> try (exfalso; omega)) | ((first | refine Kh ?_ | refine Ki rfl ?_); simp only [Xo9,or_self,Qs,Qt,Qu,Qv,Qw,Qx,Qy,Qz,Za,go_sem]))
 all_goals first
  | exact keyT _ (by grind)
  | (refine ⟨#[uE ua],T,fz,[.raw (uE ua)],⟨hgl,rfl,Nat.le_refl _⟩,Sh.intro ?_⟩
     simp only [go_sem]
     refine Wck 4 rfl ?_
     simp only [go_sem]
     repeat' (first | refine Kn rfl ?_ | ((first | refine Ka ?_ | refine Kb ?_ | refine Kc ?_ | refine Kd ?_ | refine Ke ?_); simp only [go_sem]) | refine Kf ?_ | refine Kg ?_ | refine Kp (fun _ => ?_) (fun _ => ?_) | ((first | refine Kh ?_ | refine Ki rfl ?_); simp only [or_self,Qs,Qt,Qu,Qv,Qw,Qx,Qy,Qz,Za,go_sem]))
     exact keyF _ (by grind))
theorem X8y (g h : Gr) (i j : Int) (hg : Xbt g) (hh : Xbt h) (hl : (kd g i).length = (kd h j).length) : Does QP gp 120 [vwv g h,pv (i,j)] (.one (.d (.sl (pps (kdP g h (i,j)))))) := by
 refine Y1j ?_
 simp only [go_sem]
 have c1 : Does QP gp 21 [g.v,vi i] (.tup [.one (.d (.sl (ints (kd g i)))),vi (atE g.l i)]) := kids g i hg
 have c2 : Does QP gp 21 [h.v,vi j] (.tup [.one (.d (.sl (ints (kd h j)))),vi (atE h.l j)]) := kids h j hh
 have hb := Xpm hg i
 rw [show kdP g h (i,j) = List.zip (kd g i) (kd h j) from rfl]
 generalize kd g i = a at *
 generalize kd h j = b at *
 generalize atE g.l i = e1 at *
 generalize atE h.l j = e2 at *
 repeat' (first | refine Kn rfl ?_ | ((first | refine Ka ?_ | refine Kb ?_ | refine Kc ?_ | refine Kd ?_ | refine Ke ?_); simp only [Xdo,go_sem]) | refine Kf ?_ | refine Kg ?_ | refine ⟨_,c1,Sh.intro ?_⟩ | refine ⟨_,⟨c1,rfl⟩,Sh.intro ?_⟩ | refine ⟨_,c2,Sh.intro ?_⟩ | refine ⟨_,⟨c2,rfl⟩,Sh.intro ?_⟩ | (refine Kp (fun _ => ?_) (fun _ => ?_) <;> try (exfalso; omega)) | ((first | refine Kh ?_ | refine Ki rfl ?_); simp only [Xdo,or_self,Qs,Qt,Qu,Qv,Qw,Qx,Qy,Qz,Za,go_sem]))
 refine Xku 9 2 (by decide) rfl ?_
 simp only [go_sem]
 refine Kj (fr 46 [(5,.one (.d (.sl (ints a)))),(7,.one (.d (.sl (ints b)))),(9,.one (.own 0 (0 : Nat))),(27,.one (.d (.sl (ints a)))),(28,vi a.length),(29,vi (0 : Nat))]) (by (simp only [go_sem]; repeat' (first | refine Kp ?_ ?_ | exact Or.inl rfl | exact Or.inr rfl | rfl))) ?_
 refine Km (fun mz sz => ∃ i : Nat,i <= a.length /\ mz = a.length - i /\ (0 <= i) /\ sz = ⟨fr 46 [(5,.one (.d (.sl (ints a)))),(7,.one (.d (.sl (ints b)))),(9,.one (.own 0 i)),(27,.one (.d (.sl (ints a)))),(28,vi a.length),(29,vi i)],[.row 2 i (pps ((List.zip a b).take i))]⟩) (a.length) ⟨0,Nat.zero_le _,(Nat.sub_zero _).symm,?_,rfl⟩ ?_
 ·exact Nat.zero_le _
 rintro _ _ ⟨i,hi,rfl,-,rfl⟩
 simp only [go_sem]
 by_cases hil : i < a.length
 ·obtain ⟨x,hx⟩ := Xak hil
  obtain ⟨y,hy⟩ := Xak (l := b) (i := i) (by omega)
  have hz : (List.zip a b)[i]? = some (x,y) := List.getElem?_zip_eq_some.2 ⟨hx,hy⟩
  repeat' (first | refine Kn rfl ?_ | ((first | refine Ka ?_ | refine Kb ?_ | refine Kc ?_ | refine Kd ?_ | refine Ke ?_); simp only [Xdo,go_sem]) | refine Kf ?_ | refine Kg ?_ | refine ⟨_,⟨Int.natCast_nonneg _,(by first | exact Xae hx | (rw [Int.toNat_natCast]; exact Xae hx)),rfl⟩,Sh.intro ?_⟩ | refine ⟨_,⟨Int.natCast_nonneg _,(by first | exact Xae hy | (rw [Int.toNat_natCast]; exact Xae hy)),rfl⟩,Sh.intro ?_⟩ | (refine Kp (fun _ => ?_) (fun _ => ?_) <;> try (exfalso; omega)) | ((first | refine Kh ?_ | refine Ki rfl ?_); simp only [Xdo,or_self,Qs,Qt,Qu,Qv,Qw,Qx,Qy,Qz,Za,go_sem]))
  all_goals first | (exfalso; omega) | skip
  refine ⟨by simp,by simp; omega,by simp [Xad]; omega,?_⟩
  rw [show pps ((List.zip a b).take i) ++ [_] = pps ((List.zip a b).take (i + 1)) from by rw [<- Xcw hz]; simp [pps]]
  repeat' (first | refine Kn rfl ?_ | ((first | refine Ka ?_ | refine Kb ?_ | refine Kc ?_ | refine Kd ?_ | refine Ke ?_); simp only [Xdo,go_sem]) | refine Kf ?_ | refine Kg ?_ | (refine Kp (fun _ => ?_) (fun _ => ?_) <;> try (exfalso; omega)) | ((first | refine Kh ?_ | refine Ki rfl ?_); simp only [Xdo,or_self,Qs,Qt,Qu,Qv,Qw,Qx,Qy,Qz,Za,go_sem]))
  refine ⟨Xan hil (by unfold Xad; omega),?_⟩
  refine Kj (fr 46 [(5,.one (.d (.sl (ints a)))),(7,.one (.d (.sl (ints b)))),(9,.one (.own 0 (i + 1))),(27,.one (.d (.sl (ints a)))),(28,vi a.length),(29,vi (i + 1))]) (by (simp only [go_sem]; repeat' (first | refine Kp ?_ ?_ | exact Or.inl rfl | exact Or.inr rfl | rfl))) ?_
  refine Kl ⟨a.length - (i + 1),by omega,i + 1,by omega,rfl,?_,rfl⟩
  exact Nat.zero_le _
 ·obtain rfl : a.length = i := by omega
  rw [List.take_of_length_le (by simp; omega)]
  repeat' (first | refine Kn rfl ?_ | ((first | refine Ka ?_ | refine Kb ?_ | refine Kc ?_ | refine Kd ?_ | refine Ke ?_); simp only [go_sem]) | refine Kf ?_ | refine Kg ?_ | (refine Kp (fun _ => ?_) (fun _ => ?_) <;> try (exfalso; omega)) | ((first | refine Kh ?_ | refine Ki rfl ?_); simp only [or_self,Qs,Qt,Qu,Qv,Qw,Qx,Qy,Qz,Za,go_sem]))
  all_goals first | (exfalso; omega) | skip
  refine Xar 0 ?_
  simp only [go_sem]
  repeat' (first | refine Kn rfl ?_ | ((first | refine Ka ?_ | refine Kb ?_ | refine Kc ?_ | refine Kd ?_ | refine Ke ?_); simp only [Xdo,go_sem]) | refine Kf ?_ | refine Kg ?_ | refine Kp (fun _ => ?_) (fun _ => ?_) | ((first | refine Kh ?_ | refine Ki rfl ?_); simp only [Xdo,or_self,Qs,Qt,Qu,Qv,Qw,Qx,Qy,Qz,Za,go_sem]))
  all_goals trace_state
theorem Xpt (xs : List (List D)) : Does QP gp 142 [.one (.d (.sl xs))] (.one (.d (.fn (.func 153) [.bx [.sl xs]]))) := by
 refine Y1n ?_
 simp only [go_sem]
 repeat' (first | refine Kn rfl ?_ | ((first | refine Ka ?_ | refine Kb ?_ | refine Kc ?_ | refine Kd ?_ | refine Ke ?_); simp only [go_sem]) | refine Kf ?_ | refine Kg ?_ | refine Kp (fun _ => ?_) (fun _ => ?_) | ((first | refine Kh ?_ | refine Ki rfl ?_); simp only [or_self,Qs,Qt,Qu,Qv,Qw,Qx,Qy,Qz,Za,go_sem]))
 all_goals trace_state
def met9 (out : List Pp) : List (V × V) := out.map fun p => (pv p,vb true)
theorem Xa3 (out : List Pp) : (Ch.map (met9 out)).refs = [] := by
 simp only [Ch.refs]
 rw [List.flatMap_eq_nil_iff]
 intro e he
 obtain ⟨a,_,rfl⟩ := List.mem_map.1 he
 rfl
theorem Xla (out : List Pp) (j : Nat) (c : Ch) : subC j c (.map (met9 out)) = .map (met9 out) := by
 simp only [subC,Ch.map.injEq]
 conv => rhs; rw [<- List.map_id (met9 out)]
 apply List.map_congr_left
 intro e he
 obtain ⟨a,_,rfl⟩ := List.mem_map.1 he
 rfl
abbrev wp9 (g h : Gr) (v : Nat) : Ch := .cells [.d (.int .i64 g.root),.d (.sl (nds g.l)),.d (.int .i64 h.root),.d (.sl (nds h.l)),.own 0 0,.own 1 v]
set_option maxHeartbeats 1000000 in
theorem Wg8 (g h : Gr) (out l st : List Pp) (v : Nat) (hb : st.length + l.length < 10000000) : Tri QP gp 119 [.one (.ptr 2 0),.one (.d (.sl (pps l)))] [.map (met9 out),.row 2 v (pps st),wp9 g h v] fun r post =>
  r = .tup [] /\ post = [.map (met9 out),.row 2 (v + l.length) (pps (st ++ l.reverse)),wp9 g h (v + l.length)] := by
 refine Yhm ?_
 simp only [go_sem]
 repeat' (first | refine Kn rfl ?_ | ((first | refine Ka ?_ | refine Kb ?_ | refine Kc ?_ | refine Kd ?_ | refine Ke ?_); simp only [go_sem]) | refine Kf ?_ | refine Kg ?_ | refine ⟨_,Xpt (pps l),Sh.intro ?_⟩ | refine ⟨_,⟨Xpt (pps l),rfl⟩,Sh.intro ?_⟩ | refine Kp (fun _ => ?_) (fun _ => ?_) | ((first | refine Kh ?_ | refine Ki rfl ?_); simp only [or_self,Qs,Qt,Qu,Qv,Qw,Qx,Qy,Qz,Za,go_sem]))
 refine Kj (fr 20 [(2,.one (.ptr 3 0)),(7,.one (.d (.fn (.func 153) [.bx [.sl (pps l)]])))]) (by (simp only [go_sem]; repeat' (first | refine Kp ?_ ?_ | exact Or.inl rfl | exact Or.inr rfl | rfl))) ?_
 simp only [go_sem]
 refine G_rf (f2 := 153) (caps := [.one (.d (.bx [.sl (pps l)]))]) (fun pd own' => pd = none /\ own' = [.map (met9 out),.row 2 (v + l.length) (pps (st ++ l.reverse)),wp9 g h (v + l.length),.cells [.ptr 2 0],.dead]) rfl ?_ Y1r ?_ ?_ ?_
 ·intro y; simp only [go_sem]
 ·rintro b rc hps ⟨hs,hta,htb⟩
  refine Yht ?_
  simp only [go_sem]
  have hd0 : inK .i64 ((l.length : Int) - 1) := Xkv (by unfold Xad; omega)
  repeat' (first | refine Kn rfl ?_ | ((first | refine Ka ?_ | refine Kb ?_ | refine Kc ?_ | refine Kd ?_ | refine Ke ?_); simp only [go_sem]) | refine Kf ?_ | refine Kg ?_ | refine ⟨hd0,?_⟩ | refine Kp (fun _ => ?_) (fun _ => ?_) | ((first | refine Kh ?_ | refine Ki rfl ?_); simp only [or_self,Qs,Qt,Qu,Qv,Qw,Qx,Qy,Qz,Za,go_sem]))
  have e0 : (l.length : Int) - 1 = (l.length : Int) - 1 - ((0 : Nat) : Int) := by omega
  rw [e0,show Ch.row 2 v (pps st) = Ch.row 2 (v + 0) (pps (st ++ l.reverse.take 0)) from by simp]
  refine Kj (fr 19 [(0,.one (.d (.raw (.func (.yield b) #[] #[])))),(1,.one (.d (.bx [.sl (pps l)]))),(3,vi ((l.length : Int) - 1 - ((0 : Nat) : Int)))]) (by (simp only [go_sem]; repeat' (first | refine Kp ?_ ?_ | exact Or.inl rfl | exact Or.inr rfl | rfl))) ?_
  refine Km (fun mz sz => ∃ i : Nat,i <= l.length /\ mz = l.length - i /\ sz = ⟨fr 19 [(0,.one (.d (.raw (.func (.yield b) #[] #[])))),(1,.one (.d (.bx [.sl (pps l)]))),(3,vi ((l.length : Int) - 1 - (i : Int)))],[.map (met9 out),.row 2 (v + i) (pps (st ++ l.reverse.take i)),wp9 g h (v + i),.cells [.ptr 2 0],.lp b (fr 20 [(2,.one (.ptr 3 0)),(7,.one (.d (.fn (.func 153) [.bx [.sl (pps l)]])))]) rc .ready none]⟩) l.length ⟨0,Nat.zero_le _,rfl,rfl⟩ ?_
  rintro _ _ ⟨i,hi,rfl,rfl⟩
  simp only [go_sem]
  by_cases hil : i < l.length
  ·obtain ⟨p,hp⟩ := Xak (l := l.reverse) (i := i) (by simpa using hil)
   have hp2 : l[((l.length : Int) - 1 - (i : Int)).toNat]? = some p := by
    rw [List.getElem?_reverse hil] at hp
    rw [show ((l.length : Int) - 1 - (i : Int)).toNat = l.length - 1 - i from by omega]
    exact hp
   have hl2 : (st ++ l.reverse.take i).length = st.length + i := by simp; omega
   repeat' (first | refine Kn rfl ?_ | ((first | refine Ka ?_ | refine Kb ?_ | refine Kc ?_ | refine Kd ?_ | refine Ke ?_); simp only [go_sem]) | refine Kf ?_ | refine Kg ?_ | refine ⟨_,⟨by omega,Xae hp2,rfl⟩,Sh.intro ?_⟩ | (refine Kp (fun _ => ?_) (fun _ => ?_) <;> try (exfalso; omega)) | ((first | refine Kh ?_ | refine Ki rfl ?_); simp only [or_self,Qs,Qt,Qu,Qv,Qw,Qx,Qy,Qz,Za,go_sem]))
   refine ⟨[.map (met9 out),.row 2 (v + i + 1) (pps (st ++ l.reverse.take (i + 1))),wp9 g h (v + i + 1),.cells [.ptr 2 0],.lp b (fr 20 [(2,.one (.ptr 3 0)),(7,.one (.d (.fn (.func 153) [.bx [.sl (pps l)]])))]) rc .ready none],true,by simp,⟨4,_,rc,hs,_,_,[.map (met9 out),.row 2 (v + i + 1) (pps (st ++ l.reverse.take (i + 1))),wp9 g h (v + i + 1),.cells [.ptr 2 0],.dead],none,rfl,by rw [<- Array.length_toList,hps]; rfl,hta,htb,?_,rfl,rfl⟩,Sh.intro ?_⟩
   ·rw [hps]
    simp only [go_sem]
    repeat' (first | refine Kn rfl ?_ | ((first | refine Ka ?_ | refine Kb ?_ | refine Kc ?_ | refine Kd ?_ | refine Ke ?_); simp only [go_sem]) | refine Kf ?_ | refine Kg ?_ | refine Kp (fun _ => ?_) (fun _ => ?_) | ((first | refine Kh ?_ | refine Ki rfl ?_); simp only [or_self,Qs,Qt,Qu,Qv,Qw,Qx,Qy,Qz,Za,go_sem]))
    refine Xfj ⟨rfl,?_⟩
    repeat' (first | refine Kn rfl ?_ | ((first | refine Ka ?_ | refine Kb ?_ | refine Kc ?_ | refine Kd ?_ | refine Ke ?_); simp only [go_sem]) | refine Kf ?_ | refine Kg ?_ | refine Kp (fun _ => ?_) (fun _ => ?_) | ((first | refine Kh ?_ | refine Ki rfl ?_); simp only [or_self,Qs,Qt,Qu,Qv,Qw,Qx,Qy,Qz,Za,go_sem]))
    refine ⟨by simp,by simp only [List.length_map,hl2]; omega,by simp only [List.length_map,hl2]; unfold Xad; omega,?_⟩
    rw [show pps (st ++ l.reverse.take i) ++ [_] = pps (st ++ l.reverse.take (i + 1)) from by rw [<- Xcw hp]; simp [pps]]
    repeat' (first | refine Kn rfl ?_ | ((first | refine Ka ?_ | refine Kb ?_ | refine Kc ?_ | refine Kd ?_ | refine Ke ?_); simp only [go_sem]) | refine Kf ?_ | refine Kg ?_ | refine Kp (fun _ => ?_) (fun _ => ?_) | ((first | refine Kh ?_ | refine Ki rfl ?_); simp only [or_self,Qs,Qt,Qu,Qv,Qw,Qx,Qy,Qz,Za,go_sem]))
    refine Kj (fr 20 []) (by (simp only [go_sem]; repeat' (first | refine Kp ?_ ?_ | exact Or.inl rfl | exact Or.inr rfl | rfl))) ?_
    simp only [go_sem]
    refine Kk 5 (by first | exact Nat.le_refl _ | (simp only [List.length_nil,List.length_cons]; decide)) (by simp only [go_sem]) (by simp only [List.take_succ_cons,List.take_zero,List.all_cons,List.all_nil,Xa3]; simp only [go_sem]) ?_
    simp only [go_sem]
    exact Xfj ⟨⟨rfl,rfl⟩,rfl⟩
   ·simp only [go_sem]
    repeat' (first | refine Kn rfl ?_ | ((first | refine Ka ?_ | refine Kb ?_ | refine Kc ?_ | refine Kd ?_ | refine Ke ?_); simp only [go_sem]) | refine Kf ?_ | refine Kg ?_ | refine Kp (fun _ => ?_) (fun _ => ?_) | ((first | refine Kh ?_ | refine Ki rfl ?_); simp only [or_self,Qs,Qt,Qu,Qv,Qw,Qx,Qy,Qz,Za,go_sem]))
    have e1 : (l.length : Int) - 1 - (i : Int) - 1 = (l.length : Int) - 1 - ((i + 1 : Nat) : Int) := by omega
    rw [e1]
    refine ⟨by unfold inK; simp [IntKind.min,IntKind.max,IntKind.signed,IntKind.bits]; omega,?_⟩
    refine Kj (fr 19 [(0,.one (.d (.raw (.func (.yield b) #[] #[])))),(1,.one (.d (.bx [.sl (pps l)]))),(3,vi ((l.length : Int) - 1 - ((i + 1 : Nat) : Int)))]) (by (simp only [go_sem]; repeat' (first | refine Kp ?_ ?_ | exact Or.inl rfl | exact Or.inr rfl | rfl))) ?_
    simp only [go_sem]
    refine Kk 5 (by first | exact Nat.le_refl _ | (simp only [List.length_nil,List.length_cons]; decide)) (by simp only [go_sem]) (by simp only [List.take_succ_cons,List.take_zero,List.all_cons,List.all_nil,Xa3]; simp only [go_sem]) ?_
    simp only [go_sem]
    exact Kl ⟨l.length - (i + 1),by omega,i + 1,by omega,rfl,rfl⟩
  ·obtain rfl : l.length = i := by omega
   rw [List.take_of_length_le (by simp)]
   repeat' (first | refine Kn rfl ?_ | ((first | refine Ka ?_ | refine Kb ?_ | refine Kc ?_ | refine Kd ?_ | refine Ke ?_); simp only [go_sem]) | refine Kf ?_ | refine Kg ?_ | (refine Kp (fun _ => ?_) (fun _ => ?_) <;> try (exfalso; omega)) | ((first | refine Kh ?_ | refine Ki rfl ?_); simp only [or_self,Qs,Qt,Qu,Qv,Qw,Qx,Qy,Qz,Za,go_sem]))
   all_goals first | (exfalso; omega) | skip
   exact ⟨.ready,none,rfl,by simp,rfl⟩
 ·rintro own' ⟨_,rfl⟩
  simp only [go_sem]
  refine Kj (fr 20 []) (by (simp only [go_sem]; repeat' (first | refine Kp ?_ ?_ | exact Or.inl rfl | exact Or.inr rfl | rfl))) ?_
  simp only [go_sem]
  refine Kk 3 (by first | exact Nat.le_refl _ | (simp only [List.length_nil,List.length_cons]; decide)) (by simp only [go_sem]) (by simp only [List.take_succ_cons,List.take_zero,List.all_cons,List.all_nil,Xa3]; simp only [go_sem]) ?_
  simp only [go_sem]
  repeat' (first | refine Kn rfl ?_ | ((first | refine Ka ?_ | refine Kb ?_ | refine Kc ?_ | refine Kd ?_ | refine Ke ?_); simp only [go_sem]) | refine Kf ?_ | refine Kg ?_ | refine Kp (fun _ => ?_) (fun _ => ?_) | ((first | refine Kh ?_ | refine Ki rfl ?_); simp only [or_self,Qs,Qt,Qu,Qv,Qw,Qx,Qy,Qz,Za,go_sem]))
  all_goals trace_state
 ·rintro _ _ ⟨h,_⟩; cases h
end Go.Fw.L07
