/- Chapter 10,plain: numbers in the order of first appearance; classes that are parted as long as there are more. -/
import Derived.Test.YtbicdabccidliaaGreatDoorLa
import Derived.Test.YtbicdabccidliaaGreatDoorVa
import Derived.Test.YtbicdabccidliaaGreatDoorLb
import Derived.Lib.MapLaws
import Derived.Lib.ItoaLen
import Derived.Test.YtbicdabccidliaaGreatDoorIa
set_option linter.all false
namespace Go.Fw.L07
open Go Go.Fw
open Nat renaming reduceAdd -> Qa,reduceSub -> Qb,reduceMul -> Qc,reduceLeDiff -> Qd,reduceLT -> Qe,reduceEqDiff -> Qf
open Int renaming reduceToNat -> Qg,reduceLT -> Qh,reduceLE -> Qi,reduceGT -> Qj,reduceGE -> Qk,reduceEq -> Ql,reduceNe -> Qm,reduceBEq -> Qn,reduceBNe -> Qo,reduceAdd -> Qp,reduceSub -> Qq,reduceNeg -> Qr
open Go.Fw.V.one renaming injEq -> Qs
open Go.Fw.V.agg renaming injEq -> Qt
open Go.Fw.V.tup renaming injEq -> Qu
open Go.Fw.A.d renaming injEq -> Qv
open Go.Fw.D.bool renaming injEq -> Qw
open Go.Fw.D.int renaming injEq -> Qx
open Go.Fw.D.str renaming injEq -> Qy
open Go.Fw.D.sl renaming injEq -> Qz
open List.cons renaming injEq -> Za
set_option maxRecDepth 4000
section
variable {α β : Type} [DecidableEq α] [DecidableEq β]
def ddF : List α -> List α -> List α
 | d,[] => d
 | d,a :: l => ddF (if a ∈ d then d else d ++ [a]) l
def ddp (l : List α) : List α := ddF [] l
theorem ddF_app : ∀ (l m : List α) (d : List α),ddF d (l ++ m) = ddF (ddF d l) m
 | [],_,_ => rfl
 | a :: l,m,d => by simp only [List.cons_append,ddF,ddF_app l m]
theorem ddp_snoc (l : List α) (a : α) : ddp (l ++ [a]) = if a ∈ ddp l then ddp l else ddp l ++ [a] := by
 unfold ddp; rw [ddF_app]; rfl
theorem ddF_mem : ∀ (l d : List α) (x : α),x ∈ ddF d l ↔ x ∈ d \/ x ∈ l
 | [],d,x => by simp [ddF]
 | a :: l,d,x => by
  simp only [ddF,ddF_mem l,List.mem_cons]
  split
  ·rename_i h
   constructor
   ·rintro (h1 | h1)
    ·exact .inl h1
    ·exact .inr (.inr h1)
   ·rintro (h1 | rfl | h1)
    ·exact .inl h1
    ·exact .inl h
    ·exact .inr h1
  ·simp only [List.mem_append,List.mem_singleton,or_assoc]
theorem ddp_mem {l : List α} {x : α} : x ∈ ddp l ↔ x ∈ l := by unfold ddp; rw [ddF_mem]; simp
theorem ddF_nodup : ∀ (l d : List α),d.Nodup -> (ddF d l).Nodup
 | [],_,h => h
 | a :: l,d,h => by
  simp only [ddF]
  refine ddF_nodup l _ ?_
  split
  ·exact h
  ·rename_i ha
   rw [List.nodup_append]
   exact ⟨h,by simp,fun x hx y hy e => by simp at hy; subst hy; subst e; exact ha hx⟩
theorem ddp_nodup (l : List α) : (ddp l).Nodup := ddF_nodup l [] (by simp)
theorem ddF_pre : ∀ (l d : List α),∃ e,ddF d l = d ++ e
 | [],d => ⟨[],by simp [ddF]⟩
 | a :: l,d => by
  simp only [ddF]
  obtain ⟨e,he⟩ := ddF_pre l (if a ∈ d then d else d ++ [a])
  rw [he]
  split
  ·exact ⟨e,rfl⟩
  ·exact ⟨a :: e,by simp⟩
theorem ddp_pre (l m : List α) : ∃ e,ddp (l ++ m) = ddp l ++ e := by unfold ddp; rw [ddF_app]; exact ddF_pre m _
theorem ddp_len (l : List α) : (ddp l).length <= l.length := (ddp_nodup l).length_le_of_subset fun x hx => ddp_mem.1 hx
def rkp (l : List α) : List Int := l.map fun a => ((ddp l).idxOf a : Int)
theorem rkp_len (l : List α) : (rkp l).length = l.length := by simp [rkp]
theorem idx_inj10 {d : List α} {a b : α} (ha : a ∈ d) (hb : b ∈ d) (h : d.idxOf a = d.idxOf b) : a = b := by
 have h1 := List.getElem_idxOf (List.idxOf_lt_length_iff.2 ha)
 have h2 := List.getElem_idxOf (List.idxOf_lt_length_iff.2 hb)
 rw [<- h1,<- h2]
 congr 1
theorem rkp_at {l : List α} {i : Nat} {a : α} (h : l[i]? = some a) : (rkp l)[i]? = some ((ddp l).idxOf a : Int) := by unfold rkp; rw [List.getElem?_map,h]; rfl
theorem rkp_eq {l : List α} {i j : Nat} {a b : α} (ha : l[i]? = some a) (hb : l[j]? = some b) : (rkp l)[i]? = (rkp l)[j]? ↔ a = b := by
 rw [rkp_at ha,rkp_at hb]
 constructor
 ·intro h
  have h := Option.some.inj h
  exact idx_inj10 (ddp_mem.2 (List.mem_of_getElem? ha)) (ddp_mem.2 (List.mem_of_getElem? hb)) (by omega)
 ·rintro rfl; rfl
theorem idx_take {l : List α} {i n : Nat} {a : α} (h : l[i]? = some a) (hn : i < n) : (ddp (l.take n)).idxOf a = (ddp l).idxOf a := by
 obtain ⟨e,he⟩ := ddp_pre (l.take n) (l.drop n)
 rw [List.take_append_drop] at he
 rw [he,List.idxOf_append,if_pos]
 rw [ddp_mem]
 exact List.mem_of_getElem? (i := i) (by rw [List.getElem?_take,if_pos hn]; exact h)
theorem take_snoc10 {l : List α} {n : Nat} {a : α} (h : l[n]? = some a) : l.take (n + 1) = l.take n ++ [a] := by rw [List.take_succ,h]; rfl
theorem mem_take {l : List α} {n : Nat} {a : α} : a ∈ l.take n ↔ ∃ i,i < n /\ l[i]? = some a := by
 rw [List.mem_iff_getElem?]
 constructor
 ·rintro ⟨i,hi⟩
  rw [List.getElem?_take] at hi
  split at hi
  ·exact ⟨i,‹_›,hi⟩
  ·cases hi
 ·rintro ⟨i,hi,h⟩
  exact ⟨i,by rw [List.getElem?_take,if_pos hi]; exact h⟩
theorem rkp_next {l : List α} {i : Nat} {a : α} (h : l[i]? = some a) : if a ∈ l.take i then (ddp l).idxOf a < (ddp (l.take i)).length /\ ddp (l.take (i + 1)) = ddp (l.take i) else (ddp l).idxOf a = (ddp (l.take i)).length /\ ddp (l.take (i + 1)) = ddp (l.take i) ++ [a] := by
 have h1 := idx_take h (Nat.lt_succ_self i)
 have h2 : ddp (l.take (i + 1)) = if a ∈ ddp (l.take i) then ddp (l.take i) else ddp (l.take i) ++ [a] := by rw [take_snoc10 h,ddp_snoc]
 split
 ·rename_i hm
  rw [if_pos (ddp_mem.2 hm)] at h2
  exact ⟨by rw [<- h1,h2]; exact List.idxOf_lt_length_iff.2 (ddp_mem.2 hm),h2⟩
 ·rename_i hm
  rw [if_neg (fun hx => hm (ddp_mem.1 hx))] at h2
  refine ⟨?_,h2⟩
  rw [<- h1,h2,List.idxOf_append,if_neg (fun hx => hm (ddp_mem.1 hx))]
  simp
theorem rkp_ker {l : List α} {m : List β} (hl : l.length = m.length) (hk : ∀ i j : Nat,i < l.length -> j < l.length -> (l[i]? = l[j]? ↔ m[i]? = m[j]?)) : rkp l = rkp m := by
 have key : ∀ n,n <= l.length -> (ddp (l.take n)).length = (ddp (m.take n)).length /\ ∀ (i : Nat) (a : α) (b : β),i < n -> l[i]? = some a -> m[i]? = some b -> (ddp (l.take n)).idxOf a = (ddp (m.take n)).idxOf b := by
  intro n
  induction n with
  | zero => intro _; exact ⟨by simp [ddp,ddF],fun i a b hi => by omega⟩
  | succ n ih =>
   intro hn
   obtain ⟨h1,h2⟩ := ih (by omega)
   obtain ⟨a,ha⟩ := at_lt (l := l) (i := n) (by omega)
   obtain ⟨b,hb⟩ := at_lt (l := m) (i := n) (by omega)
   have hm : a ∈ ddp (l.take n) ↔ b ∈ ddp (m.take n) := by
    rw [ddp_mem,ddp_mem,mem_take,mem_take]
    constructor
    ·rintro ⟨i,hi,h⟩
     exact ⟨i,hi,by rw [<- hb]; exact (hk i n (by omega) (by omega)).1 (by rw [h,ha])⟩
    ·rintro ⟨i,hi,h⟩
     exact ⟨i,hi,by rw [<- ha]; exact (hk i n (by omega) (by omega)).2 (by rw [h,hb])⟩
   rw [take_snoc10 ha,take_snoc10 hb,ddp_snoc,ddp_snoc]
   by_cases hma : a ∈ ddp (l.take n)
   ·rw [if_pos hma,if_pos (hm.1 hma)]
    refine ⟨h1,fun i a' b' hi ha' hb' => ?_⟩
    by_cases hin : i < n
    ·exact h2 i a' b' hin ha' hb'
    ·obtain rfl : i = n := by omega
     rw [ha] at ha'; rw [hb] at hb'; cases ha'; cases hb'
     rw [ddp_mem,mem_take] at hma
     obtain ⟨j,hj,hja⟩ := hma
     obtain ⟨c,hc⟩ := at_lt (l := m) (i := j) (by omega)
     have := h2 j a c hj hja hc
     rw [this]
     have : m[j]? = m[i]? := (hk j i (by omega) (by omega)).1 (by rw [hja,ha])
     rw [hc,hb] at this
     cases this; rfl
   ·rw [if_neg hma,if_neg (fun h => hma (hm.2 h))]
    refine ⟨by simp [h1],fun i a' b' hi ha' hb' => ?_⟩
    rw [List.idxOf_append,List.idxOf_append]
    by_cases hin : i < n
    ·rw [if_pos (ddp_mem.2 (mem_take.2 ⟨i,hin,ha'⟩)),if_pos (ddp_mem.2 (mem_take.2 ⟨i,hin,hb'⟩))]
     exact h2 i a' b' hin ha' hb'
    ·obtain rfl : i = n := by omega
     rw [ha] at ha'; rw [hb] at hb'; cases ha'; cases hb'
     rw [if_neg hma,if_neg (fun h => hma (hm.2 h)),h1]
     simp
 apply List.ext_getElem?
 intro i
 by_cases hi : i < l.length
 ·obtain ⟨a,ha⟩ := at_lt hi
  obtain ⟨b,hb⟩ := at_lt (l := m) (i := i) (by omega)
  rw [rkp_at ha,rkp_at hb]
  have := (key l.length (Nat.le_refl _)).2 i a b hi ha hb
  rw [List.take_length,hl,List.take_length] at this
  rw [this]
 ·rw [List.getElem?_eq_none (by rw [rkp_len]; omega),List.getElem?_eq_none (by rw [rkp_len]; omega)]
theorem same_ker {l : List α} {m : List β} (hl : l.length = m.length) (hf : ∀ i j : Nat,i < l.length -> j < l.length -> l[i]? = l[j]? -> m[i]? = m[j]?) (hc : (ddp l).length <= (ddp m).length) :
  ∀ i j : Nat,i < l.length -> j < l.length -> m[i]? = m[j]? -> l[i]? = l[j]? := by
 intro i j hi hj hm
 obtain ⟨a,ha⟩ := at_lt hi
 obtain ⟨b,hb⟩ := at_lt hj
 rw [ha,hb]
 obtain ⟨y,hy⟩ := at_lt (l := m) (i := i) (by omega)
 -- each name's first place; names there
 have hrep : ∀ z ∈ ddp m,∃ x : α,∃ k : Nat,l[k]? = some x /\ m[k]? = some z := fun z hz => by
  obtain ⟨k,hk⟩ := List.mem_iff_getElem?.1 (ddp_mem.1 hz)
  obtain ⟨x,hx⟩ := at_lt (l := l) (i := k) (by rw [hl]; exact (List.getElem?_eq_some_iff.1 hk).1)
  exact ⟨x,k,hx,hk⟩
 have hd : ∃ f : β -> α,∀ z ∈ ddp m,∃ k : Nat,l[k]? = some (f z) /\ m[k]? = some z := by
  classical
  refine ⟨fun z => if h : z ∈ ddp m then Classical.choose (hrep z h) else a,fun z hz => ?_⟩
  simp only [dif_pos hz]
  exact Classical.choose_spec (hrep z hz)
 obtain ⟨f,hfz⟩ := hd
 have hinj : ∀ z ∈ ddp m,∀ z' ∈ ddp m,f z = f z' -> z = z' := fun z hz z' hz' e => by
  obtain ⟨k,h1,h2⟩ := hfz z hz
  obtain ⟨k',h3,h4⟩ := hfz z' hz'
  have := hf k k' (List.getElem?_eq_some_iff.1 h1).1 (List.getElem?_eq_some_iff.1 h3).1 (by rw [h1,h3,e])
  rw [h2,h4] at this
  exact Option.some.inj this
 have hnd : ((ddp m).map f).Nodup := by
  rw [List.Nodup,List.pairwise_map]
  have := ddp_nodup m
  rw [List.Nodup] at this
  exact List.Pairwise.imp_of_mem (fun {x y} hx hy hne e => hne (hinj x hx y hy e)) this
 have hsub : (ddp m).map f ⊆ ddp l := fun x hx => by
  obtain ⟨z,hz,rfl⟩ := List.mem_map.1 hx
  obtain ⟨k,h1,_⟩ := hfz z hz
  exact ddp_mem.2 (List.mem_of_getElem? h1)
 -- all names are there
 have hall : ∀ x ∈ ddp l,x ∈ (ddp m).map f := fun x hx => by
  by_cases hxm : x ∈ (ddp m).map f
  ·exact hxm
  ·exfalso
   have h1 : (x :: (ddp m).map f).Nodup := List.nodup_cons.2 ⟨hxm,hnd⟩
   have h2 := h1.length_le_of_subset (l₂ := ddp l) (fun y hy => by
    rcases List.mem_cons.1 hy with rfl | hy
    ·exact hx
    ·exact hsub hy)
   simp at h2
   omega
 have get : ∀ (k : Nat) (x : α),l[k]? = some x -> m[k]? = some y -> x = f y := fun k x hx hk => by
  obtain ⟨z,hz,hzx⟩ := List.mem_map.1 (hall x (ddp_mem.2 (List.mem_of_getElem? hx)))
  obtain ⟨k',h1,h2⟩ := hfz z hz
  have := hf k k' (List.getElem?_eq_some_iff.1 hx).1 (List.getElem?_eq_some_iff.1 h1).1 (by rw [hx,h1,hzx])
  rw [hk,h2] at this
  rw [<- hzx,Option.some.inj this]
 rw [get i a ha hy,get j b hb (by rw [<- hm]; exact hy)]
theorem ddp_mono {l : List α} {m : List β} (hl : l.length = m.length) (hf : ∀ i j : Nat,i < l.length -> j < l.length -> l[i]? = l[j]? -> m[i]? = m[j]?) : (ddp m).length <= (ddp l).length := by
 by_cases h : (ddp m).length <= (ddp l).length
 ·exact h
 ·have hk := same_ker hl hf (by omega)
  have e : rkp l = rkp m := rkp_ker hl fun i j hi hj => ⟨hf i j hi hj,hk i j hi hj⟩
  have hsub : ∀ z ∈ ddp m,∃ k : Nat,m[k]? = some z := fun z hz => List.mem_iff_getElem?.1 (ddp_mem.1 hz)
  -- the last name's number
  have hpos : 0 < (ddp m).length := by omega
  obtain ⟨z,hz⟩ := at_lt (l := ddp m) (i := (ddp m).length - 1) (by omega)
  obtain ⟨k,hkz⟩ := hsub z (List.mem_of_getElem? hz)
  obtain ⟨x,hx⟩ := at_lt (l := l) (i := k) (by rw [hl]; exact (List.getElem?_eq_some_iff.1 hkz).1)
  have h1 := rkp_at hx
  have h2 := rkp_at hkz
  rw [e,h2] at h1
  have h3 := Option.some.inj h1
  have h4 : (ddp l).idxOf x < (ddp l).length := List.idxOf_lt_length_iff.2 (ddp_mem.2 (List.mem_of_getElem? hx))
  have h5 : (ddp m).idxOf z = (ddp m).length - 1 := by
   obtain ⟨hlt,he⟩ := List.getElem?_eq_some_iff.1 hz
   rw [<- he]
   exact (ddp_nodup m).idxOf_getElem _ hlt
  omega
end
section
variable {σ : Type} [DecidableEq σ] (f : List Int -> List σ)
def rnd (c : List Int) : List Int := rkp (f c)
def cnt (c : List Int) : Nat := (ddp (f c)).length
def partF : Nat -> Nat -> Nat -> List Int -> List Int
 | 0,_,_,c => c
 | k + 1,n,m,c => if n < m then partF k m (cnt f c) (rnd f c) else c
variable {f} {n : Nat}
def KerLe (n : Nat) (c d : List Int) : Prop := ∀ i j : Nat,i < n -> j < n -> c[i]? = c[j]? -> d[i]? = d[j]?
structure Parts (f : List Int -> List σ) (n : Nat) : Prop where
 len : ∀ c,(f c).length = n
 mono : ∀ c d,KerLe n c d -> ∀ i j : Nat,i < n -> j < n -> (f c)[i]? = (f c)[j]? -> (f d)[i]? = (f d)[j]?
theorem Parts.rlen (h : Parts f n) (c : List Int) : (rnd f c).length = n := by unfold rnd; rw [rkp_len,h.len]
theorem Parts.ker (h : Parts f n) (c : List Int) {i j : Nat} (hi : i < n) (hj : j < n) : (rnd f c)[i]? = (rnd f c)[j]? ↔ (f c)[i]? = (f c)[j]? := by
 obtain ⟨a,ha⟩ := at_lt (l := f c) (i := i) (by rw [h.len]; exact hi)
 obtain ⟨b,hb⟩ := at_lt (l := f c) (i := j) (by rw [h.len]; exact hj)
 unfold rnd
 rw [rkp_eq ha hb,ha,hb]
 exact ⟨fun e => by rw [e],fun e => Option.some.inj e⟩
theorem Parts.up (h : Parts f n) {c d : List Int} (hk : KerLe n c d) : KerLe n (rnd f c) (rnd f d) := fun i j hi hj e => (h.ker d hi hj).2 (h.mono c d hk i j hi hj ((h.ker c hi hj).1 e))
theorem Parts.cnt_le (h : Parts f n) (c : List Int) : cnt f c <= n := by have := ddp_len (f c); rw [h.len] at this; exact this
theorem Parts.same (h : Parts f n) {c : List Int} (hk : KerLe n (rnd f (rnd f c)) (rnd f c)) (hc : cnt f (rnd f c) <= cnt f c) : rnd f (rnd f c) = rnd f c := by
 have hf : ∀ i j : Nat,i < n -> j < n -> (f (rnd f c))[i]? = (f (rnd f c))[j]? -> (f c)[i]? = (f c)[j]? := fun i j hi hj e => (h.ker c hi hj).1 (hk i j hi hj ((h.ker _ hi hj).2 e))
 have hl : (f (rnd f c)).length = (f c).length := by rw [h.len,h.len]
 have hs := same_ker hl (fun i j hi hj => by rw [h.len] at hi hj; exact hf i j hi hj) hc
 exact rkp_ker hl fun i j hi hj => ⟨by rw [h.len] at hi hj; exact hf i j hi hj,hs i j hi hj⟩
theorem Parts.end_ (h : Parts f n) : ∀ (k nn m : Nat) (c c' : List Int),m = cnt f c' -> c = rnd f c' -> KerLe n c c' -> n + 1 <= k + nn -> nn <= n -> (nn = 0 \/ ∃ c'',c' = rnd f c'' /\ nn = cnt f c'') -> rnd f (partF f k nn m c) = partF f k nn m c
 | 0,nn,m,c,c',_,_,_,h4,h5,_ => by omega
 | k + 1,nn,m,c,c',h1,h2,h3,h4,h5,h6 => by
  simp only [partF]
  split
  ·rename_i hlt
   have hm := h.cnt_le c'
   exact Parts.end_ h k m (cnt f c) (rnd f c) c rfl rfl (by rw [h2]; exact h.up (by rw [<- h2]; exact h3)) (by omega) (by omega) (.inr ⟨c',h2,h1⟩)
  ·rename_i hge
   rcases h6 with h6 | ⟨c'',h6,h7⟩
   ·have h0 : cnt f c' = 0 := by omega
    have hn : n = 0 := by
     rcases Nat.eq_zero_or_pos n with e | e
     ·exact e
     ·exfalso
      obtain ⟨a,ha⟩ := at_lt (l := f c') (i := 0) (by rw [h.len]; exact e)
      have := List.length_pos_of_mem (ddp_mem.2 (List.mem_of_getElem? ha))
      unfold cnt at h0
      omega
    have e1 : (rnd f c).length = 0 := by rw [h.rlen,hn]
    have e2 : c.length = 0 := by rw [h2,h.rlen,hn]
    rw [List.eq_nil_of_length_eq_zero e1,List.eq_nil_of_length_eq_zero e2]
   ·have := h.same (c := c'') (by rw [<- h6,<- h2]; exact h3) (by rw [<- h6,<- h1,<- h7]; omega)
    rw [<- h6,<- h2] at this
    rw [this]
    exact h2.symm.trans this
theorem partF_inv (I : List Int -> Prop) (hI : ∀ c,I c -> I (rnd f c)) : ∀ (k nn m : Nat) (c : List Int),I c -> I (partF f k nn m c)
 | 0,_,_,_,h => h
 | k + 1,nn,m,c,h => by
  simp only [partF]
  split
  ·exact partF_inv I hI k m _ _ (hI c h)
  ·exact h
theorem Parts.fuel (h : Parts f n) : ∀ (k k' nn m : Nat) (c : List Int),m <= n -> n + 1 <= k + nn -> n + 1 <= k' + nn -> partF f k nn m c = partF f k' nn m c
 | 0,0,_,_,_,_,_,_ => rfl
 | 0,k' + 1,nn,m,c,h1,h2,h3 => by simp only [partF]; rw [if_neg (by omega)]
 | k + 1,0,nn,m,c,h1,h2,h3 => by simp only [partF]; rw [if_neg (by omega)]
 | k + 1,k' + 1,nn,m,c,h1,h2,h3 => by
  simp only [partF]
  split
  ·exact Parts.fuel h k k' m _ _ (h.cnt_le c) (by omega) (by omega)
  ·rfl
end
def valD (l : List UInt8) : Nat := l.foldl (fun a b => a * 10 + (b.toNat - 48)) 0
theorem u8_lt {n : Nat} (h : n < 256) : (UInt8.ofNat n).toNat = n := by simp; omega
theorem decD_val (u : Nat) : valD (Lib.decDigits u) = u := by
 induction u using Nat.strongRecOn with
 | _ u ih =>
  rw [Lib.decDigits]
  split
  ·unfold valD
   simp only [List.foldl_cons,List.foldl_nil]
   rw [u8_lt (by omega)]; omega
  ·have := ih (u / 10) (by omega)
   unfold valD at this ⊢
   rw [List.foldl_append,this]
   simp only [List.foldl_cons,List.foldl_nil]
   rw [u8_lt (by omega)]; omega
theorem decD_dig (u : Nat) : ∀ b ∈ Lib.decDigits u,48 <= b.toNat /\ b.toNat <= 57 := by
 induction u using Nat.strongRecOn with
 | _ u ih =>
  intro b hb
  rw [Lib.decDigits] at hb
  split at hb
  ·simp only [List.mem_singleton] at hb
   subst hb
   rw [u8_lt (by omega)]; omega
  ·rcases List.mem_append.1 hb with hb | hb
   ·exact ih (u / 10) (by omega) b hb
   ·simp only [List.mem_singleton] at hb
    subst hb
    rw [u8_lt (by omega)]; omega
theorem decD_ne (u : Nat) : Lib.decDigits u ≠ [] := by
 rw [Lib.decDigits]; split <;> simp
theorem itoa_byte (n : Int) : ∀ b ∈ Lib.itoa n,b = 45 \/ (48 <= b.toNat /\ b.toNat <= 57) := by
 intro b hb
 unfold Lib.itoa at hb
 split at hb
 ·rcases List.mem_cons.1 hb with rfl | hb
  ·exact .inl rfl
  ·exact .inr (decD_dig _ b hb)
 ·exact .inr (decD_dig _ b hb)
theorem itoa_ne (n : Int) : Lib.itoa n ≠ [] := by
 unfold Lib.itoa; split
 ·simp
 ·exact decD_ne _
theorem itoa_inj {a b : Int} (h : Lib.itoa a = Lib.itoa b) : a = b := by
 have no : ∀ (u : Nat) (t : List UInt8),Lib.decDigits u ≠ 45 :: t := fun u t e => by
  have := decD_dig u 45 (by rw [e]; simp)
  revert this; decide
 unfold Lib.itoa at h
 split at h <;> split at h
 ·have := congrArg valD (List.cons.inj h).2
  rw [decD_val,decD_val] at this; omega
 ·exact absurd h.symm (no _ _)
 ·exact absurd h (no _ _)
 ·have := congrArg valD h
  rw [decD_val,decD_val] at this; omega
theorem comma_split : ∀ {t t' u v : List UInt8},44 ∉ t -> 44 ∉ t' -> t ++ 44 :: u = t' ++ 44 :: v -> t = t' /\ u = v
 | [],[],u,v,_,_,h => ⟨rfl,(List.cons.inj h).2⟩
 | [],b :: t',u,v,_,h',h => absurd (List.cons.inj h).1 (fun e => h' (by rw [<- e]; simp))
 | a :: t,[],u,v,h',_,h => absurd (List.cons.inj h).1 (fun e => h' (by rw [e]; simp))
 | a :: t,b :: t',u,v,h1,h2,h => by
  obtain ⟨e1,e2⟩ := List.cons.inj h
  obtain ⟨e3,e4⟩ := comma_split (fun k => h1 (List.mem_cons_of_mem _ k)) (fun k => h2 (List.mem_cons_of_mem _ k)) e2
  exact ⟨by rw [e1,e3],e4⟩
theorem itoa_comma (n : Int) : 44 ∉ Lib.itoa n := fun h => by
 have := itoa_byte n 44 h
 revert this; decide
theorem flat_inj {α : Type} {e : α -> List UInt8} {P : α -> Prop} (hne : ∀ x,e x ≠ []) (h : ∀ x y u v,P x -> P y -> e x ++ u = e y ++ v -> x = y /\ u = v) :
  ∀ {A B : List α},(∀ x ∈ A,P x) -> (∀ x ∈ B,P x) -> A.flatMap e = B.flatMap e -> A = B
 | [],[],_,_,_ => rfl
 | [],b :: B,_,_,hh => by
  exfalso
  rw [List.flatMap_cons] at hh
  exact hne b (List.append_eq_nil_iff.1 hh.symm).1
 | a :: A,[],_,_,hh => by
  exfalso
  rw [List.flatMap_cons] at hh
  exact hne a (List.append_eq_nil_iff.1 hh).1
 | a :: A,b :: B,ha,hb,hh => by
  rw [List.flatMap_cons,List.flatMap_cons] at hh
  obtain ⟨e1,e2⟩ := h a b _ _ (ha a (by simp)) (hb b (by simp)) hh
  rw [e1,flat_inj hne h (fun x hx => ha x (List.mem_cons_of_mem _ hx)) (fun x hx => hb x (List.mem_cons_of_mem _ hx)) e2]
def numsB (l : List Int) : List UInt8 := l.flatMap fun n => Lib.itoa n ++ [44]
theorem numsB_inj {A B : List Int} (h : numsB A = numsB B) : A = B := by
 refine flat_inj (P := fun _ => True) (fun x => by simp) (fun x y u v _ _ h => ?_) (fun _ _ => trivial) (fun _ _ => trivial) h
 simp only [List.append_assoc,List.singleton_append] at h
 obtain ⟨e1,e2⟩ := comma_split (itoa_comma x) (itoa_comma y) h
 exact ⟨itoa_inj e1,e2⟩
def okR (r : Int) : Prop := 0 <= r /\ r <= 1114111 /\ ¬ (55296 <= r /\ r <= 57343)
theorem u8_inj {a b : Int} (ha : 0 <= a /\ a < 256) (hb : 0 <= b /\ b < 256) (h : a.toNat.toUInt8 = b.toNat.toUInt8) : a = b := by
 have := congrArg UInt8.toNat h
 simp only [Nat.toUInt8_eq,UInt8.toNat_ofNat'] at this
 omega
theorem enc_pre {r r' : Int} (h : okR r) (h' : okR r') {x y : List UInt8} (e : Lib.encodeRune r ++ x = Lib.encodeRune r' ++ y) : r = r' /\ x = y := by
 unfold okR at h h'
 have sz : ∀ r : Int,0 <= r /\ r <= 1114111 /\ ¬ (55296 <= r /\ r <= 57343) ->
   (r <= 127 /\ Lib.encodeRuneZ r = [r]) \/ (128 <= r /\ r <= 2047 /\ Lib.encodeRuneZ r = [192 + r / 64,128 + r % 64]) \/
   (2048 <= r /\ r <= 65535 /\ Lib.encodeRuneZ r = [224 + r / 4096,128 + r / 64 % 64,128 + r % 64]) \/
   (65536 <= r /\ Lib.encodeRuneZ r = [240 + r / 262144,128 + r / 4096 % 64,128 + r / 64 % 64,128 + r % 64]) := fun r h => by
  by_cases h1 : r <= 127
  ·exact .inl ⟨h1,Lib.encodeRuneZ_one (by omega) h1⟩
  ·by_cases h2 : r <= 2047
   ·exact .inr (.inl ⟨by omega,h2,Lib.encodeRuneZ_two (by omega) h2⟩)
   ·by_cases h3 : r <= 65535
    ·exact .inr (.inr (.inl ⟨by omega,h3,Lib.encodeRuneZ_three (by omega)⟩))
    ·exact .inr (.inr (.inr ⟨by omega,Lib.encodeRuneZ_four (by omega) (by omega)⟩))
 unfold Lib.encodeRune at e
 rcases sz r h with ⟨h1,e1⟩ | ⟨h1,h2,e1⟩ | ⟨h1,h2,e1⟩ | ⟨h1,e1⟩ <;> rcases sz r' h' with ⟨k1,e2⟩ | ⟨k1,k2,e2⟩ | ⟨k1,k2,e2⟩ | ⟨k1,e2⟩ <;> rw [e1,e2] at e <;>
  simp only [List.map_cons,List.map_nil,List.cons_append,List.nil_append,List.cons.injEq] at e
 all_goals first
  | (exfalso; have := u8_inj (by omega) (by omega) e.1; omega)
  | (obtain ⟨a1,a2,a3,a4,a5⟩ := e
     have b1 := u8_inj (by omega) (by omega) a1
     have b2 := u8_inj (by omega) (by omega) a2
     have b3 := u8_inj (by omega) (by omega) a3
     have b4 := u8_inj (by omega) (by omega) a4
     exact ⟨by omega,a5⟩)
  | (obtain ⟨a1,a2,a3,a4⟩ := e
     have b1 := u8_inj (by omega) (by omega) a1
     have b2 := u8_inj (by omega) (by omega) a2
     have b3 := u8_inj (by omega) (by omega) a3
     exact ⟨by omega,a4⟩)
  | (obtain ⟨a1,a2,a3⟩ := e
     have b1 := u8_inj (by omega) (by omega) a1
     have b2 := u8_inj (by omega) (by omega) a2
     exact ⟨by omega,a3⟩)
  | (obtain ⟨a1,a2⟩ := e
     have b1 := u8_inj (by omega) (by omega) a1
     exact ⟨by omega,a2⟩)
def encL (l : List Int) : List UInt8 := l.flatMap Lib.encodeRune
theorem encL_pre : ∀ {A B : List Int} {x y : List UInt8},(∀ r ∈ A,okR r) -> (∀ r ∈ B,okR r) -> encL A ++ x = encL B ++ y -> (∃ t,B = A ++ t /\ x = encL t ++ y) \/ ∃ t,A = B ++ t /\ y = encL t ++ x
 | [],B,x,y,_,_,h => .inl ⟨B,rfl,by simpa [encL] using h⟩
 | a :: A,[],x,y,_,_,h => .inr ⟨a :: A,rfl,by simpa [encL] using h.symm⟩
 | a :: A,b :: B,x,y,ha,hb,h => by
  simp only [encL,List.flatMap_cons,List.append_assoc] at h
  obtain ⟨e1,e2⟩ := enc_pre (ha a (by simp)) (hb b (by simp)) h
  subst e1
  rcases encL_pre (fun r hr => ha r (List.mem_cons_of_mem _ hr)) (fun r hr => hb r (List.mem_cons_of_mem _ hr)) e2 with ⟨t,h1,h2⟩ | ⟨t,h1,h2⟩
  ·exact .inl ⟨t,by rw [h1]; rfl,h2⟩
  ·exact .inr ⟨t,by rw [h1]; rfl,h2⟩
def sgF (s : ByteArray) : Nat -> Nat -> List Int
 | 0,_ => []
 | f + 1,p => if p < s.size then ((Utf8.decode s p).1 : Int) :: sgF s f (p + (Utf8.decode s p).2) else []
def sgS (s : ByteArray) : List Int := sgF s s.size 0
theorem sg_end {s : ByteArray} {f p : Nat} (h : ¬ p < s.size) : sgF s f p = [] := by
 cases f with
 | zero => rfl
 | succ f => simp only [sgF,if_neg h]
theorem data_drop_ne {s : ByteArray} {p : Nat} (h : p < s.size) : s.data.toList.drop p ≠ [] := by
 intro e
 have := congrArg List.length e
 simp at this
 have : s.data.size = s.size := rfl
 omega
theorem sg_ok {s : ByteArray} {p : Nat} (hp : p < s.size) (hv : ¬ ((Utf8.decode s p).1 = 65533 /\ (Utf8.decode s p).2 = 1)) : okR ((Utf8.decode s p).1 : Int) := by
 have h0 := Lib.decodeL_drop s p
 have hne := data_drop_ne hp
 have h1 := Lib.decodeL_N (s.data.toList.drop p)
 have hl : 1 <= (s.data.toList.drop p).length := List.length_pos_iff.2 hne
 have h2 := oneN_ok hl ((s.data.toList.drop p).getD 0 0).toNat_lt ((s.data.toList.drop p).getD 1 0).toNat_lt ((s.data.toList.drop p).getD 2 0).toNat_lt ((s.data.toList.drop p).getD 3 0).toNat_lt
 rw [<- h1,h0,if_neg hv] at h2
 have hw := Lib.decode_width_pos s p hp
 unfold oneN at h2
 split at h2
 ·rw [<- h2] at hw; simp at hw
 ·split at h2
  ·rename_i hs
   rw [Bool.and_eq_true] at hs
   have := of_decide_eq_true hs.1
   rw [<- h2]
   unfold okR
   dsimp only
   omega
  ·rw [<- h2] at hw; simp at hw
theorem sgF_ok {s : ByteArray} : ∀ {f p : Nat},rightFrom s f p = true -> ∀ r ∈ sgF s f p,okR r
 | 0,_,_,r,hr => by cases hr
 | f + 1,p,h,r,hr => by
  simp only [rightFrom,sgF] at h hr
  split at hr
  ·rename_i hp
   rw [if_pos hp] at h
   split at h
   ·cases h
   ·rename_i hv
    rcases List.mem_cons.1 hr with rfl | hr
    ·exact sg_ok hp hv
    ·exact sgF_ok h r hr
  ·cases hr
theorem sgF_bytes {s : ByteArray} : ∀ {f p : Nat},rightFrom s f p = true -> s.size - p <= f -> encL (sgF s f p) = s.data.toList.drop p
 | 0,p,_,h => by
  have : s.data.toList.drop p = [] := List.drop_of_length_le (by
   have : s.data.toList.length = s.size := by simp
   omega)
  rw [this]; rfl
 | f + 1,p,h,hf => by
  simp only [rightFrom,sgF] at h ⊢
  split
  ·rename_i hp
   rw [if_pos hp] at h
   split at h
   ·cases h
   ·rename_i hv
    have hw := Lib.decode_width_pos s p hp
    have ih := sgF_bytes h (by omega)
    have h0 := Lib.decodeL_drop s p
    have he := Lib.encode_decode (s.data.toList.drop p) (data_drop_ne hp) (by rw [h0]; exact hv)
    rw [h0] at he
    simp only [encL,List.flatMap_cons] at ih ⊢
    rw [ih,he,<- List.drop_drop,List.take_append_drop]
  ·rename_i hp
   have : s.data.toList.drop p = [] := List.drop_of_length_le (by
    have : s.data.toList.length = s.size := by simp
    omega)
   rw [this]; rfl
theorem sgS_inj {s t : ByteArray} (hs : rightS s = true) (ht : rightS t = true) (h : sgS s = sgS t) : s = t := by
 have h1 := sgF_bytes (p := 0) hs (by omega)
 have h2 := sgF_bytes (p := 0) ht (by omega)
 unfold sgS at h
 rw [h,h2] at h1
 simp only [List.drop_zero] at h1
 cases s; cases t
 simp only [ByteArray.mk.injEq]
 exact (Array.toList_inj.1 h1).symm
def hexR (n : Int) : Int := if n < 10 then 48 + n else 87 + n
def pcR (r : Int) : List Int :=
 if r = 10 then [92,110] else if r = 9 then [92,116] else if r = 13 then [92,114]
 else if r = 34 \/ r = 92 then [92,r] else if 32 <= r /\ r ≠ 127 then [r] else [92,120,hexR (r / 16),hexR (r % 16)]
theorem pc_ok {r : Int} (h : okR r) : ∀ x ∈ pcR r,okR x := by
 unfold okR at h
 have k : ∀ x : Int,0 <= x -> x <= 127 -> okR x := fun x h1 h2 => by unfold okR; omega
 unfold pcR
 intro x hx
 split at hx
 ·simp only [List.mem_cons,List.not_mem_nil,or_false] at hx; exact k x (by omega) (by omega)
 ·split at hx
  ·simp only [List.mem_cons,List.not_mem_nil,or_false] at hx; exact k x (by omega) (by omega)
  ·split at hx
   ·simp only [List.mem_cons,List.not_mem_nil,or_false] at hx; exact k x (by omega) (by omega)
   ·split at hx
    ·simp only [List.mem_cons,List.not_mem_nil,or_false] at hx; exact k x (by omega) (by omega)
    ·split at hx
     ·simp only [List.mem_singleton] at hx; subst hx; exact h
     ·simp only [List.mem_cons,List.not_mem_nil,or_false] at hx
      unfold hexR at hx
      refine k x ?_ ?_
      ·split at hx <;> split at hx <;> omega
      ·split at hx <;> split at hx <;> omega
theorem pc_pre {r r' : Int} {t : List Int} (h0 : 0 <= r) (h1 : 0 <= r') (h : pcR r' = pcR r ++ t) : r = r' /\ t = [] := by
 unfold pcR hexR at h
 (repeat' split at h) <;> simp only [List.cons_append,List.nil_append,List.cons.injEq,List.nil_eq,reduceCtorEq,and_false,false_and] at h <;> first | (exfalso; omega) | exact ⟨by omega,by simp_all⟩
theorem pc_head {r : Int} : ∃ a t,pcR r = a :: t /\ a ≠ 34 := by
 unfold pcR
 (repeat' split) <;> exact ⟨_,_,rfl,by omega⟩
theorem pcL_pre : ∀ {A B : List Int} {x y : List UInt8},(∀ r ∈ A,okR r) -> (∀ r ∈ B,okR r) -> encL (A.flatMap pcR) ++ 34 :: x = encL (B.flatMap pcR) ++ 34 :: y -> A = B /\ x = y
 | [],[],x,y,_,_,h => ⟨rfl,(List.cons.inj h).2⟩
 | [],b :: B,x,y,_,hb,h => by
  exfalso
  obtain ⟨a,t,e1,e2⟩ := pc_head (r := b)
  have ok : okR a := pc_ok (hb b (by simp)) a (by rw [e1]; simp)
  rw [List.flatMap_cons,e1] at h
  have h34 : Lib.encodeRune 34 = [34] := by decide
  have := enc_pre (r := 34) (r' := a) (x := x) (y := encL (t ++ B.flatMap pcR) ++ 34 :: y) (by unfold okR; omega) ok (by
   rw [h34]; simpa [encL] using h)
  exact e2 this.1.symm
 | a :: A,[],x,y,ha,_,h => by
  exfalso
  obtain ⟨b,t,e1,e2⟩ := pc_head (r := a)
  have ok : okR b := pc_ok (ha a (by simp)) b (by rw [e1]; simp)
  rw [List.flatMap_cons,e1] at h
  have h34 : Lib.encodeRune 34 = [34] := by decide
  have := enc_pre (r := 34) (r' := b) (x := y) (y := encL (t ++ A.flatMap pcR) ++ 34 :: x) (by unfold okR; omega) ok (by
   rw [h34]; simpa [encL] using h.symm)
  exact e2 this.1.symm
 | a :: A,b :: B,x,y,ha,hb,h => by
  have oa := ha a (by simp)
  have ob := hb b (by simp)
  simp only [List.flatMap_cons,encL,List.flatMap_append,List.append_assoc] at h
  have key : a = b := by
   rcases encL_pre (A := pcR a) (B := pcR b) (pc_ok oa) (pc_ok ob) h with ⟨t,h1,_⟩ | ⟨t,h1,_⟩
   ·exact (pc_pre oa.1 ob.1 h1).1
   ·exact (pc_pre ob.1 oa.1 h1).1.symm
  subst key
  obtain ⟨e1,e2⟩ := pcL_pre (fun r hr => ha r (List.mem_cons_of_mem _ hr)) (fun r hr => hb r (List.mem_cons_of_mem _ hr)) (List.append_cancel_left h)
  exact ⟨by rw [e1],e2⟩
def quoB (s : ByteArray) : List UInt8 := 34 :: (encL ((sgS s).flatMap pcR) ++ [34])
theorem quoB_pre {s t : ByteArray} {x y : List UInt8} (hs : rightS s = true) (ht : rightS t = true) (h : quoB s ++ x = quoB t ++ y) : s = t /\ x = y := by
 unfold quoB at h
 simp only [List.cons_append,List.cons.injEq,true_and,List.append_assoc,List.singleton_append,List.nil_append] at h
 obtain ⟨e1,e2⟩ := pcL_pre (sgF_ok hs) (sgF_ok ht) h
 exact ⟨sgS_inj hs ht e1,e2⟩
def boolB (b : Bool) : List UInt8 := if b then [116,114,117,101] else [102,97,108,115,101]
def scB (x : Sc) : List UInt8 :=
 if x.k = 0 then [110,117,108,108] else if x.k = 1 then boolB (decide (x.n = 1)) else if x.k = 2 then Lib.itoa x.n else quoB x.s
theorem prR_kind {R : ByteArray -> Bool} {x : Sc} (h : prR R x = true) : (x.k = 0 /\ x = ⟨0,0,⟨#[]⟩⟩) \/ (x.k = 1 /\ x.s = ⟨#[]⟩ /\ (x.n = 0 \/ x.n = 1)) \/ (x.k = 2 /\ x.s = ⟨#[]⟩ /\ -maxNum <= x.n /\ x.n <= maxNum) \/ (x.k = 3 /\ x.n = 0 /\ R x.s = true) := by
 unfold prR at h
 split at h
 ·exact .inl ⟨‹_›,of_decide_eq_true h⟩
 ·split at h
  ·simp only [Bool.and_eq_true,Bool.or_eq_true,decide_eq_true_eq] at h
   exact .inr (.inl ⟨‹_›,h⟩)
  ·split at h
   ·simp only [Bool.and_eq_true,decide_eq_true_eq] at h
    exact .inr (.inr (.inl ⟨‹_›,h⟩))
   ·split at h
    ·simp only [Bool.and_eq_true,decide_eq_true_eq] at h
     exact .inr (.inr (.inr ⟨‹_›,h⟩))
    ·cases h
theorem scB_bare {x : Sc} (h : prR rightS x = true) (hk : x.k ≠ 3) : 44 ∉ scB x /\ ∃ b t,scB x = b :: t /\ b ≠ 34 := by
 unfold scB boolB
 rcases prR_kind h with ⟨h1,h2⟩ | ⟨h1,h2,h3⟩ | ⟨h1,h2,h3⟩ | ⟨h1,_⟩
 ·rw [if_pos h1]; exact ⟨by decide,_,_,rfl,by decide⟩
 ·rw [if_neg (by omega),if_pos h1]
  split
  ·exact ⟨by decide,_,_,rfl,by decide⟩
  ·exact ⟨by decide,_,_,rfl,by decide⟩
 ·rw [if_neg (by omega),if_neg (by omega),if_pos h1]
  refine ⟨itoa_comma _,?_⟩
  cases e : Lib.itoa x.n with
  | nil => exact absurd e (itoa_ne _)
  | cons b t =>
   refine ⟨b,t,rfl,fun hb => ?_⟩
   have := itoa_byte x.n b (by rw [e]; simp)
   rw [hb] at this
   revert this; decide
 ·exact absurd h1 hk
theorem sc_ext {x y : Sc} (h1 : x.k = y.k) (h2 : x.n = y.n) (h3 : x.s = y.s) : x = y := by
 cases x; cases y; simp only at h1 h2 h3; subst h1; subst h2; subst h3; rfl
theorem scB_inj {x y : Sc} (hx : prR rightS x = true) (hy : prR rightS y = true) (kx : x.k ≠ 3) (ky : y.k ≠ 3) (h : scB x = scB y) : x = y := by
 have no : ∀ (n : Int) (b : UInt8) (t : List UInt8),57 < b.toNat -> Lib.itoa n ≠ b :: t := fun n b t hb e => by
  have := itoa_byte n b (by rw [e]; simp)
  rcases this with rfl | this
  ·revert hb; decide
  ·omega
 have q0 : ∀ z : Sc,z.k = 0 -> scB z = [110,117,108,108] := fun z hz => by unfold scB; rw [if_pos hz]
 have q1 : ∀ z : Sc,z.k = 1 -> scB z = boolB (decide (z.n = 1)) := fun z hz => by unfold scB; rw [if_neg (by omega),if_pos hz]
 have q2 : ∀ z : Sc,z.k = 2 -> scB z = Lib.itoa z.n := fun z hz => by unfold scB; rw [if_neg (by omega),if_neg (by omega),if_pos hz]
 have hb : ∀ b : Bool,boolB b = [116,114,117,101] \/ boolB b = [102,97,108,115,101] := fun b => by cases b <;> simp [boolB]
 have b0 : ∀ b : Bool,boolB b ≠ [110,117,108,108] := fun b => by cases b <;> decide
 have bn : ∀ (b : Bool) (n : Int),Lib.itoa n ≠ boolB b := fun b n => by
  rcases hb b with e | e <;> rw [e]
  ·exact no _ _ _ (by decide)
  ·exact no _ _ _ (by decide)
 rcases prR_kind hx with ⟨h1,h2⟩ | ⟨h1,h2,h3⟩ | ⟨h1,h2,h3⟩ | ⟨h1,_⟩ <;> rcases prR_kind hy with ⟨k1,k2⟩ | ⟨k1,k2,k3⟩ | ⟨k1,k2,k3⟩ | ⟨k1,_⟩
 all_goals try contradiction
 ·exact h2.trans k2.symm
 ·rw [q0 x h1,q1 y k1] at h; exact absurd h.symm (b0 _)
 ·rw [q0 x h1,q2 y k1] at h; exact absurd h.symm (no _ _ _ (by decide))
 ·rw [q1 x h1,q0 y k1] at h; exact absurd h (b0 _)
 ·rw [q1 x h1,q1 y k1] at h
  have hn : x.n = y.n := by
   rcases h3 with h3 | h3 <;> rcases k3 with k3 | k3 <;> rw [h3,k3] at h ⊢
   ·exact absurd h (by decide)
   ·exact absurd h (by decide)
  exact sc_ext (h1.trans k1.symm) hn (h2.trans k2.symm)
 ·rw [q1 x h1,q2 y k1] at h; exact absurd h.symm (bn _ _)
 ·rw [q2 x h1,q0 y k1] at h; exact absurd h (no _ _ _ (by decide))
 ·rw [q2 x h1,q1 y k1] at h; exact absurd h (bn _ _)
 ·rw [q2 x h1,q2 y k1] at h; exact sc_ext (h1.trans k1.symm) (itoa_inj h) (h2.trans k2.symm)
theorem scB_pre {x y : Sc} {u v : List UInt8} (hx : prR rightS x = true) (hy : prR rightS y = true) (h : (scB x ++ [44]) ++ u = (scB y ++ [44]) ++ v) : x = y /\ u = v := by
 simp only [List.append_assoc,List.singleton_append] at h
 have q3 : ∀ z : Sc,z.k = 3 -> scB z = quoB z.s := fun z hz => by unfold scB; rw [if_neg (by omega),if_neg (by omega),if_neg (by omega)]
 by_cases kx : x.k = 3 <;> by_cases ky : y.k = 3
 ·rw [q3 x kx,q3 y ky] at h
  rcases prR_kind hx with ⟨h1,_⟩ | ⟨h1,_⟩ | ⟨h1,_⟩ | ⟨_,h1,h2⟩ <;> rcases prR_kind hy with ⟨k1,_⟩ | ⟨k1,_⟩ | ⟨k1,_⟩ | ⟨_,k1,k2⟩ <;> try omega
  obtain ⟨e1,e2⟩ := quoB_pre h2 k2 h
  exact ⟨sc_ext (kx.trans ky.symm) (h1.trans k1.symm) e1,(List.cons.inj e2).2⟩
 ·obtain ⟨_,b,t,e1,e2⟩ := scB_bare hy ky
  rw [q3 x kx,e1] at h
  exact absurd (List.cons.inj h).1.symm e2
 ·obtain ⟨_,b,t,e1,e2⟩ := scB_bare hx kx
  rw [q3 y ky,e1] at h
  exact absurd (List.cons.inj h).1 e2
 ·obtain ⟨e1,e2⟩ := comma_split (scB_bare hx kx).1 (scB_bare hy ky).1 h
  exact ⟨scB_inj hx hy kx ky e1,e2⟩
def keysB (l : List Sc) : List UInt8 := l.flatMap fun x => scB x ++ [44]
theorem keysB_inj {A B : List Sc} (ha : ∀ x ∈ A,prR rightS x = true) (hb : ∀ x ∈ B,prR rightS x = true) (h : keysB A = keysB B) : A = B :=
 flat_inj (P := fun x => prR rightS x = true) (fun x => by simp) (fun x y u v hx hy h => scB_pre hx hy h) ha hb h
structure Fine (l : List Nd) : Prop where
 node : ∀ x ∈ l,nodeR rightS x l.length = true
 small : ∀ x ∈ l,x.keys.length <= 12 /\ x.kids.length <= 12
theorem Good.fine {g : Gr} (h : Good g) : Fine g.l := ⟨(chk_ok h.c).2.2,h.s⟩
abbrev kdL (l : List Nd) (i : Int) : List Int := kidsOf (ndAt l i)
def inL (l : List Nd) (i : Int) : Prop := 0 <= i /\ i < l.length
instance (l : List Nd) (i : Int) : Decidable (inL l i) := inferInstanceAs (Decidable (_ /\ _))
theorem inL_at {l : List Nd} {i : Int} (h : inL l i) : l[i.toNat]? = some (ndAt l i) := by
 unfold inL at h
 unfold ndAt
 rw [if_pos h]
 have : i.toNat < l.length := by omega
 rw [List.getElem?_eq_getElem this]; rfl
theorem at_inL {l : List Nd} {n : Nat} {x : Nd} (h : l[n]? = some x) : inL l n /\ ndAt l n = x := by
 have hn := (List.getElem?_eq_some_iff.1 h).1
 have hi : inL l n := ⟨by omega,by omega⟩
 refine ⟨hi,?_⟩
 have := inL_at hi
 rw [Int.toNat_natCast,h] at this
 exact (Option.some.inj this).symm
theorem Fine.at {l : List Nd} (h : Fine l) {i : Int} (hi : inL l i) : KidsOK (ndAt l i) l.length := kids_ok (h.node _ (node_at hi))
theorem Fine.kid {l : List Nd} (h : Fine l) (i : Int) : ∀ j ∈ kdL l i,inL l j := by
 by_cases hi : inL l i
 ·exact (h.at hi).inn
 ·intro j hj
  rw [kdL,node_off hi] at hj
  simp [kidsOf,pairsOf,Nd.zero] at hj
theorem Fine.klen {l : List Nd} (h : Fine l) (i : Int) : (kdL l i).length = (ndAt l i).kids.length := by
 by_cases hi : inL l i
 ·exact (h.at hi).len
 ·rw [kdL,node_off hi]; rfl
structure Bis (l m : List Nd) (R : Int -> Int -> Prop) : Prop where
 inn : ∀ a b,R a b -> inL l a /\ inL m b
 fit : ∀ a b,R a b -> fitN (ndAt l a) (ndAt m b) = true
 kid : ∀ a b,R a b -> ∀ (i : Nat) (p q : Int),(kdL l a)[i]? = some p -> (kdL m b)[i]? = some q -> R p q
def Sim (l m : List Nd) (a b : Int) : Prop := ∃ R,Bis l m R /\ R a b
section
variable {l m n : List Nd} {a b c : Int}
theorem sim_bis : Bis l m (Sim l m) := ⟨fun _ _ ⟨_,h,r⟩ => h.inn _ _ r,fun _ _ ⟨_,h,r⟩ => h.fit _ _ r,fun _ _ ⟨R,h,r⟩ i p q hp hq => ⟨R,h,h.kid _ _ r i p q hp hq⟩⟩
theorem Sim.inn (h : Sim l m a b) : inL l a /\ inL m b := sim_bis.inn _ _ h
theorem Sim.fit (h : Sim l m a b) : fitN (ndAt l a) (ndAt m b) = true := sim_bis.fit _ _ h
theorem Sim.kid (h : Sim l m a b) {i : Nat} {p q : Int} (hp : (kdL l a)[i]? = some p) (hq : (kdL m b)[i]? = some q) : Sim l m p q := sim_bis.kid _ _ h i p q hp hq
theorem Sim.klen (hl : Fine l) (hm : Fine m) (h : Sim l m a b) : (kdL l a).length = (kdL m b).length := by
 rw [hl.klen,hm.klen]; exact (fitN_iff.1 h.fit).2.2.2
theorem fitN_symm {x y : Nd} (h : fitN x y = true) : fitN y x = true := by
 obtain ⟨h1,h2,h3,h4⟩ := fitN_iff.1 h
 exact fitN_iff.2 ⟨h1.symm,h2.symm,h3.symm,h4.symm⟩
theorem fitN_trans {x y z : Nd} (h : fitN x y = true) (k : fitN y z = true) : fitN x z = true := by
 obtain ⟨h1,h2,h3,h4⟩ := fitN_iff.1 h
 obtain ⟨k1,k2,k3,k4⟩ := fitN_iff.1 k
 exact fitN_iff.2 ⟨h1.trans k1,h2.trans k2,h3.trans k3,h4.trans k4⟩
theorem fitN_refl (x : Nd) : fitN x x = true := fitN_iff.2 ⟨rfl,rfl,rfl,rfl⟩
theorem sim_refl (hl : Fine l) (ha : inL l a) : Sim l l a a :=
 ⟨fun x y => x = y /\ inL l x,⟨fun _ _ ⟨e,h⟩ => ⟨h,e ▸ h⟩,fun _ _ ⟨e,_⟩ => by subst e; exact fitN_refl _,fun x y ⟨e,_⟩ i p q hp hq => by
  subst e; rw [hp] at hq; cases hq; exact ⟨rfl,hl.kid _ _ (List.mem_of_getElem? hp)⟩⟩,rfl,ha⟩
theorem Sim.symm (h : Sim l m a b) : Sim m l b a := by
 obtain ⟨R,hR,r⟩ := h
 exact ⟨fun x y => R y x,⟨fun _ _ r => (hR.inn _ _ r).symm,fun _ _ r => fitN_symm (hR.fit _ _ r),fun _ _ r i p q hp hq => hR.kid _ _ r i q p hq hp⟩,r⟩
theorem Sim.trans (hl : Fine l) (hm : Fine m) (h : Sim l m a b) (k : Sim m n b c) : Sim l n a c := by
 refine ⟨fun x z => ∃ y,Sim l m x y /\ Sim m n y z,⟨fun x z ⟨y,h1,h2⟩ => ⟨h1.inn.1,h2.inn.2⟩,fun x z ⟨y,h1,h2⟩ => fitN_trans h1.fit h2.fit,fun x z ⟨y,h1,h2⟩ i p q hp hq => ?_⟩,b,h,k⟩
 obtain ⟨w,hw⟩ := at_lt (l := kdL m y) (i := i) (by rw [<- h1.klen hl hm]; exact (List.getElem?_eq_some_iff.1 hp).1)
 exact ⟨w,h1.kid hp hw,h2.kid hw hq⟩
end
structure Say where
 k : Int
 x : Sc
 keys : List Sc
 kids : List (Option Int)
 deriving DecidableEq
def sayN (x : Nd) (c : List Int) : Say := ⟨x.k,x.x,keysOf x,(kidsOf x).map fun j => c[j.toNat]?⟩
def sayF (l : List Nd) (c : List Int) : List Say := l.map fun x => sayN x c
abbrev zeros (n : Nat) : List Int := List.replicate n 0
def clsL (l : List Nd) : List Int := partF (sayF l) (l.length + 1) 0 (cnt (sayF l) (zeros l.length)) (rnd (sayF l) (zeros l.length))
theorem map_eq_iff {α β γ : Type} {f : α -> γ} {g : β -> γ} : ∀ {A : List α} {B : List β},A.map f = B.map g ↔ A.length = B.length /\ ∀ (i : Nat) (p : α) (q : β),A[i]? = some p -> B[i]? = some q -> f p = g q
 | [],[] => by simp
 | [],_ :: _ => by simp
 | _ :: _,[] => by simp
 | a :: A,b :: B => by
  simp only [List.map_cons,List.cons.injEq,List.length_cons,Nat.add_right_cancel_iff]
  rw [map_eq_iff]
  constructor
  ·rintro ⟨h,hl,hh⟩
   refine ⟨hl,fun i p q hp hq => ?_⟩
   cases i with
   | zero => simp at hp hq; subst hp; subst hq; exact h
   | succ i => exact hh i p q (by simpa using hp) (by simpa using hq)
  ·rintro ⟨hl,hh⟩
   exact ⟨hh 0 a b rfl rfl,hl,fun i p q hp hq => hh (i + 1) p q (by simpa using hp) (by simpa using hq)⟩
theorem say_iff {x y : Nd} {c : List Int} : sayN x c = sayN y c ↔ x.k = y.k /\ x.x = y.x /\ keysOf x = keysOf y /\ (kidsOf x).length = (kidsOf y).length /\ ∀ (i : Nat) (p q : Int),(kidsOf x)[i]? = some p -> (kidsOf y)[i]? = some q -> c[p.toNat]? = c[q.toNat]? := by
 unfold sayN
 rw [Say.mk.injEq,map_eq_iff]
section
variable {l : List Nd}
theorem sayF_at {c : List Int} {i : Int} (h : inL l i) : (sayF l c)[i.toNat]? = some (sayN (ndAt l i) c) := by unfold sayF; rw [List.getElem?_map,inL_at h]; rfl
theorem sayF_len (c : List Int) : (sayF l c).length = l.length := by simp [sayF]
theorem nat_inL {i : Nat} (h : i < l.length) : inL l i := ⟨by omega,by omega⟩
theorem Fine.parts (h : Fine l) : Parts (sayF l) l.length where
 len c := sayF_len c
 mono c d hk i j hi hj e := by
  have h1 := sayF_at (c := c) (nat_inL hi)
  have h2 := sayF_at (c := c) (nat_inL hj)
  have h3 := sayF_at (c := d) (nat_inL hi)
  have h4 := sayF_at (c := d) (nat_inL hj)
  rw [Int.toNat_natCast] at h1 h2 h3 h4
  rw [h1,h2] at e
  rw [h3,h4]
  obtain ⟨e1,e2,e3,e4,e5⟩ := say_iff.1 (Option.some.inj e)
  rw [say_iff.2 ⟨e1,e2,e3,e4,fun n p q hp hq => ?_⟩]
  have hp' := h.kid _ _ (List.mem_of_getElem? hp)
  have hq' := h.kid _ _ (List.mem_of_getElem? hq)
  unfold inL at hp' hq'
  exact hk _ _ (by omega) (by omega) (e5 n p q hp hq)
theorem clsL_len (h : Fine l) : (clsL l).length = l.length := by
 unfold clsL
 exact partF_inv (fun c => c.length = l.length) (fun c _ => h.parts.rlen c) _ _ _ _ (h.parts.rlen _)
theorem clsL_fix (h : Fine l) : rnd (sayF l) (clsL l) = clsL l := by
 unfold clsL
 refine h.parts.end_ _ _ _ _ (zeros l.length) rfl rfl (fun i j hi hj _ => ?_) (Nat.le_refl _) (Nat.zero_le _) (.inl rfl)
 simp [zeros,List.getElem?_replicate,hi,hj]
theorem cls_say (h : Fine l) {a b : Int} (ha : inL l a) (hb : inL l b) : (clsL l)[a.toNat]? = (clsL l)[b.toNat]? ↔ sayN (ndAt l a) (clsL l) = sayN (ndAt l b) (clsL l) := by
 have h1 := ha
 have h2 := hb
 unfold inL at h1 h2
 have := h.parts.ker (clsL l) (i := a.toNat) (j := b.toNat) (by omega) (by omega)
 rw [clsL_fix h,sayF_at ha,sayF_at hb] at this
 rw [this,Option.some.injEq]
theorem cls_bis (h : Fine l) : Bis l l fun a b => inL l a /\ inL l b /\ (clsL l)[a.toNat]? = (clsL l)[b.toNat]? where
 inn a b r := ⟨r.1,r.2.1⟩
 fit a b r := by
  obtain ⟨e1,e2,e3,e4,_⟩ := say_iff.1 ((cls_say h r.1 r.2.1).1 r.2.2)
  exact fitN_iff.2 ⟨e1,e2,e3,by rw [<- h.klen,<- h.klen]; exact e4⟩
 kid a b r i p q hp hq := by
  obtain ⟨_,_,_,_,e5⟩ := say_iff.1 ((cls_say h r.1 r.2.1).1 r.2.2)
  exact ⟨h.kid _ _ (List.mem_of_getElem? hp),h.kid _ _ (List.mem_of_getElem? hq),e5 i p q hp hq⟩
theorem cls_of_bis (h : Fine l) {R : Int -> Int -> Prop} (hR : Bis l l R) {a b : Int} (r : R a b) : (clsL l)[a.toNat]? = (clsL l)[b.toNat]? := by
 have step : ∀ c : List Int,(∀ a b,R a b -> c[a.toNat]? = c[b.toNat]?) -> ∀ a b,R a b -> (rnd (sayF l) c)[a.toNat]? = (rnd (sayF l) c)[b.toNat]? := fun c hc a b r => by
  obtain ⟨ha,hb⟩ := hR.inn a b r
  have h1 := ha
  have h2 := hb
  unfold inL at h1 h2
  rw [h.parts.ker c (by omega) (by omega),sayF_at ha,sayF_at hb,Option.some.injEq]
  obtain ⟨f1,f2,f3,f4⟩ := fitN_iff.1 (hR.fit a b r)
  exact say_iff.2 ⟨f1,f2,f3,by rw [<- h.klen,<- h.klen] at f4; exact f4,fun i p q hp hq => hc _ _ (hR.kid a b r i p q hp hq)⟩
 have := partF_inv (f := sayF l) (fun c => ∀ a b,R a b -> c[a.toNat]? = c[b.toNat]?) step (l.length + 1) 0 (cnt (sayF l) (zeros l.length)) (rnd (sayF l) (zeros l.length)) (step _ fun a b r => by
  obtain ⟨ha,hb⟩ := hR.inn a b r
  unfold inL at ha hb
  have e1 : a.toNat < l.length := by omega
  have e2 : b.toNat < l.length := by omega
  simp [zeros,List.getElem?_replicate,e1,e2])
 exact this a b r
theorem cls_iff (h : Fine l) {a b : Int} (ha : inL l a) (hb : inL l b) : (clsL l)[a.toNat]? = (clsL l)[b.toNat]? ↔ Sim l l a b :=
 ⟨fun e => ⟨_,cls_bis h,ha,hb,e⟩,fun ⟨_,hR,r⟩ => cls_of_bis h hR r⟩
theorem cls_ex (h : Fine l) {a : Int} (ha : inL l a) : ∃ c,(clsL l)[a.toNat]? = some c := by
 unfold inL at ha
 exact at_lt (by rw [clsL_len h]; omega)
theorem cls_rkp (h : Fine l) : clsL l = rkp (sayF l (clsL l)) := (clsL_fix h).symm
end
def shiftN (n : Int) (x : Nd) : Nd := ⟨x.k,x.x,x.keys,x.kids.map fun i => i + n⟩
def joinL (l m : List Nd) : List Nd := l ++ m.map (shiftN l.length)
section
variable {l m : List Nd} {a b : Int}
end
def simB (g h : Gr) : Bool := decide ((clsL (joinL g.l h.l))[g.root.toNat]? = (clsL (joinL g.l h.l))[(h.root + g.l.length).toNat]?)
theorem Good.in {g : Gr} (h : Good g) : inL g.l g.root := h.root
theorem Iso.sim {g h : Gr} (hg : Good g) (hh : Good h) {R : Int -> Int -> Prop} (H : Iso g h R) {a b : Int} (r : R a b) (ha : inL g.l a) (hb : inL h.l b) : Sim g.l h.l a b :=
 ⟨fun a b => R a b /\ inL g.l a /\ inL h.l b,⟨fun _ _ r => r.2,fun a b r => H.fit a b r.1,fun a b r i p q hp hq => ⟨H.kid a b r.1 (p,q) (at_pz hp hq),hg.fine.kid _ _ (List.mem_of_getElem? hp),hh.fine.kid _ _ (List.mem_of_getElem? hq)⟩⟩,r,ha,hb⟩
theorem Sim.path {g h : Gr} (hg : Fine g.l) (hh : Fine h.l) : ∀ {ps : List Int} {a b : Int},Sim g.l h.l a b -> (atF (kd g) ps a = none /\ atF (kd h) ps b = none) \/ ∃ c d,atF (kd g) ps a = some c /\ atF (kd h) ps b = some d /\ Sim g.l h.l c d
 | [],a,b,r => .inr ⟨a,b,rfl,rfl,r⟩
 | p :: ps,a,b,r => by
  simp only [atF]
  split
  ·have hl : (kd g a).length = (kd h b).length := r.klen hg hh
   by_cases hp : p.toNat < (kd g a).length
   ·obtain ⟨x,hx⟩ := at_lt hp
    obtain ⟨y,hy⟩ := at_lt (l := kd h b) (i := p.toNat) (by rw [<- hl]; exact hp)
    rw [hx,hy]
    exact Sim.path hg hh (r.kid hx hy)
   ·rw [List.getElem?_eq_none (by omega),List.getElem?_eq_none (l := kd h b) (by rw [<- hl]; omega)]
    exact .inl ⟨rfl,rfl⟩
  ·exact .inl ⟨rfl,rfl⟩
structure Near (l m : List Nd) (fr to : Int) : Prop where
 len : m.length = l.length
 fit : ∀ a,fitN (ndAt l a) (ndAt m a) = true
 kid : ∀ a (i : Nat) p q,(kdL l a)[i]? = some p -> (kdL m a)[i]? = some q -> q = p \/ (p = fr /\ q = to)
theorem Near.sim {l m : List Nd} {fr to : Int} (hl : Fine l) (hm : Fine m) (h : Near l m fr to) (hs : Sim l l fr to) {a : Int} (ha : inL l a) : Sim l m a a := by
 refine ⟨Sim l l,⟨fun a b r => ⟨r.inn.1,by have := r.inn.2; unfold inL at *; rw [h.len]; exact this⟩,fun a b r => fitN_trans r.fit (h.fit b),fun a b r i p q hp hq => ?_⟩,sim_refl hl ha⟩
 obtain ⟨y,hy⟩ := at_lt (l := kdL l b) (i := i) (by rw [<- r.klen hl hl]; exact (List.getElem?_eq_some_iff.1 hp).1)
 have hpy := r.kid hp hy
 rcases h.kid b i y q hy hq with rfl | ⟨rfl,rfl⟩
 ·exact hpy
 ·exact hpy.trans hl hl hs
def swapN (x : Nd) (k : Nat) (to : Int) : Nd := ⟨x.k,x.x,x.keys,x.kids.set k to⟩
def ordC : List Int -> Nat -> Prop
 | [],_ => True
 | c :: r,k => 0 <= c /\ c <= k /\ ordC r (if c < k then k else k + 1)
theorem drop_at {α : Type} {l : List α} {i : Nat} {a : α} (h : l[i]? = some a) : l.drop i = a :: l.drop (i + 1) := by
 obtain ⟨hi,rfl⟩ := List.getElem?_eq_some_iff.1 h
 exact List.drop_eq_getElem_cons hi
theorem ord_rkp {α : Type} [DecidableEq α] (l : List α) : ∀ (m i : Nat),i + m = l.length -> ordC ((rkp l).drop i) (ddp (l.take i)).length
 | 0,i,h => by rw [List.drop_eq_nil_of_le (by rw [rkp_len]; omega)]; trivial
 | m + 1,i,h => by
  obtain ⟨a,ha⟩ := at_lt (l := l) (i := i) (by omega)
  rw [drop_at (rkp_at ha)]
  have hn := rkp_next ha
  have ih := ord_rkp l m (i + 1) (by omega)
  split at hn
  ·refine ⟨by omega,by omega,?_⟩
   rw [if_pos (by omega),<- hn.2]; exact ih
  ·refine ⟨by omega,by omega,?_⟩
   rw [if_neg (by omega)]
   rw [hn.2,List.length_append] at ih
   exact ih
theorem cls_ord {l : List Nd} (h : Fine l) : ordC (clsL l) 0 := by
 have := ord_rkp (sayF l (clsL l)) (sayF l (clsL l)).length 0 (by omega)
 rwa [<- cls_rkp h] at this
def nxtC : List Int -> Nat -> Nat
 | [],k => k
 | c :: r,k => nxtC r (if c < k then k else k + 1)
theorem ordC_at : ∀ {l : List Int} {k i : Nat} {c : Int},ordC l k -> l[i]? = some c -> 0 <= c /\ c <= nxtC (l.take i) k /\ nxtC (l.take (i + 1)) k = if c < nxtC (l.take i) k then nxtC (l.take i) k else nxtC (l.take i) k + 1
 | x :: r,k,0,c,h,e => by
  obtain rfl : x = c := by simpa using e
  exact ⟨h.1,h.2.1,by simp [nxtC]⟩
 | x :: r,k,i + 1,c,h,e => by
  have := ordC_at (i := i) h.2.2 (by simpa using e)
  simpa [nxtC] using this
def mapN (f : Int -> Int) (x : Nd) : Nd := ⟨x.k,x.x,keysOf x,(kidsOf x).map f⟩
theorem mapN_kids {x : Nd} {n : Int} (h : nodeR rightS x n = true) (f : Int -> Int) : kidsOf (mapN f x) = (kidsOf x).map f /\ keysOf (mapN f x) = keysOf x := by
 by_cases hk : x.k = 2
 ·obtain ⟨h1,h2,_⟩ := map_right h hk
  have hp := pairsOf_map hk h1
  have hlt : (srt (zips x)).Pairwise lt1 := srt_lt (by rw [zips_key h1]; exact h2)
  have hkeys : keysOf x = (srt (zips x)).map Pr.key := by unfold keysOf; rw [hp]
  have hkids : kidsOf x = (srt (zips x)).map Pr.kid := by unfold kidsOf; rw [if_neg (by omega),hp]
  have hz : zips (mapN f x) = (srt (zips x)).map fun p => ⟨p.key,f p.kid⟩ := by
   have := zips_of (l := srt (zips x)) (f := f)
   rw [zips_eq] at this ⊢
   simp only [mapN]
   rw [hkeys,hkids]
   exact this
  have hlt2 : ((srt (zips x)).map fun p => (⟨p.key,f p.kid⟩ : Pr)).Pairwise lt1 := by
   rw [List.pairwise_map]
   exact hlt.imp fun {a b} hab => hab
  have hp2 : pairsOf (mapN f x) = (srt (zips x)).map fun p => ⟨p.key,f p.kid⟩ := by
   have hlen : (mapN f x).keys.length = (mapN f x).kids.length := by simp only [mapN]; rw [hkeys,hkids]; simp
   rw [pairsOf_map (x := mapN f x) hk hlen,hz,srt_id hlt2]
  constructor
  ·unfold kidsOf
   rw [if_neg (show ¬ (mapN f x).k = 1 by simp only [mapN]; omega),if_neg (show ¬ x.k = 1 by omega),hp2,hp]
   simp
  ·unfold keysOf
   rw [hp2,hp]
   simp
 ·have hp := pairsOf_other hk
  have hp2 : pairsOf (mapN f x) = [] := pairsOf_other (x := mapN f x) hk
  constructor
  ·unfold kidsOf
   rw [hp2,hp]
   show (if x.k = 1 then (kidsOf x).map _ else _) = _
   unfold kidsOf
   rw [hp]
   split
   ·rfl
   ·rfl
  ·unfold keysOf; rw [hp2,hp]
theorem mapN_right {x : Nd} {n m : Int} {f : Int -> Int} (h : nodeR rightS x n = true) (hw : ∀ j ∈ kidsOf x,0 <= f j /\ f j < m) : nodeR rightS (mapN f x) m = true := by
 have hin : kidsIn ((kidsOf x).map f) m = true := kidsIn_of fun i hi => by
  obtain ⟨j,hj,rfl⟩ := List.mem_map.1 hi
  exact hw j hj
 obtain ⟨_,k2,k3,k4,_,_⟩ := kids_ok h
 rcases kind_right h with hk | hk | hk
 ·have h1 := rightS_one h hk
  have h2 := one_right h hk
  unfold nodeR
  rw [if_pos (show (mapN f x).k = 0 from hk)]
  have e1 : keysOf x = [] := k4 (by omega)
  have e2 : kidsOf x = [] := by rw [<- List.length_eq_zero_iff,k2,h2.2]; rfl
  simp [oneR,mapN,h1,e1,e2]
 ·have h1 := rightS_seq h hk
  unfold nodeR
  rw [if_neg (show ¬ (mapN f x).k = 0 by simp only [mapN]; omega),if_pos (show (mapN f x).k = 1 from hk)]
  have e1 : keysOf x = [] := k4 (by omega)
  simp only [seqR,mapN,h1,e1,hin]
  rfl
 ·obtain ⟨h0,h1⟩ := rightS_keys h hk
  obtain ⟨m1,m2,_⟩ := map_right h hk
  unfold nodeR
  rw [if_neg (show ¬ (mapN f x).k = 0 by simp only [mapN]; omega),if_neg (show ¬ (mapN f x).k = 1 by simp only [mapN]; omega),if_pos (show (mapN f x).k = 2 from hk)]
  have hpk : (keysOf x).Perm x.keys := by
   unfold keysOf
   rw [pairsOf_map hk m1]
   have := (srt_perm (zips x)).map Pr.key
   rwa [zips_key m1] at this
  have e1 : (keysOf x).all (prR rightS) = true := by
   rw [List.all_eq_true] at h0 ⊢
   exact fun a ha => h0 a (hpk.mem_iff.1 ha)
  have e2 : (keysOf x).Nodup := hpk.nodup_iff.2 m2
  have e3 : (keysOf x).length = (kidsOf x).length := k3 hk
  simp only [mapR,keysR,mapN,h1,hin,e1,e3,List.length_map]
  simp [e2]
theorem mapN_small {x : Nd} (f : Int -> Int) (h : x.keys.length <= 12 /\ x.kids.length <= 12) : (mapN f x).keys.length <= 12 /\ (mapN f x).kids.length <= 12 := by
 have := pairsOf_len x
 refine ⟨?_,?_⟩
 ·simp only [mapN,keysOf,List.length_map]; omega
 ·simp only [mapN,List.length_map]; exact kidsOf_len x 12 h
def fstK : List Int -> Nat -> Nat -> List Int
 | [],_,_ => []
 | c :: r,k,i => if c < k then fstK r k (i + 1) else (i : Int) :: fstK r (k + 1) (i + 1)
theorem fstK_at : ∀ {r : List Int} {k i j : Nat} {a : Int},ordC r k -> (fstK r k i)[j]? = some a -> ∃ m : Nat,a = ((i + m : Nat) : Int) /\ r[m]? = some ((k + j : Nat) : Int)
 | [],_,_,_,_,_,e => by simp [fstK] at e
 | c :: r,k,i,j,a,h,e => by
  obtain ⟨h1,h2,h3⟩ := h
  simp only [fstK] at e
  split at e
  ·rename_i hc
   rw [if_pos hc] at h3
   obtain ⟨m,e1,e2⟩ := fstK_at h3 e
   exact ⟨m + 1,by rw [e1]; omega,by simpa using e2⟩
  ·rename_i hc
   rw [if_neg hc] at h3
   cases j with
   | zero => exact ⟨0,by simpa using e.symm,by simp; omega⟩
   | succ j =>
    obtain ⟨m,e1,e2⟩ := fstK_at h3 (by simpa using e)
    exact ⟨m + 1,by rw [e1]; omega,by rw [List.getElem?_cons_succ,e2]; congr 1; omega⟩
theorem fstK_lt : ∀ {r : List Int} {k i : Nat},ordC r k -> ∀ c ∈ r,0 <= c /\ c < ((k + (fstK r k i).length : Nat) : Int)
 | [],_,_,_,_,hc => by cases hc
 | x :: r,k,i,h,c,hc => by
  obtain ⟨h1,h2,h3⟩ := h
  simp only [fstK]
  split
  ·rename_i hx
   rw [if_pos hx] at h3
   rcases List.mem_cons.1 hc with rfl | hc
   ·exact ⟨h1,by omega⟩
   ·exact fstK_lt h3 c hc
  ·rename_i hx
   rw [if_neg hx] at h3
   rw [List.length_cons]
   rcases List.mem_cons.1 hc with rfl | hc
   ·exact ⟨h1,by omega⟩
   ·have := fstK_lt (i := i + 1) h3 c hc
    exact ⟨this.1,by omega⟩
theorem fstK_len : ∀ (r : List Int) (k i : Nat),(fstK r k i).length <= r.length
 | [],_,_ => Nat.le_refl _
 | c :: r,k,i => by
  simp only [fstK]
  split
  ·have := fstK_len r k (i + 1); rw [List.length_cons]; omega
  ·have := fstK_len r (k + 1) (i + 1); rw [List.length_cons,List.length_cons]; omega
noncomputable def fstL (l : List Nd) : List Int := fstK (clsL l) 0 0
noncomputable def clsA (l : List Nd) (i : Int) : Int := (clsL l)[i.toNat]?.getD 0
noncomputable def wholeG (g : Gr) : Gr := ⟨clsA g.l g.root,(fstL g.l).map fun i => mapN (clsA g.l) (ndAt g.l i)⟩
section
variable {l : List Nd} {g h : Gr}
theorem clsA_at (h : Fine l) {i : Int} (hi : inL l i) : (clsL l)[i.toNat]? = some (clsA l i) := by
 obtain ⟨c,hc⟩ := cls_ex h hi
 unfold clsA
 rw [hc]; rfl
theorem clsA_iff (h : Fine l) {i j : Int} (hi : inL l i) (hj : inL l j) : clsA l i = clsA l j ↔ Sim l l i j := by
 rw [<- cls_iff h hi hj,clsA_at h hi,clsA_at h hj,Option.some.injEq]
theorem clsA_lt (h : Fine l) {i : Int} (hi : inL l i) : 0 <= clsA l i /\ clsA l i < (fstL l).length := by
 have := fstK_lt (i := 0) (cls_ord h) _ (List.mem_of_getElem? (clsA_at h hi))
 rwa [Nat.zero_add] at this
theorem fst_at (h : Fine l) {j : Nat} {a : Int} (e : (fstL l)[j]? = some a) : inL l a /\ clsA l a = j := by
 obtain ⟨m,e1,e2⟩ := fstK_at (cls_ord h) e
 rw [Nat.zero_add] at e1 e2
 have hm := (List.getElem?_eq_some_iff.1 e2).1
 rw [clsL_len h] at hm
 have ha : inL l a := ⟨by omega,by omega⟩
 refine ⟨ha,?_⟩
 have := clsA_at h ha
 rw [e1,Int.toNat_natCast,e2] at this
 rw [e1]; exact (Option.some.inj this).symm
theorem fst_of (h : Fine l) {i : Int} (hi : inL l i) : ∃ a,(fstL l)[(clsA l i).toNat]? = some a /\ inL l a /\ Sim l l i a := by
 have hlt := clsA_lt h hi
 obtain ⟨a,ha⟩ := at_lt (l := fstL l) (i := (clsA l i).toNat) (by omega)
 obtain ⟨h1,h2⟩ := fst_at h ha
 exact ⟨a,ha,h1,(clsA_iff h hi h1).1 (by rw [h2]; omega)⟩
theorem whole_len (g : Gr) : (wholeG g).l.length = (fstL g.l).length := by simp [wholeG]
theorem whole_at {j : Nat} {a : Int} (e : (fstL g.l)[j]? = some a) : ndAt (wholeG g).l j = mapN (clsA g.l) (ndAt g.l a) := by
 have hj := (List.getElem?_eq_some_iff.1 e).1
 unfold ndAt
 rw [if_pos (by rw [whole_len]; omega),Int.toNat_natCast]
 simp only [wholeG,List.getElem?_map,e,Option.map_some,Option.getD_some]
 rfl
theorem whole_node (h : Good g) {i : Int} (hi : inL g.l i) : ∃ a,inL g.l a /\ Sim g.l g.l i a /\ ndAt (wholeG g).l (clsA g.l i) = mapN (clsA g.l) (ndAt g.l a) := by
 obtain ⟨a,h1,h2,h3⟩ := fst_of h.fine hi
 have hlt := clsA_lt h.fine hi
 refine ⟨a,h2,h3,?_⟩
 have := whole_at h1
 rwa [show (((clsA g.l i).toNat : Nat) : Int) = clsA g.l i by omega] at this
theorem Good.whole (h : Good g) : Good (wholeG g) where
 c := by
  refine chk_of ?_ ?_ ?_
  ·rw [whole_len]
   have := fstK_len (clsL g.l) 0 0
   rw [clsL_len h.fine] at this
   exact Nat.le_trans this h.len
  ·rw [whole_len]; exact clsA_lt h.fine h.root
  ·intro x hx
   rw [whole_len]
   simp only [wholeG,List.mem_map] at hx
   obtain ⟨i,hi,rfl⟩ := hx
   obtain ⟨j,hj⟩ := List.getElem?_of_mem hi
   exact mapN_right (h.node (fst_at h.fine hj).1) fun k hk => clsA_lt h.fine (h.kid i k hk)
 s := by
  intro x hx
  simp only [wholeG,List.mem_map] at hx
  obtain ⟨i,hi,rfl⟩ := hx
  exact mapN_small _ (h.s.at i)
theorem whole_in (h : Good g) {i : Int} (hi : inL g.l i) : inL (wholeG g).l (clsA g.l i) := by
 have := clsA_lt h.fine hi
 unfold inL
 rw [whole_len]; exact this
theorem whole_from (h : Good g) {b : Int} (hb : inL (wholeG g).l b) : ∃ i,inL g.l i /\ clsA g.l i = b := by
 unfold inL at hb
 rw [whole_len] at hb
 obtain ⟨a,ha⟩ := at_lt (l := fstL g.l) (i := b.toNat) (by omega)
 obtain ⟨h1,h2⟩ := fst_at h.fine ha
 exact ⟨a,h1,by omega⟩
theorem whole_kd (h : Good g) {i : Int} (hi : inL g.l i) : kdL (wholeG g).l (clsA g.l i) = (kdL g.l i).map (clsA g.l) := by
 obtain ⟨a,h1,h2,h3⟩ := whole_node h hi
 have e1 := (mapN_kids (h.node h1) (clsA g.l)).1
 rw [show kdL (wholeG g).l (clsA g.l i) = kidsOf (ndAt (wholeG g).l (clsA g.l i)) from rfl,h3,e1]
 refine (map_eq_iff (A := kidsOf (ndAt g.l a)) (B := kdL g.l i)).2 ⟨(h2.klen h.fine h.fine).symm,fun k p q hp hq => ?_⟩
 have := h2.kid hq hp
 exact ((clsA_iff h.fine this.inn.1 this.inn.2).2 this).symm
theorem whole_sim (h : Good g) {i : Int} (hi : inL g.l i) : Sim g.l (wholeG g).l i (clsA g.l i) := by
 refine ⟨fun a b => inL g.l a /\ b = clsA g.l a,⟨fun a b r => ⟨r.1,by rw [r.2]; exact whole_in h r.1⟩,fun a b r => ?_,fun a b r k p q hp hq => ?_⟩,hi,rfl⟩
 ·obtain ⟨ha,rfl⟩ := r
  obtain ⟨c,h1,h2,h3⟩ := whole_node h ha
  rw [h3]
  refine fitN_trans h2.fit (fitN_iff.2 ⟨rfl,rfl,(mapN_kids (h.node h1) _).2.symm,?_⟩)
  show _ = (List.map _ _).length
  rw [List.length_map]; exact (h.fine.klen c).symm
 ·obtain ⟨ha,rfl⟩ := r
  rw [whole_kd h ha,List.getElem?_map,hp] at hq
  exact ⟨h.fine.kid _ _ (List.mem_of_getElem? hp),(Option.some.inj hq).symm⟩
def Dist (l : List Nd) : Prop := ∀ a b,Sim l l a b -> a = b
theorem whole_dist (h : Good g) : Dist (wholeG g).l := fun a b r => by
 obtain ⟨i,hi,rfl⟩ := whole_from h r.inn.1
 obtain ⟨j,hj,rfl⟩ := whole_from h r.inn.2
 exact (clsA_iff h.fine hi hj).2 (((whole_sim h hi).trans h.fine h.whole.fine r).trans h.fine h.whole.fine (whole_sim h hj).symm)
noncomputable def quotG (g : Gr) : Gr := tidyG (wholeG g)
theorem Good.quot (h : Good g) : Good (quotG g) := h.whole.tidy
theorem tidy_in (h : Good g) {a : Int} (ha : a ∈ walkL g) : inL (tidyG g).l ((walkL g).idxOf a) := by
 have := idx_lt ha
 exact ⟨by omega,by rw [tidyG_len]; omega⟩
theorem tidy_from (h : Good g) {b : Int} (hb : inL (tidyG g).l b) : ∃ a,a ∈ walkL g /\ ((walkL g).idxOf a : Int) = b := by
 unfold inL at hb
 rw [tidyG_len] at hb
 obtain ⟨a,ha⟩ := at_lt (l := walkL g) (i := b.toNat) (by omega)
 exact ⟨a,List.mem_of_getElem? ha,by rw [idx_at h.wnodup ha]; omega⟩
theorem tidy_sim (h : Good g) {a : Int} (ha : a ∈ walkL g) : Sim g.l (tidyG g).l a ((walkL g).idxOf a) :=
 (iso_tidy h).sim h h.tidy ⟨ha,rfl⟩ (h.wIn a ha) (tidy_in h ha)
theorem tidy_dist (h : Good g) (hd : Dist g.l) : Dist (tidyG g).l := fun a b r => by
 obtain ⟨i,hi,rfl⟩ := tidy_from h r.inn.1
 obtain ⟨j,hj,rfl⟩ := tidy_from h r.inn.2
 rw [hd _ _ (((tidy_sim h hi).trans h.fine h.tidy.fine r).trans h.fine h.tidy.fine (tidy_sim h hj).symm)]
theorem quot_dist (h : Good g) : Dist (quotG g).l := tidy_dist h.whole (whole_dist h)
theorem whole_root (h : Good g) : Sim g.l (wholeG g).l g.root (wholeG g).root := whole_sim h h.root
theorem tidy_root (h : Good g) : Sim g.l (tidyG g).l g.root (tidyG g).root := by
 have := tidy_sim h h.wroot
 obtain ⟨r,hr⟩ := h.whead
 rw [hr] at this
 simpa [tidyG] using this
theorem quot_root (h : Good g) : Sim g.l (quotG g).l g.root (quotG g).root := (whole_root h).trans h.fine h.whole.fine (tidy_root h.whole)
theorem quot_tidy (h : Good g) : tidyG (quotG g) = quotG g := tidy_tidy h.whole
theorem dist_alike (hg : Good g) (hh : Good h) (dg : Dist g.l) (dh : Dist h.l) (r : Sim g.l h.l g.root h.root) : alikeG g h = true :=
 alike_of hg hh (R := fun a b => Sim g.l h.l a b) {
  root := r
  fit := fun _ _ r => r.fit
  kid := fun a b r q hq => by
   obtain ⟨i,h1,h2⟩ := pz_at hq
   exact r.kid h1 h2
  one := fun a b c r s => dh _ _ (r.symm.trans hh.fine hg.fine s)
  inj := fun a b c r s => dg _ _ (r.trans hg.fine hh.fine s.symm) }
theorem quot_same (hg : Good g) (hh : Good h) : Sim g.l h.l g.root h.root ↔ quotG g = quotG h := by
 constructor
 ·intro r
  have r' : Sim (quotG g).l (quotG h).l (quotG g).root (quotG h).root := ((quot_root hg).symm.trans hg.quot.fine hg.fine r).trans hg.quot.fine hh.fine (quot_root hh)
  have := alike_tidy hg.quot hh.quot (dist_alike hg.quot hh.quot (quot_dist hg) (quot_dist hh) r')
  rwa [quot_tidy hg,quot_tidy hh] at this
 ·intro e
  have h1 := quot_root hg
  rw [e] at h1
  exact h1.trans hg.fine hh.quot.fine (quot_root hh).symm
theorem quot_quot (h : Good g) : quotG (quotG g) = quotG g := ((quot_same h h.quot).1 (quot_root h)).symm
theorem walk_whole (h : Good g) {b : Int} : b ∈ walkL (wholeG g) ↔ ∃ a ∈ walkL g,clsA g.l a = b := by
 constructor
 ·have := h.whole.walk.all (P := fun b => ∃ a ∈ walkL g,clsA g.l a = b) (fun i hi => by
   rw [List.mem_singleton] at hi
   exact ⟨g.root,h.wroot,hi.symm⟩) (by simp) fun i hi j hj => by
    obtain ⟨a,ha,rfl⟩ := hi
    rw [show kd (wholeG g) (clsA g.l a) = _ from whole_kd h (h.wIn a ha)] at hj
    obtain ⟨p,hp,rfl⟩ := List.mem_map.1 hj
    exact ⟨p,h.wclosed a ha p hp,rfl⟩
  exact this b
 ·rintro ⟨a,ha,rfl⟩
  have := h.walk.all (P := fun a => inL g.l a /\ clsA g.l a ∈ walkL (wholeG g)) (fun i hi => by
   rw [List.mem_singleton] at hi
   rw [hi]
   exact ⟨h.root,h.whole.wroot⟩) (by simp) fun i hi j hj => ⟨h.kid i j hj,h.whole.wclosed _ hi.2 _ (by
    rw [show kd (wholeG g) (clsA g.l i) = _ from whole_kd h hi.1]
    exact List.mem_map.2 ⟨j,hj,rfl⟩)⟩
  exact (this a ha).2
noncomputable def plcA (g : Gr) (i : Int) : Int := if clsA g.l i ∈ walkL (wholeG g) then (walkL (wholeG g)).idxOf (clsA g.l i) else -1
noncomputable def plcG (g : Gr) : List Int := (clsL g.l).map fun c => if c ∈ walkL (wholeG g) then ((walkL (wholeG g)).idxOf c : Int) else -1
theorem plc_at (h : Good g) {i : Int} (hi : inL g.l i) : (plcG g)[i.toNat]? = some (plcA g i) := by
 unfold plcG plcA
 rw [List.getElem?_map,clsA_at h.fine hi]; rfl
theorem plc_len (h : Good g) : (plcG g).length = g.l.length := by unfold plcG; rw [List.length_map,clsL_len h.fine]
theorem plc_sim (h : Good g) {i : Int} (hi : inL g.l i) (hp : 0 <= plcA g i) : Sim g.l (quotG g).l i (plcA g i) := by
 unfold plcA at *
 split at hp
 ·rename_i hm
  rw [if_pos hm]
  exact (whole_sim h hi).trans h.fine h.whole.fine (tidy_sim h.whole hm)
 ·omega
theorem plc_walk (h : Good g) {i : Int} (hi : i ∈ walkL g) : 0 <= plcA g i := by
 unfold plcA
 rw [if_pos ((walk_whole h).2 ⟨i,hi,rfl⟩)]
 omega
theorem quot_path (h : Good g) (ps : List Int) : atG (quotG g) ps = (atG g ps).map (plcA g) := by
 rcases (quot_root h).path h.fine h.quot.fine (ps := ps) with ⟨h1,h2⟩ | ⟨c,d,h1,h2,h3⟩
 ·rw [show atG (quotG g) ps = none from h2,show atG g ps = none from h1]; rfl
 ·rw [show atG (quotG g) ps = some d from h2,show atG g ps = some c from h1]
  have hc := atF_mem h h.wroot h1
  have := plc_sim h (h.wIn c hc) (plc_walk h hc)
  rw [Option.map_some,quot_dist h _ _ (h3.symm.trans h.quot.fine h.fine this)]
end
end Go.Fw.L07
