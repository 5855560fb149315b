/- Chapter 10,plain: numbers in the order of first appearance; classes that are parted as long as there are more. -/
import Derived.Test.YtakgmpkfpkmkaaaGreatDoorLa
import Derived.Test.YtakgmpkfpkmkaaaGreatDoorVa
import Derived.Test.YtakgmpkfpkmkaaaGreatDoorLb
import Derived.Lib.MapLaws
import Derived.Lib.ItoaLen
set_option linter.all false
namespace Go.Fw.L07
open Go Go.Fw
open List renaming getElem?_eq_some_iff -> Kr
set_option maxRecDepth 4000
section
variable {α β : Type} [DecidableEq α] [DecidableEq β]
def ddF : List α -> List α -> List α
 | d,[] => d
 | d,a :: l => ddF (if a ∈ d then d else d ++ [a]) l
def ddp (l : List α) : List α := ddF [] l
theorem ddF_app : ∀ (l m : List α) (d : List α),ddF d (l ++ m) = ddF (ddF d l) m
 | [],_,_ => rfl
 | a :: l,m,d => by simp only [List.cons_append,ddF,ddF_app l m]
theorem ddp_snoc (l : List α) (a : α) : ddp (l ++ [a]) = if a ∈ ddp l then ddp l else ddp l ++ [a] := by
 unfold ddp; rw [ddF_app]; rfl
theorem ddF_mem : ∀ (l d : List α) (x : α),x ∈ ddF d l ↔ x ∈ d \/ x ∈ l
 | [],d,x => by simp [ddF]
 | a :: l,d,x => by
  simp only [ddF,ddF_mem l,List.mem_cons]
  split
  ·rename_i h
   constructor
   ·rintro (h1 | h1)
    ·exact .inl h1
    ·exact .inr (.inr h1)
   ·rintro (h1 | rfl | h1)
    ·exact .inl h1
    ·exact .inl h
    ·exact .inr h1
  ·simp only [List.mem_append,List.mem_singleton,or_assoc]
theorem ddp_mem {l : List α} {x : α} : x ∈ ddp l ↔ x ∈ l := by unfold ddp; rw [ddF_mem]; simp
theorem ddF_nodup : ∀ (l d : List α),d.Nodup -> (ddF d l).Nodup
 | [],_,h => h
 | a :: l,d,h => by
  simp only [ddF]
  refine ddF_nodup l _ ?_
  split
  ·exact h
  ·rename_i ha
   rw [List.nodup_append]
   exact ⟨h,by simp,fun x hx y hy e => by simp at hy; subst hy; subst e; exact ha hx⟩
theorem ddp_nodup (l : List α) : (ddp l).Nodup := ddF_nodup l [] (by simp)
theorem ddp_len (l : List α) : (ddp l).length <= l.length := (ddp_nodup l).length_le_of_subset fun x hx => ddp_mem.1 hx
def rkp (l : List α) : List Int := l.map fun a => ((ddp l).idxOf a : Int)
theorem rkp_len (l : List α) : (rkp l).length = l.length := by simp [rkp]
theorem idx_inj10 {d : List α} {a b : α} (ha : a ∈ d) (hb : b ∈ d) (h : d.idxOf a = d.idxOf b) : a = b := by
 have h1 := List.getElem_idxOf (List.idxOf_lt_length_iff.2 ha)
 have h2 := List.getElem_idxOf (List.idxOf_lt_length_iff.2 hb)
 rw [<- h1,<- h2]
 congr 1
theorem rkp_at {l : List α} {i : Nat} {a : α} (h : l[i]? = some a) : (rkp l)[i]? = some ((ddp l).idxOf a : Int) := by unfold rkp; rw [List.getElem?_map,h]; rfl
theorem rkp_eq {l : List α} {i j : Nat} {a b : α} (ha : l[i]? = some a) (hb : l[j]? = some b) : (rkp l)[i]? = (rkp l)[j]? ↔ a = b := by
 rw [rkp_at ha,rkp_at hb]
 constructor
 ·intro h
  have h := Option.some.inj h
  exact idx_inj10 (ddp_mem.2 (List.mem_of_getElem? ha)) (ddp_mem.2 (List.mem_of_getElem? hb)) (by omega)
 ·rintro rfl; rfl
theorem take_snoc10 {l : List α} {n : Nat} {a : α} (h : l[n]? = some a) : l.take (n + 1) = l.take n ++ [a] := by rw [List.take_succ,h]; rfl
theorem mem_take {l : List α} {n : Nat} {a : α} : a ∈ l.take n ↔ ∃ i,i < n /\ l[i]? = some a := by
 rw [List.mem_iff_getElem?]
 constructor
 ·rintro ⟨i,hi⟩
  rw [List.getElem?_take] at hi
  split at hi
  ·exact ⟨i,‹_›,hi⟩
  ·cases hi
 ·rintro ⟨i,hi,h⟩
  exact ⟨i,by rw [List.getElem?_take,if_pos hi]; exact h⟩
theorem rkp_ker {l : List α} {m : List β} (hl : l.length = m.length) (hk : ∀ i j : Nat,i < l.length -> j < l.length -> (l[i]? = l[j]? ↔ m[i]? = m[j]?)) : rkp l = rkp m := by
 have key : ∀ n,n <= l.length -> (ddp (l.take n)).length = (ddp (m.take n)).length /\ ∀ (i : Nat) (a : α) (b : β),i < n -> l[i]? = some a -> m[i]? = some b -> (ddp (l.take n)).idxOf a = (ddp (m.take n)).idxOf b := by
  intro n
  induction n with
  | zero => intro _; exact ⟨by simp [ddp,ddF],fun i a b hi => by omega⟩
  | succ n ih =>
   intro hn
   obtain ⟨h1,h2⟩ := ih (by omega)
   obtain ⟨a,ha⟩ := at_lt (l := l) (i := n) (by omega)
   obtain ⟨b,hb⟩ := at_lt (l := m) (i := n) (by omega)
   have hm : a ∈ ddp (l.take n) ↔ b ∈ ddp (m.take n) := by
    rw [ddp_mem,ddp_mem,mem_take,mem_take]
    constructor
    ·rintro ⟨i,hi,h⟩
     exact ⟨i,hi,by rw [<- hb]; exact (hk i n (by omega) (by omega)).1 (by rw [h,ha])⟩
    ·rintro ⟨i,hi,h⟩
     exact ⟨i,hi,by rw [<- ha]; exact (hk i n (by omega) (by omega)).2 (by rw [h,hb])⟩
   rw [take_snoc10 ha,take_snoc10 hb,ddp_snoc,ddp_snoc]
   by_cases hma : a ∈ ddp (l.take n)
   ·rw [if_pos hma,if_pos (hm.1 hma)]
    refine ⟨h1,fun i a' b' hi ha' hb' => ?_⟩
    by_cases hin : i < n
    ·exact h2 i a' b' hin ha' hb'
    ·obtain rfl : i = n := by omega
     rw [ha] at ha'; rw [hb] at hb'; cases ha'; cases hb'
     rw [ddp_mem,mem_take] at hma
     obtain ⟨j,hj,hja⟩ := hma
     obtain ⟨c,hc⟩ := at_lt (l := m) (i := j) (by omega)
     have := h2 j a c hj hja hc
     rw [this]
     have : m[j]? = m[i]? := (hk j i (by omega) (by omega)).1 (by rw [hja,ha])
     rw [hc,hb] at this
     cases this; rfl
   ·rw [if_neg hma,if_neg (fun h => hma (hm.2 h))]
    refine ⟨by simp [h1],fun i a' b' hi ha' hb' => ?_⟩
    rw [List.idxOf_append,List.idxOf_append]
    by_cases hin : i < n
    ·rw [if_pos (ddp_mem.2 (mem_take.2 ⟨i,hin,ha'⟩)),if_pos (ddp_mem.2 (mem_take.2 ⟨i,hin,hb'⟩))]
     exact h2 i a' b' hin ha' hb'
    ·obtain rfl : i = n := by omega
     rw [ha] at ha'; rw [hb] at hb'; cases ha'; cases hb'
     rw [if_neg hma,if_neg (fun h => hma (hm.2 h)),h1]
     simp
 apply List.ext_getElem?
 intro i
 by_cases hi : i < l.length
 ·obtain ⟨a,ha⟩ := at_lt hi
  obtain ⟨b,hb⟩ := at_lt (l := m) (i := i) (by omega)
  rw [rkp_at ha,rkp_at hb]
  have := (key l.length (Nat.le_refl _)).2 i a b hi ha hb
  rw [List.take_length,hl,List.take_length] at this
  rw [this]
 ·rw [List.getElem?_eq_none (by rw [rkp_len]; omega),List.getElem?_eq_none (by rw [rkp_len]; omega)]
theorem same_ker {l : List α} {m : List β} (hl : l.length = m.length) (hf : ∀ i j : Nat,i < l.length -> j < l.length -> l[i]? = l[j]? -> m[i]? = m[j]?) (hc : (ddp l).length <= (ddp m).length) :
  ∀ i j : Nat,i < l.length -> j < l.length -> m[i]? = m[j]? -> l[i]? = l[j]? := by
 intro i j hi hj hm
 obtain ⟨a,ha⟩ := at_lt hi
 obtain ⟨b,hb⟩ := at_lt hj
 rw [ha,hb]
 obtain ⟨y,hy⟩ := at_lt (l := m) (i := i) (by omega)
 -- each name's first place; names there
 have hrep : ∀ z ∈ ddp m,∃ x : α,∃ k : Nat,l[k]? = some x /\ m[k]? = some z := fun z hz => by
  obtain ⟨k,hk⟩ := List.mem_iff_getElem?.1 (ddp_mem.1 hz)
  obtain ⟨x,hx⟩ := at_lt (l := l) (i := k) (by rw [hl]; exact (Kr.1 hk).1)
  exact ⟨x,k,hx,hk⟩
 have hd : ∃ f : β -> α,∀ z ∈ ddp m,∃ k : Nat,l[k]? = some (f z) /\ m[k]? = some z := by
  classical
  refine ⟨fun z => if h : z ∈ ddp m then Classical.choose (hrep z h) else a,fun z hz => ?_⟩
  simp only [dif_pos hz]
  exact Classical.choose_spec (hrep z hz)
 obtain ⟨f,hfz⟩ := hd
 have hinj : ∀ z ∈ ddp m,∀ z' ∈ ddp m,f z = f z' -> z = z' := fun z hz z' hz' e => by
  obtain ⟨k,h1,h2⟩ := hfz z hz
  obtain ⟨k',h3,h4⟩ := hfz z' hz'
  have := hf k k' (Kr.1 h1).1 (Kr.1 h3).1 (by rw [h1,h3,e])
  rw [h2,h4] at this
  exact Option.some.inj this
 have hnd : ((ddp m).map f).Nodup := by
  rw [List.Nodup,List.pairwise_map]
  have := ddp_nodup m
  rw [List.Nodup] at this
  exact List.Pairwise.imp_of_mem (fun {x y} hx hy hne e => hne (hinj x hx y hy e)) this
 have hsub : (ddp m).map f ⊆ ddp l := fun x hx => by
  obtain ⟨z,hz,rfl⟩ := List.mem_map.1 hx
  obtain ⟨k,h1,_⟩ := hfz z hz
  exact ddp_mem.2 (List.mem_of_getElem? h1)
 -- all names are there
 have hall : ∀ x ∈ ddp l,x ∈ (ddp m).map f := fun x hx => by
  by_cases hxm : x ∈ (ddp m).map f
  ·exact hxm
  ·exfalso
   have h1 : (x :: (ddp m).map f).Nodup := List.nodup_cons.2 ⟨hxm,hnd⟩
   have h2 := h1.length_le_of_subset (l₂ := ddp l) (fun y hy => by
    rcases List.mem_cons.1 hy with rfl | hy
    ·exact hx
    ·exact hsub hy)
   simp at h2
   omega
 have get : ∀ (k : Nat) (x : α),l[k]? = some x -> m[k]? = some y -> x = f y := fun k x hx hk => by
  obtain ⟨z,hz,hzx⟩ := List.mem_map.1 (hall x (ddp_mem.2 (List.mem_of_getElem? hx)))
  obtain ⟨k',h1,h2⟩ := hfz z hz
  have := hf k k' (Kr.1 hx).1 (Kr.1 h1).1 (by rw [hx,h1,hzx])
  rw [hk,h2] at this
  rw [<- hzx,Option.some.inj this]
 rw [get i a ha hy,get j b hb (by rw [<- hm]; exact hy)]
end
section
variable {σ : Type} [DecidableEq σ] (f : List Int -> List σ)
def rnd (c : List Int) : List Int := rkp (f c)
def cnt (c : List Int) : Nat := (ddp (f c)).length
def partF : Nat -> Nat -> Nat -> List Int -> List Int
 | 0,_,_,c => c
 | k + 1,n,m,c => if n < m then partF k m (cnt f c) (rnd f c) else c
variable {f} {n : Nat}
def KerLe (n : Nat) (c d : List Int) : Prop := ∀ i j : Nat,i < n -> j < n -> c[i]? = c[j]? -> d[i]? = d[j]?
structure Parts (f : List Int -> List σ) (n : Nat) : Prop where
 len : ∀ c,(f c).length = n
 mono : ∀ c d,KerLe n c d -> ∀ i j : Nat,i < n -> j < n -> (f c)[i]? = (f c)[j]? -> (f d)[i]? = (f d)[j]?
theorem Parts.ker (h : Parts f n) (c : List Int) {i j : Nat} (hi : i < n) (hj : j < n) : (rnd f c)[i]? = (rnd f c)[j]? ↔ (f c)[i]? = (f c)[j]? := by
 obtain ⟨a,ha⟩ := at_lt (l := f c) (i := i) (by rw [h.len]; exact hi)
 obtain ⟨b,hb⟩ := at_lt (l := f c) (i := j) (by rw [h.len]; exact hj)
 unfold rnd
 rw [rkp_eq ha hb,ha,hb]
 exact ⟨fun e => by rw [e],fun e => Option.some.inj e⟩
theorem Parts.up (h : Parts f n) {c d : List Int} (hk : KerLe n c d) : KerLe n (rnd f c) (rnd f d) := fun i j hi hj e => (h.ker d hi hj).2 (h.mono c d hk i j hi hj ((h.ker c hi hj).1 e))
theorem Parts.cnt_le (h : Parts f n) (c : List Int) : cnt f c <= n := by have := ddp_len (f c); rw [h.len] at this; exact this
theorem Parts.same (h : Parts f n) {c : List Int} (hk : KerLe n (rnd f (rnd f c)) (rnd f c)) (hc : cnt f (rnd f c) <= cnt f c) : rnd f (rnd f c) = rnd f c := by
 have hf : ∀ i j : Nat,i < n -> j < n -> (f (rnd f c))[i]? = (f (rnd f c))[j]? -> (f c)[i]? = (f c)[j]? := fun i j hi hj e => (h.ker c hi hj).1 (hk i j hi hj ((h.ker _ hi hj).2 e))
 have hl : (f (rnd f c)).length = (f c).length := by rw [h.len,h.len]
 have hs := same_ker hl (fun i j hi hj => by rw [h.len] at hi hj; exact hf i j hi hj) hc
 exact rkp_ker hl fun i j hi hj => ⟨by rw [h.len] at hi hj; exact hf i j hi hj,hs i j hi hj⟩
theorem Parts.fuel (h : Parts f n) : ∀ (k k' nn m : Nat) (c : List Int),m <= n -> n + 1 <= k + nn -> n + 1 <= k' + nn -> partF f k nn m c = partF f k' nn m c
 | 0,0,_,_,_,_,_,_ => rfl
 | 0,k' + 1,nn,m,c,h1,h2,h3 => by simp only [partF]; rw [if_neg (by omega)]
 | k + 1,0,nn,m,c,h1,h2,h3 => by simp only [partF]; rw [if_neg (by omega)]
 | k + 1,k' + 1,nn,m,c,h1,h2,h3 => by
  simp only [partF]
  split
  ·exact Parts.fuel h k k' m _ _ (h.cnt_le c) (by omega) (by omega)
  ·rfl
end
def valD (l : List UInt8) : Nat := l.foldl (fun a b => a * 10 + (b.toNat - 48)) 0
theorem u8_lt {n : Nat} (h : n < 256) : (UInt8.ofNat n).toNat = n := by simp; omega
theorem decD_val (u : Nat) : valD (Lib.decDigits u) = u := by
 induction u using Nat.strongRecOn with
 | _ u ih =>
  rw [Lib.decDigits]
  split
  ·unfold valD
   simp only [List.foldl_cons,List.foldl_nil]
   rw [u8_lt (by omega)]; omega
  ·have := ih (u / 10) (by omega)
   unfold valD at this ⊢
   rw [List.foldl_append,this]
   simp only [List.foldl_cons,List.foldl_nil]
   rw [u8_lt (by omega)]; omega
theorem decD_dig (u : Nat) : ∀ b ∈ Lib.decDigits u,48 <= b.toNat /\ b.toNat <= 57 := by
 induction u using Nat.strongRecOn with
 | _ u ih =>
  intro b hb
  rw [Lib.decDigits] at hb
  split at hb
  ·simp only [List.mem_singleton] at hb
   subst hb
   rw [u8_lt (by omega)]; omega
  ·rcases List.mem_append.1 hb with hb | hb
   ·exact ih (u / 10) (by omega) b hb
   ·simp only [List.mem_singleton] at hb
    subst hb
    rw [u8_lt (by omega)]; omega
theorem decD_ne (u : Nat) : Lib.decDigits u ≠ [] := by
 rw [Lib.decDigits]; split <;> simp
theorem itoa_byte (n : Int) : ∀ b ∈ Lib.itoa n,b = 45 \/ (48 <= b.toNat /\ b.toNat <= 57) := by
 intro b hb
 unfold Lib.itoa at hb
 split at hb
 ·rcases List.mem_cons.1 hb with rfl | hb
  ·exact .inl rfl
  ·exact .inr (decD_dig _ b hb)
 ·exact .inr (decD_dig _ b hb)
theorem itoa_ne (n : Int) : Lib.itoa n ≠ [] := by
 unfold Lib.itoa; split
 ·simp
 ·exact decD_ne _
theorem itoa_inj {a b : Int} (h : Lib.itoa a = Lib.itoa b) : a = b := by
 have no : ∀ (u : Nat) (t : List UInt8),Lib.decDigits u ≠ 45 :: t := fun u t e => by
  have := decD_dig u 45 (by rw [e]; simp)
  revert this; decide
 unfold Lib.itoa at h
 split at h <;> split at h
 ·have := congrArg valD (List.cons.inj h).2
  rw [decD_val,decD_val] at this; omega
 ·exact absurd h.symm (no _ _)
 ·exact absurd h (no _ _)
 ·have := congrArg valD h
  rw [decD_val,decD_val] at this; omega
def numsB (l : List Int) : List UInt8 := l.flatMap fun n => Lib.itoa n ++ [44]
def okR (r : Int) : Prop := 0 <= r /\ r <= 1114111 /\ ¬ (55296 <= r /\ r <= 57343)
def encL (l : List Int) : List UInt8 := l.flatMap Lib.encodeRune
def sgF (s : ByteArray) : Nat -> Nat -> List Int
 | 0,_ => []
 | f + 1,p => if p < s.size then ((Utf8.decode s p).1 : Int) :: sgF s f (p + (Utf8.decode s p).2) else []
def sgS (s : ByteArray) : List Int := sgF s s.size 0
theorem sg_end {s : ByteArray} {f p : Nat} (h : ¬ p < s.size) : sgF s f p = [] := by
 cases f with
 | zero => rfl
 | succ f => simp only [sgF,if_neg h]
theorem data_drop_ne {s : ByteArray} {p : Nat} (h : p < s.size) : s.data.toList.drop p ≠ [] := by
 intro e
 have := congrArg List.length e
 simp at this
 have : s.data.size = s.size := rfl
 omega
theorem sg_ok {s : ByteArray} {p : Nat} (hp : p < s.size) (hv : ¬ ((Utf8.decode s p).1 = 65533 /\ (Utf8.decode s p).2 = 1)) : okR ((Utf8.decode s p).1 : Int) := by
 have h0 := Lib.decodeL_drop s p
 have hne := data_drop_ne hp
 have h1 := Lib.decodeL_N (s.data.toList.drop p)
 have hl : 1 <= (s.data.toList.drop p).length := List.length_pos_iff.2 hne
 have h2 := oneN_ok hl ((s.data.toList.drop p).getD 0 0).toNat_lt ((s.data.toList.drop p).getD 1 0).toNat_lt ((s.data.toList.drop p).getD 2 0).toNat_lt ((s.data.toList.drop p).getD 3 0).toNat_lt
 rw [<- h1,h0,if_neg hv] at h2
 have hw := Lib.decode_width_pos s p hp
 unfold oneN at h2
 split at h2
 ·rw [<- h2] at hw; simp at hw
 ·split at h2
  ·rename_i hs
   rw [Bool.and_eq_true] at hs
   have := of_decide_eq_true hs.1
   rw [<- h2]
   unfold okR
   dsimp only
   omega
  ·rw [<- h2] at hw; simp at hw
def hexR (n : Int) : Int := if n < 10 then 48 + n else 87 + n
def pcR (r : Int) : List Int :=
 if r = 10 then [92,110] else if r = 9 then [92,116] else if r = 13 then [92,114]
 else if r = 34 \/ r = 92 then [92,r] else if 32 <= r /\ r ≠ 127 then [r] else [92,120,hexR (r / 16),hexR (r % 16)]
theorem pc_ok {r : Int} (h : okR r) : ∀ x ∈ pcR r,okR x := by
 unfold okR at h
 have k : ∀ x : Int,0 <= x -> x <= 127 -> okR x := fun x h1 h2 => by unfold okR; omega
 unfold pcR
 intro x hx
 split at hx
 ·simp only [List.mem_cons,List.not_mem_nil,or_false] at hx; exact k x (by omega) (by omega)
 ·split at hx
  ·simp only [List.mem_cons,List.not_mem_nil,or_false] at hx; exact k x (by omega) (by omega)
  ·split at hx
   ·simp only [List.mem_cons,List.not_mem_nil,or_false] at hx; exact k x (by omega) (by omega)
   ·split at hx
    ·simp only [List.mem_cons,List.not_mem_nil,or_false] at hx; exact k x (by omega) (by omega)
    ·split at hx
     ·simp only [List.mem_singleton] at hx; subst hx; exact h
     ·simp only [List.mem_cons,List.not_mem_nil,or_false] at hx
      unfold hexR at hx
      refine k x ?_ ?_
      ·split at hx <;> split at hx <;> omega
      ·split at hx <;> split at hx <;> omega
def quoB (s : ByteArray) : List UInt8 := 34 :: (encL ((sgS s).flatMap pcR) ++ [34])
def boolB (b : Bool) : List UInt8 := if b then [116,114,117,101] else [102,97,108,115,101]
def scB (x : Sc) : List UInt8 :=
 if x.k = 0 then [110,117,108,108] else if x.k = 1 then boolB (decide (x.n = 1)) else if x.k = 2 then Lib.itoa x.n else quoB x.s
theorem prR_kind {R : ByteArray -> Bool} {x : Sc} (h : prR R x = true) : (x.k = 0 /\ x = ⟨0,0,⟨#[]⟩⟩) \/ (x.k = 1 /\ x.s = ⟨#[]⟩ /\ (x.n = 0 \/ x.n = 1)) \/ (x.k = 2 /\ x.s = ⟨#[]⟩ /\ -maxNum <= x.n /\ x.n <= maxNum) \/ (x.k = 3 /\ x.n = 0 /\ R x.s = true) := by
 unfold prR at h
 split at h
 ·exact .inl ⟨‹_›,of_decide_eq_true h⟩
 ·split at h
  ·simp only [Bool.and_eq_true,Bool.or_eq_true,decide_eq_true_eq] at h
   exact .inr (.inl ⟨‹_›,h⟩)
  ·split at h
   ·simp only [Bool.and_eq_true,decide_eq_true_eq] at h
    exact .inr (.inr (.inl ⟨‹_›,h⟩))
   ·split at h
    ·simp only [Bool.and_eq_true,decide_eq_true_eq] at h
     exact .inr (.inr (.inr ⟨‹_›,h⟩))
    ·cases h
def keysB (l : List Sc) : List UInt8 := l.flatMap fun x => scB x ++ [44]
end Go.Fw.L07
