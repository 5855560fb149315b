/- Chapter 10,plain: numbers in the order of first appearance; classes that are parted as long as there are more. -/
import Derived.Test.YtiklocoaghcliaaGreatDoorLa
import Derived.Test.YtiklocoaghcliaaGreatDoorVa
import Derived.Test.YtiklocoaghcliaaGreatDoorLb
import Derived.Lib.MapLaws
import Derived.Lib.ItoaLen
import Derived.Test.YtiklocoaghcliaaGreatDoorIa
set_option linter.all false
namespace Go.Fw.L07
open Go Go.Fw
open List renaming getElem?_eq_some_iff -> Kr
set_option maxRecDepth 4000
section
variable {α β : Type} [DecidableEq α] [DecidableEq β]
def ddF : List α -> List α -> List α
 | d,[] => d
 | d,a :: l => ddF (if a ∈ d then d else d ++ [a]) l
def ddp (l : List α) : List α := ddF [] l
theorem ddF_app : ∀ (l m : List α) (d : List α),ddF d (l ++ m) = ddF (ddF d l) m
 | [],_,_ => rfl
 | a :: l,m,d => by simp only [List.cons_append,ddF,ddF_app l m]
theorem ddp_snoc (l : List α) (a : α) : ddp (l ++ [a]) = if a ∈ ddp l then ddp l else ddp l ++ [a] := by
 unfold ddp; rw [ddF_app]; rfl
theorem ddF_mem : ∀ (l d : List α) (x : α),x ∈ ddF d l ↔ x ∈ d \/ x ∈ l
 | [],d,x => by simp [ddF]
 | a :: l,d,x => by
  simp only [ddF,ddF_mem l,List.mem_cons]
  split
  ·rename_i h
   constructor
   ·rintro (h1 | h1)
    ·exact .inl h1
    ·exact .inr (.inr h1)
   ·rintro (h1 | rfl | h1)
    ·exact .inl h1
    ·exact .inl h
    ·exact .inr h1
  ·simp only [List.mem_append,List.mem_singleton,or_assoc]
theorem ddp_mem {l : List α} {x : α} : x ∈ ddp l ↔ x ∈ l := by unfold ddp; rw [ddF_mem]; simp
theorem ddF_nodup : ∀ (l d : List α),d.Nodup -> (ddF d l).Nodup
 | [],_,h => h
 | a :: l,d,h => by
  simp only [ddF]
  refine ddF_nodup l _ ?_
  split
  ·exact h
  ·rename_i ha
   rw [List.nodup_append]
   exact ⟨h,by simp,fun x hx y hy e => by simp at hy; subst hy; subst e; exact ha hx⟩
theorem ddp_nodup (l : List α) : (ddp l).Nodup := ddF_nodup l [] (by simp)
theorem ddp_len (l : List α) : (ddp l).length <= l.length := (ddp_nodup l).length_le_of_subset fun x hx => ddp_mem.1 hx
def rkp (l : List α) : List Int := l.map fun a => ((ddp l).idxOf a : Int)
theorem rkp_len (l : List α) : (rkp l).length = l.length := by simp [rkp]
theorem idx_inj10 {d : List α} {a b : α} (ha : a ∈ d) (hb : b ∈ d) (h : d.idxOf a = d.idxOf b) : a = b := by
 have h1 := List.getElem_idxOf (List.idxOf_lt_length_iff.2 ha)
 have h2 := List.getElem_idxOf (List.idxOf_lt_length_iff.2 hb)
 rw [<- h1,<- h2]
 congr 1
theorem rkp_at {l : List α} {i : Nat} {a : α} (h : l[i]? = some a) : (rkp l)[i]? = some ((ddp l).idxOf a : Int) := by unfold rkp; rw [List.getElem?_map,h]; rfl
theorem rkp_eq {l : List α} {i j : Nat} {a b : α} (ha : l[i]? = some a) (hb : l[j]? = some b) : (rkp l)[i]? = (rkp l)[j]? ↔ a = b := by
 rw [rkp_at ha,rkp_at hb]
 constructor
 ·intro h
  have h := Option.some.inj h
  exact idx_inj10 (ddp_mem.2 (List.mem_of_getElem? ha)) (ddp_mem.2 (List.mem_of_getElem? hb)) (by omega)
 ·rintro rfl; rfl
theorem take_snoc10 {l : List α} {n : Nat} {a : α} (h : l[n]? = some a) : l.take (n + 1) = l.take n ++ [a] := by rw [List.take_succ,h]; rfl
theorem mem_take {l : List α} {n : Nat} {a : α} : a ∈ l.take n ↔ ∃ i,i < n /\ l[i]? = some a := by
 rw [List.mem_iff_getElem?]
 constructor
 ·rintro ⟨i,hi⟩
  rw [List.getElem?_take] at hi
  split at hi
  ·exact ⟨i,‹_›,hi⟩
  ·cases hi
 ·rintro ⟨i,hi,h⟩
  exact ⟨i,by rw [List.getElem?_take,if_pos hi]; exact h⟩
theorem rkp_ker {l : List α} {m : List β} (hl : l.length = m.length) (hk : ∀ i j : Nat,i < l.length -> j < l.length -> (l[i]? = l[j]? ↔ m[i]? = m[j]?)) : rkp l = rkp m := by
 have key : ∀ n,n <= l.length -> (ddp (l.take n)).length = (ddp (m.take n)).length /\ ∀ (i : Nat) (a : α) (b : β),i < n -> l[i]? = some a -> m[i]? = some b -> (ddp (l.take n)).idxOf a = (ddp (m.take n)).idxOf b := by
  intro n
  induction n with
  | zero => intro _; exact ⟨by simp [ddp,ddF],fun i a b hi => by omega⟩
  | succ n ih =>
   intro hn
   obtain ⟨h1,h2⟩ := ih (by omega)
   obtain ⟨a,ha⟩ := at_lt (l := l) (i := n) (by omega)
   obtain ⟨b,hb⟩ := at_lt (l := m) (i := n) (by omega)
   have hm : a ∈ ddp (l.take n) ↔ b ∈ ddp (m.take n) := by
    rw [ddp_mem,ddp_mem,mem_take,mem_take]
    constructor
    ·rintro ⟨i,hi,h⟩
     exact ⟨i,hi,by rw [<- hb]; exact (hk i n (by omega) (by omega)).1 (by rw [h,ha])⟩
    ·rintro ⟨i,hi,h⟩
     exact ⟨i,hi,by rw [<- ha]; exact (hk i n (by omega) (by omega)).2 (by rw [h,hb])⟩
   rw [take_snoc10 ha,take_snoc10 hb,ddp_snoc,ddp_snoc]
   by_cases hma : a ∈ ddp (l.take n)
   ·rw [if_pos hma,if_pos (hm.1 hma)]
    refine ⟨h1,fun i a' b' hi ha' hb' => ?_⟩
    by_cases hin : i < n
    ·exact h2 i a' b' hin ha' hb'
    ·obtain rfl : i = n := by omega
     rw [ha] at ha'; rw [hb] at hb'; cases ha'; cases hb'
     rw [ddp_mem,mem_take] at hma
     obtain ⟨j,hj,hja⟩ := hma
     obtain ⟨c,hc⟩ := at_lt (l := m) (i := j) (by omega)
     have := h2 j a c hj hja hc
     rw [this]
     have : m[j]? = m[i]? := (hk j i (by omega) (by omega)).1 (by rw [hja,ha])
     rw [hc,hb] at this
     cases this; rfl
   ·rw [if_neg hma,if_neg (fun h => hma (hm.2 h))]
    refine ⟨by simp [h1],fun i a' b' hi ha' hb' => ?_⟩
    rw [List.idxOf_append,List.idxOf_append]
    by_cases hin : i < n
    ·rw [if_pos (ddp_mem.2 (mem_take.2 ⟨i,hin,ha'⟩)),if_pos (ddp_mem.2 (mem_take.2 ⟨i,hin,hb'⟩))]
     exact h2 i a' b' hin ha' hb'
    ·obtain rfl : i = n := by omega
     rw [ha] at ha'; rw [hb] at hb'; cases ha'; cases hb'
     rw [if_neg hma,if_neg (fun h => hma (hm.2 h)),h1]
     simp
 apply List.ext_getElem?
 intro i
 by_cases hi : i < l.length
 ·obtain ⟨a,ha⟩ := at_lt hi
  obtain ⟨b,hb⟩ := at_lt (l := m) (i := i) (by omega)
  rw [rkp_at ha,rkp_at hb]
  have := (key l.length (Nat.le_refl _)).2 i a b hi ha hb
  rw [List.take_length,hl,List.take_length] at this
  rw [this]
 ·rw [List.getElem?_eq_none (by rw [rkp_len]; omega),List.getElem?_eq_none (by rw [rkp_len]; omega)]
theorem same_ker {l : List α} {m : List β} (hl : l.length = m.length) (hf : ∀ i j : Nat,i < l.length -> j < l.length -> l[i]? = l[j]? -> m[i]? = m[j]?) (hc : (ddp l).length <= (ddp m).length) :
  ∀ i j : Nat,i < l.length -> j < l.length -> m[i]? = m[j]? -> l[i]? = l[j]? := by
 intro i j hi hj hm
 obtain ⟨a,ha⟩ := at_lt hi
 obtain ⟨b,hb⟩ := at_lt hj
 rw [ha,hb]
 obtain ⟨y,hy⟩ := at_lt (l := m) (i := i) (by omega)
 -- each name's first place; names there
 have hrep : ∀ z ∈ ddp m,∃ x : α,∃ k : Nat,l[k]? = some x /\ m[k]? = some z := fun z hz => by
  obtain ⟨k,hk⟩ := List.mem_iff_getElem?.1 (ddp_mem.1 hz)
  obtain ⟨x,hx⟩ := at_lt (l := l) (i := k) (by rw [hl]; exact (Kr.1 hk).1)
  exact ⟨x,k,hx,hk⟩
 have hd : ∃ f : β -> α,∀ z ∈ ddp m,∃ k : Nat,l[k]? = some (f z) /\ m[k]? = some z := by
  classical
  refine ⟨fun z => if h : z ∈ ddp m then Classical.choose (hrep z h) else a,fun z hz => ?_⟩
  simp only [dif_pos hz]
  exact Classical.choose_spec (hrep z hz)
 obtain ⟨f,hfz⟩ := hd
 have hinj : ∀ z ∈ ddp m,∀ z' ∈ ddp m,f z = f z' -> z = z' := fun z hz z' hz' e => by
  obtain ⟨k,h1,h2⟩ := hfz z hz
  obtain ⟨k',h3,h4⟩ := hfz z' hz'
  have := hf k k' (Kr.1 h1).1 (Kr.1 h3).1 (by rw [h1,h3,e])
  rw [h2,h4] at this
  exact Option.some.inj this
 have hnd : ((ddp m).map f).Nodup := by
  rw [List.Nodup,List.pairwise_map]
  have := ddp_nodup m
  rw [List.Nodup] at this
  exact List.Pairwise.imp_of_mem (fun {x y} hx hy hne e => hne (hinj x hx y hy e)) this
 have hsub : (ddp m).map f ⊆ ddp l := fun x hx => by
  obtain ⟨z,hz,rfl⟩ := List.mem_map.1 hx
  obtain ⟨k,h1,_⟩ := hfz z hz
  exact ddp_mem.2 (List.mem_of_getElem? h1)
 -- all names are there
 have hall : ∀ x ∈ ddp l,x ∈ (ddp m).map f := fun x hx => by
  by_cases hxm : x ∈ (ddp m).map f
  ·exact hxm
  ·exfalso
   have h1 : (x :: (ddp m).map f).Nodup := List.nodup_cons.2 ⟨hxm,hnd⟩
   have h2 := h1.length_le_of_subset (l₂ := ddp l) (fun y hy => by
    rcases List.mem_cons.1 hy with rfl | hy
    ·exact hx
    ·exact hsub hy)
   simp at h2
   omega
 have get : ∀ (k : Nat) (x : α),l[k]? = some x -> m[k]? = some y -> x = f y := fun k x hx hk => by
  obtain ⟨z,hz,hzx⟩ := List.mem_map.1 (hall x (ddp_mem.2 (List.mem_of_getElem? hx)))
  obtain ⟨k',h1,h2⟩ := hfz z hz
  have := hf k k' (Kr.1 hx).1 (Kr.1 h1).1 (by rw [hx,h1,hzx])
  rw [hk,h2] at this
  rw [<- hzx,Option.some.inj this]
 rw [get i a ha hy,get j b hb (by rw [<- hm]; exact hy)]
end
section
variable {σ : Type} [DecidableEq σ] (f : List Int -> List σ)
def rnd (c : List Int) : List Int := rkp (f c)
def cnt (c : List Int) : Nat := (ddp (f c)).length
def partF : Nat -> Nat -> Nat -> List Int -> List Int
 | 0,_,_,c => c
 | k + 1,n,m,c => if n < m then partF k m (cnt f c) (rnd f c) else c
variable {f} {n : Nat}
def KerLe (n : Nat) (c d : List Int) : Prop := ∀ i j : Nat,i < n -> j < n -> c[i]? = c[j]? -> d[i]? = d[j]?
structure Parts (f : List Int -> List σ) (n : Nat) : Prop where
 len : ∀ c,(f c).length = n
 mono : ∀ c d,KerLe n c d -> ∀ i j : Nat,i < n -> j < n -> (f c)[i]? = (f c)[j]? -> (f d)[i]? = (f d)[j]?
theorem Parts.ker (h : Parts f n) (c : List Int) {i j : Nat} (hi : i < n) (hj : j < n) : (rnd f c)[i]? = (rnd f c)[j]? ↔ (f c)[i]? = (f c)[j]? := by
 obtain ⟨a,ha⟩ := at_lt (l := f c) (i := i) (by rw [h.len]; exact hi)
 obtain ⟨b,hb⟩ := at_lt (l := f c) (i := j) (by rw [h.len]; exact hj)
 unfold rnd
 rw [rkp_eq ha hb,ha,hb]
 exact ⟨fun e => by rw [e],fun e => Option.some.inj e⟩
theorem Parts.up (h : Parts f n) {c d : List Int} (hk : KerLe n c d) : KerLe n (rnd f c) (rnd f d) := fun i j hi hj e => (h.ker d hi hj).2 (h.mono c d hk i j hi hj ((h.ker c hi hj).1 e))
theorem Parts.cnt_le (h : Parts f n) (c : List Int) : cnt f c <= n := by have := ddp_len (f c); rw [h.len] at this; exact this
theorem Parts.same (h : Parts f n) {c : List Int} (hk : KerLe n (rnd f (rnd f c)) (rnd f c)) (hc : cnt f (rnd f c) <= cnt f c) : rnd f (rnd f c) = rnd f c := by
 have hf : ∀ i j : Nat,i < n -> j < n -> (f (rnd f c))[i]? = (f (rnd f c))[j]? -> (f c)[i]? = (f c)[j]? := fun i j hi hj e => (h.ker c hi hj).1 (hk i j hi hj ((h.ker _ hi hj).2 e))
 have hl : (f (rnd f c)).length = (f c).length := by rw [h.len,h.len]
 have hs := same_ker hl (fun i j hi hj => by rw [h.len] at hi hj; exact hf i j hi hj) hc
 exact rkp_ker hl fun i j hi hj => ⟨by rw [h.len] at hi hj; exact hf i j hi hj,hs i j hi hj⟩
theorem Parts.fuel (h : Parts f n) : ∀ (k k' nn m : Nat) (c : List Int),m <= n -> n + 1 <= k + nn -> n + 1 <= k' + nn -> partF f k nn m c = partF f k' nn m c
 | 0,0,_,_,_,_,_,_ => rfl
 | 0,k' + 1,nn,m,c,h1,h2,h3 => by simp only [partF]; rw [if_neg (by omega)]
 | k + 1,0,nn,m,c,h1,h2,h3 => by simp only [partF]; rw [if_neg (by omega)]
 | k + 1,k' + 1,nn,m,c,h1,h2,h3 => by
  simp only [partF]
  split
  ·exact Parts.fuel h k k' m _ _ (h.cnt_le c) (by omega) (by omega)
  ·rfl
end
def valD (l : List UInt8) : Nat := l.foldl (fun a b => a * 10 + (b.toNat - 48)) 0
def numsB (l : List Int) : List UInt8 := l.flatMap fun n => Lib.itoa n ++ [44]
def okR (r : Int) : Prop := 0 <= r /\ r <= 1114111 /\ ¬ (55296 <= r /\ r <= 57343)
def encL (l : List Int) : List UInt8 := l.flatMap Lib.encodeRune
def sgF (s : ByteArray) : Nat -> Nat -> List Int
 | 0,_ => []
 | f + 1,p => if p < s.size then ((Utf8.decode s p).1 : Int) :: sgF s f (p + (Utf8.decode s p).2) else []
def sgS (s : ByteArray) : List Int := sgF s s.size 0
def hexR (n : Int) : Int := if n < 10 then 48 + n else 87 + n
def pcR (r : Int) : List Int :=
 if r = 10 then [92,110] else if r = 9 then [92,116] else if r = 13 then [92,114]
 else if r = 34 \/ r = 92 then [92,r] else if 32 <= r /\ r ≠ 127 then [r] else [92,120,hexR (r / 16),hexR (r % 16)]
def quoB (s : ByteArray) : List UInt8 := 34 :: (encL ((sgS s).flatMap pcR) ++ [34])
def boolB (b : Bool) : List UInt8 := if b then [116,114,117,101] else [102,97,108,115,101]
def scB (x : Sc) : List UInt8 :=
 if x.k = 0 then [110,117,108,108] else if x.k = 1 then boolB (decide (x.n = 1)) else if x.k = 2 then Lib.itoa x.n else quoB x.s
def keysB (l : List Sc) : List UInt8 := l.flatMap fun x => scB x ++ [44]
structure Fine (l : List Nd) : Prop where
 node : ∀ x ∈ l,nodeR rightS x l.length = true
 small : ∀ x ∈ l,x.keys.length <= 12 /\ x.kids.length <= 12
abbrev kdL (l : List Nd) (i : Int) : List Int := kidsOf (ndAt l i)
def inL (l : List Nd) (i : Int) : Prop := 0 <= i /\ i < l.length
instance (l : List Nd) (i : Int) : Decidable (inL l i) := inferInstanceAs (Decidable (_ /\ _))
theorem inL_at {l : List Nd} {i : Int} (h : inL l i) : l[i.toNat]? = some (ndAt l i) := by
 unfold inL at h
 unfold ndAt
 rw [if_pos h]
 have : i.toNat < l.length := by omega
 rw [List.getElem?_eq_getElem this]; rfl
theorem Fine.at {l : List Nd} (h : Fine l) {i : Int} (hi : inL l i) : KidsOK (ndAt l i) l.length := kids_ok (h.node _ (node_at hi))
theorem Fine.kid {l : List Nd} (h : Fine l) (i : Int) : ∀ j ∈ kdL l i,inL l j := by
 by_cases hi : inL l i
 ·exact (h.at hi).inn
 ·intro j hj
  rw [kdL,node_off hi] at hj
  simp [kidsOf,pairsOf,Nd.zero] at hj
theorem Fine.klen {l : List Nd} (h : Fine l) (i : Int) : (kdL l i).length = (ndAt l i).kids.length := by
 by_cases hi : inL l i
 ·exact (h.at hi).len
 ·rw [kdL,node_off hi]; rfl
structure Bis (l m : List Nd) (R : Int -> Int -> Prop) : Prop where
 inn : ∀ a b,R a b -> inL l a /\ inL m b
 fit : ∀ a b,R a b -> fitN (ndAt l a) (ndAt m b) = true
 kid : ∀ a b,R a b -> ∀ (i : Nat) (p q : Int),(kdL l a)[i]? = some p -> (kdL m b)[i]? = some q -> R p q
def Sim (l m : List Nd) (a b : Int) : Prop := ∃ R,Bis l m R /\ R a b
section
variable {l m n : List Nd} {a b c : Int}
theorem sim_bis : Bis l m (Sim l m) := ⟨fun _ _ ⟨_,h,r⟩ => h.inn _ _ r,fun _ _ ⟨_,h,r⟩ => h.fit _ _ r,fun _ _ ⟨R,h,r⟩ i p q hp hq => ⟨R,h,h.kid _ _ r i p q hp hq⟩⟩
theorem Sim.inn (h : Sim l m a b) : inL l a /\ inL m b := sim_bis.inn _ _ h
theorem Sim.fit (h : Sim l m a b) : fitN (ndAt l a) (ndAt m b) = true := sim_bis.fit _ _ h
theorem Sim.kid (h : Sim l m a b) {i : Nat} {p q : Int} (hp : (kdL l a)[i]? = some p) (hq : (kdL m b)[i]? = some q) : Sim l m p q := sim_bis.kid _ _ h i p q hp hq
theorem Sim.klen (hl : Fine l) (hm : Fine m) (h : Sim l m a b) : (kdL l a).length = (kdL m b).length := by
 rw [hl.klen,hm.klen]; exact (fitN_iff.1 h.fit).2.2.2
theorem fitN_symm {x y : Nd} (h : fitN x y = true) : fitN y x = true := by
 obtain ⟨h1,h2,h3,h4⟩ := fitN_iff.1 h
 exact fitN_iff.2 ⟨h1.symm,h2.symm,h3.symm,h4.symm⟩
theorem fitN_trans {x y z : Nd} (h : fitN x y = true) (k : fitN y z = true) : fitN x z = true := by
 obtain ⟨h1,h2,h3,h4⟩ := fitN_iff.1 h
 obtain ⟨k1,k2,k3,k4⟩ := fitN_iff.1 k
 exact fitN_iff.2 ⟨h1.trans k1,h2.trans k2,h3.trans k3,h4.trans k4⟩
theorem Sim.symm (h : Sim l m a b) : Sim m l b a := by
 obtain ⟨R,hR,r⟩ := h
 exact ⟨fun x y => R y x,⟨fun _ _ r => (hR.inn _ _ r).symm,fun _ _ r => fitN_symm (hR.fit _ _ r),fun _ _ r i p q hp hq => hR.kid _ _ r i q p hq hp⟩,r⟩
theorem Sim.trans (hl : Fine l) (hm : Fine m) (h : Sim l m a b) (k : Sim m n b c) : Sim l n a c := by
 refine ⟨fun x z => ∃ y,Sim l m x y /\ Sim m n y z,⟨fun x z ⟨y,h1,h2⟩ => ⟨h1.inn.1,h2.inn.2⟩,fun x z ⟨y,h1,h2⟩ => fitN_trans h1.fit h2.fit,fun x z ⟨y,h1,h2⟩ i p q hp hq => ?_⟩,b,h,k⟩
 obtain ⟨w,hw⟩ := at_lt (l := kdL m y) (i := i) (by rw [<- h1.klen hl hm]; exact (Kr.1 hp).1)
 exact ⟨w,h1.kid hp hw,h2.kid hw hq⟩
end
structure Say where
 k : Int
 x : Sc
 keys : List Sc
 kids : List (Option Int)
 deriving DecidableEq
def sayN (x : Nd) (c : List Int) : Say := ⟨x.k,x.x,keysOf x,(kidsOf x).map fun j => c[j.toNat]?⟩
def sayF (l : List Nd) (c : List Int) : List Say := l.map fun x => sayN x c
abbrev zeros (n : Nat) : List Int := List.replicate n 0
def clsL (l : List Nd) : List Int := partF (sayF l) (l.length + 1) 0 (cnt (sayF l) (zeros l.length)) (rnd (sayF l) (zeros l.length))
theorem map_eq_iff {α β γ : Type} {f : α -> γ} {g : β -> γ} : ∀ {A : List α} {B : List β},A.map f = B.map g ↔ A.length = B.length /\ ∀ (i : Nat) (p : α) (q : β),A[i]? = some p -> B[i]? = some q -> f p = g q
 | [],[] => by simp
 | [],_ :: _ => by simp
 | _ :: _,[] => by simp
 | a :: A,b :: B => by
  simp only [List.map_cons,List.cons.injEq,List.length_cons,Nat.add_right_cancel_iff]
  rw [map_eq_iff]
  constructor
  ·rintro ⟨h,hl,hh⟩
   refine ⟨hl,fun i p q hp hq => ?_⟩
   cases i with
   | zero => simp at hp hq; subst hp; subst hq; exact h
   | succ i => exact hh i p q (by simpa using hp) (by simpa using hq)
  ·rintro ⟨hl,hh⟩
   exact ⟨hh 0 a b rfl rfl,hl,fun i p q hp hq => hh (i + 1) p q (by simpa using hp) (by simpa using hq)⟩
theorem say_iff {x y : Nd} {c : List Int} : sayN x c = sayN y c ↔ x.k = y.k /\ x.x = y.x /\ keysOf x = keysOf y /\ (kidsOf x).length = (kidsOf y).length /\ ∀ (i : Nat) (p q : Int),(kidsOf x)[i]? = some p -> (kidsOf y)[i]? = some q -> c[p.toNat]? = c[q.toNat]? := by
 unfold sayN
 rw [Say.mk.injEq,map_eq_iff]
section
variable {l : List Nd}
theorem sayF_at {c : List Int} {i : Int} (h : inL l i) : (sayF l c)[i.toNat]? = some (sayN (ndAt l i) c) := by unfold sayF; rw [List.getElem?_map,inL_at h]; rfl
theorem sayF_len (c : List Int) : (sayF l c).length = l.length := by simp [sayF]
theorem nat_inL {i : Nat} (h : i < l.length) : inL l i := ⟨by omega,by omega⟩
theorem Fine.parts (h : Fine l) : Parts (sayF l) l.length where
 len c := sayF_len c
 mono c d hk i j hi hj e := by
  have h1 := sayF_at (c := c) (nat_inL hi)
  have h2 := sayF_at (c := c) (nat_inL hj)
  have h3 := sayF_at (c := d) (nat_inL hi)
  have h4 := sayF_at (c := d) (nat_inL hj)
  rw [Int.toNat_natCast] at h1 h2 h3 h4
  rw [h1,h2] at e
  rw [h3,h4]
  obtain ⟨e1,e2,e3,e4,e5⟩ := say_iff.1 (Option.some.inj e)
  rw [say_iff.2 ⟨e1,e2,e3,e4,fun n p q hp hq => ?_⟩]
  have hp' := h.kid _ _ (List.mem_of_getElem? hp)
  have hq' := h.kid _ _ (List.mem_of_getElem? hq)
  unfold inL at hp' hq'
  exact hk _ _ (by omega) (by omega) (e5 n p q hp hq)
end
def shiftN (n : Int) (x : Nd) : Nd := ⟨x.k,x.x,x.keys,x.kids.map fun i => i + n⟩
def joinL (l m : List Nd) : List Nd := l ++ m.map (shiftN l.length)
section
variable {l m : List Nd} {a b : Int}
end
def simB (g h : Gr) : Bool := decide ((clsL (joinL g.l h.l))[g.root.toNat]? = (clsL (joinL g.l h.l))[(h.root + g.l.length).toNat]?)
theorem Good.in {g : Gr} (h : Good g) : inL g.l g.root := h.root
structure Near (l m : List Nd) (fr to : Int) : Prop where
 len : m.length = l.length
 fit : ∀ a,fitN (ndAt l a) (ndAt m a) = true
 kid : ∀ a (i : Nat) p q,(kdL l a)[i]? = some p -> (kdL m a)[i]? = some q -> q = p \/ (p = fr /\ q = to)
def swapN (x : Nd) (k : Nat) (to : Int) : Nd := ⟨x.k,x.x,x.keys,x.kids.set k to⟩
def ordC : List Int -> Nat -> Prop
 | [],_ => True
 | c :: r,k => 0 <= c /\ c <= k /\ ordC r (if c < k then k else k + 1)
def nxtC : List Int -> Nat -> Nat
 | [],k => k
 | c :: r,k => nxtC r (if c < k then k else k + 1)
def mapN (f : Int -> Int) (x : Nd) : Nd := ⟨x.k,x.x,keysOf x,(kidsOf x).map f⟩
def fstK : List Int -> Nat -> Nat -> List Int
 | [],_,_ => []
 | c :: r,k,i => if c < k then fstK r k (i + 1) else (i : Int) :: fstK r (k + 1) (i + 1)
noncomputable def fstL (l : List Nd) : List Int := fstK (clsL l) 0 0
noncomputable def clsA (l : List Nd) (i : Int) : Int := (clsL l)[i.toNat]?.getD 0
noncomputable def wholeG (g : Gr) : Gr := ⟨clsA g.l g.root,(fstL g.l).map fun i => mapN (clsA g.l) (ndAt g.l i)⟩
section
variable {l : List Nd} {g h : Gr}
def Dist (l : List Nd) : Prop := ∀ a b,Sim l l a b -> a = b
noncomputable def quotG (g : Gr) : Gr := tidyG (wholeG g)
noncomputable def plcA (g : Gr) (i : Int) : Int := if clsA g.l i ∈ walkL (wholeG g) then (walkL (wholeG g)).idxOf (clsA g.l i) else -1
noncomputable def plcG (g : Gr) : List Int := (clsL g.l).map fun c => if c ∈ walkL (wholeG g) then ((walkL (wholeG g)).idxOf c : Int) else -1
end
end Go.Fw.L07
