/- Chapter 18,plain: anchors' names; walks of a tidy graph. -/
import Derived.Test.YtiklocoaghcliaaGreatDoorMe
import Derived.Test.YtiklocoaghcliaaGreatDoorJa
import Derived.Lib.TrimUEq
set_option linter.all false
namespace Go.Fw.L07
open Go Go.Fw
open Go.Fw.Sh renaming intro -> Kg
open Go.Fw renaming G_reg -> Ka,G_regp -> Ka,VO_chk -> Kb,VO_go -> Kc,VO_gx -> Kd,G_cond -> Ke,VO_end -> Kf,G_fin -> Kh,G_ret -> Ki,G_weak -> Kj,G_again -> Kl,G_loop -> Km,Gx -> Kn
open Int renaming natCast_nonneg -> Kq
open List renaming getElem?_eq_some_iff -> Kr
open And renaming intro -> Kp
open Go.Fw.V.one renaming injEq -> Qs
open Go.Fw.V.agg renaming injEq -> Qt
open Go.Fw.V.tup renaming injEq -> Qu
open Go.Fw.A.d renaming injEq -> Qv
open Go.Fw.D.bool renaming injEq -> Qw
open Go.Fw.D.int renaming injEq -> Qx
open Go.Fw.D.str renaming injEq -> Qy
open Go.Fw.D.sl renaming injEq -> Qz
open List.cons renaming injEq -> Za
set_option maxRecDepth 4000
theorem getS_putS : ∀ (nm : Nm) (a c : ByteArray) (b : Int),getS (putS nm a b) c = if c = a then some b else getS nm c
 | [],a,c,b => by simp [putS,getS]
 | p :: nm,a,c,b => by
  simp only [putS]
  by_cases h : a = p.1
  ·rw [if_pos h]
   simp only [getS]
   by_cases hc : c = a
   ·rw [if_pos hc,if_pos hc]
   ·rw [if_neg hc,if_neg hc,if_neg (fun e => hc (e.trans h.symm))]
  ·rw [if_neg h]
   simp only [getS]
   by_cases hc : c = p.1
   ·rw [if_pos hc,if_neg (fun e => h (e.symm.trans hc)),if_pos hc]
   ·rw [if_neg hc,getS_putS nm a c b,if_neg hc]
theorem aName_list {n : Int} (h : n > 0) : (aName n).data.toList = 97 :: Lib.itoa n := by
 unfold aName
 rw [if_pos h,ByteArray.data_append]; simp
theorem aName_inj {n m : Int} (hn : n > 0) (hm : m > 0) (h : aName n = aName m) : n = m := by
 have h2 := congrArg (fun s : ByteArray => s.data.toList) h
 simp only [aName_list hn,aName_list hm,List.cons.injEq,true_and] at h2
 exact itoa_inj h2
theorem signs_ok {s : ByteArray} (hs : ∀ p,p < s.size -> signI ((s.data.toList.getD p 0).toNat : Int) = true /\ (s.data.toList.getD p 0).toNat < 128) : ∀ f p,signsFrom s f p = true
 | 0,_ => rfl
 | f + 1,p => by
  simp only [signsFrom]
  split
  ·rename_i hp
   obtain ⟨h1,h2⟩ := hs p hp
   rw [Lib.decode_N,Lib.decodeN_ascii _ _ _ _ _ h2,h1,Bool.true_and]
   exact signs_ok hs f _
  ·rfl
theorem itoa_small {n : Int} (h0 : 0 < n) (h1 : n < 100) : (Lib.itoa n).length <= 2 /\ ∀ b ∈ Lib.itoa n,48 <= b.toNat /\ b.toNat <= 57 := by
 obtain ⟨u,rfl⟩ := Int.eq_ofNat_of_zero_le (show 0 <= n by omega)
 have e : Lib.itoa ((u : Nat) : Int) = Lib.decDigits u := by unfold Lib.itoa; rw [if_neg (by omega)]; simp
 constructor
 ·rw [e,Lib.decDigits_length]
  unfold Lib.nDigits
  split
  ·omega
  ·unfold Lib.nDigits
   rw [dif_pos (by omega)]
   omega
 ·rw [e]
  intro b hb
  exact decD_dig u b hb
theorem aName_name {n : Int} (h0 : 0 < n) (h1 : n < 100) : isNameB (aName n) = true := by
 obtain ⟨h2,h3⟩ := itoa_small h0 h1
 have hl := aName_list h0
 have hsz : (aName n).size = 1 + (Lib.itoa n).length := by
  have := congrArg List.length hl
  simp only [List.length_cons,Array.length_toList] at this
  show (aName n).data.size = _
  omega
 unfold isNameB
 simp only [Bool.and_eq_true,decide_eq_true_eq]
 refine ⟨signs_ok (fun p hp => ?_) _ _,aName_ne h0,by omega⟩
 rw [hl]
 cases p with
 | zero => simp [signI]
 | succ p =>
  rw [List.getD_cons_succ]
  have hp2 : p < (Lib.itoa n).length := by omega
  have hb := h3 _ (List.getElem_mem hp2)
  rw [show (Lib.itoa n).getD p 0 = (Lib.itoa n)[p] from by rw [List.getD_eq_getElem?_getD,List.getElem?_eq_getElem hp2]; rfl]
  generalize (Lib.itoa n)[p] = b at *
  refine ⟨?_,by omega⟩
  unfold signI
  simp only [Bool.or_eq_true,Bool.and_eq_true,decide_eq_true_eq]
  omega
def anc (g : Gr) (i : Nat) : Int := ((ancL g)[i]?).getD 0
theorem usesL_len (g : Gr) : (usesL g).length = g.l.length := by unfold usesL; rw [cnt_len]
theorem usesL_at {g : Gr} {i : Nat} (h : i < g.l.length) : (usesL g)[i]? = some (((0 :: flat g).count (i : Int) : Nat) : Int) := cnt_at _ h
theorem ancL_at {g : Gr} {i : Nat} {x : Nd} (hx : g.l[i]? = some x) : (ancL g)[i]? = some (if ancP x (((0 :: flat g).count (i : Int) : Nat) : Int) then (((ancN g (usesL g) i).2 + 1 : Nat) : Int) else 0) :=
 ancN_at (usesL_len g) hx (usesL_at (Kr.1 hx).1)
theorem anc_get {g : Gr} {i : Nat} (h : i < g.l.length) : (ancL g)[i]? = some (anc g i) := by
 obtain ⟨x,hx⟩ := at_lt h
 unfold anc
 rw [ancL_at hx]; rfl
theorem anc_eq {g : Gr} {i : Nat} {x : Nd} (hx : g.l[i]? = some x) : anc g i = if ancP x (((0 :: flat g).count (i : Int) : Nat) : Int) then (((ancN g (usesL g) i).2 + 1 : Nat) : Int) else 0 := by
 unfold anc; rw [ancL_at hx]; rfl
theorem anc_pos {g : Gr} {i : Nat} {x : Nd} (hx : g.l[i]? = some x) : 0 < anc g i ↔ x.kids ≠ [] /\ 1 < (0 :: flat g).count (i : Int) := by
 rw [anc_eq hx]
 unfold ancP
 split
 ·rename_i h
  simp only [Bool.and_eq_true,decide_eq_true_eq] at h
  exact ⟨fun _ => ⟨h.1,by omega⟩,fun _ => by omega⟩
 ·rename_i h
  simp only [Bool.and_eq_true,decide_eq_true_eq] at h
  exact ⟨fun h2 => by omega,fun h2 => absurd ⟨h2.1,by omega⟩ h⟩
theorem ancN_mono {g : Gr} {us : List Int} {i : Nat} : ∀ j,i <= j -> (ancN g us i).2 <= (ancN g us j).2
 | 0,h => by
  have e : i = 0 := by omega
  subst e
  exact Nat.le_refl _
 | j + 1,h => by
  by_cases e : i = j + 1
  ·rw [e]; exact Nat.le_refl _
  ·refine Nat.le_trans (ancN_mono j (by omega)) ?_
   simp only [ancN]
   split
   ·split <;> simp
   ·exact Nat.le_refl _
theorem anc_lt {g : Gr} {i j : Nat} (hij : i < j) (hj : j < g.l.length) (h : 0 < anc g i) (h' : 0 < anc g j) : anc g i < anc g j := by
 obtain ⟨x,hx⟩ := at_lt (l := g.l) (i := i) (by omega)
 obtain ⟨y,hy⟩ := at_lt hj
 have hs : (ancN g (usesL g) (i + 1)).2 = (ancN g (usesL g) i).2 + 1 := by
  simp only [ancN,hx,usesL_at (show i < g.l.length by omega)]
  rw [anc_eq hx] at h
  split at h
  ·rename_i hp; rw [if_pos hp]
  ·omega
 have := ancN_mono (g := g) (us := usesL g) (i := i + 1) j (by omega)
 rw [anc_eq hx] at h ⊢
 rw [anc_eq hy] at h' ⊢
 split at h
 ·rename_i h1
  split at h'
  ·rename_i h2
   rw [if_pos h1,if_pos h2]
   omega
  ·omega
 ·omega
theorem anc_inj {g : Gr} {i j : Nat} (hi : i < g.l.length) (hj : j < g.l.length) (h : 0 < anc g i) (e : anc g i = anc g j) : i = j := by
 rcases Nat.lt_trichotomy i j with h1 | h1 | h1
 ·have := anc_lt h1 hj h (e ▸ h); omega
 ·exact h1
 ·have := anc_lt h1 hi (e ▸ h) h; omega
theorem anc_le {g : Gr} {i : Nat} (hi : i < g.l.length) : anc g i <= g.l.length := by
 have := (ancN_le (g := g) (us := usesL g) g.l.length).2 (anc g i) (List.mem_of_getElem? (anc_get hi))
 exact this
abbrev rest (g : Gr) (m : Nat) : List Int := (g.l.drop m).flatMap Nd.kids
theorem rest_cons {g : Gr} {m : Nat} {x : Nd} (hx : g.l[m]? = some x) : rest g m = x.kids ++ rest g (m + 1) := by
 unfold rest
 obtain ⟨h,rfl⟩ := Kr.1 hx
 rw [List.drop_eq_getElem_cons h,List.flatMap_cons]
structure St18 (g : Gr) (m : Nat) (s : List Int) : Prop where
 w : Walks (kd g) s (rangeI m) (rangeI g.l.length)
 u : ∀ i : Nat,i < g.l.length -> (if i < m then 1 else 0) + s.count (i : Int) + (rest g m).count (i : Int) <= (0 :: flat g).count (i : Int)
 le : m <= g.l.length
theorem St18.first {g : Gr} (h : Tdy g) : St18 g 0 [0] := by
 refine ⟨?_,fun i _ => ?_,Nat.zero_le _⟩
 ·have := h.good.walk
  rw [h.root,h.walk] at this
  exact this
 ·show _ <= _
  simp only [rest,List.drop_zero,flat]
  rw [show (0 :: g.l.flatMap Nd.kids) = [0] ++ g.l.flatMap Nd.kids from rfl,List.count_append]
  simp
theorem St18.skip {g : Gr} {m i : Nat} {s : List Int} (h : St18 g m ((i : Int) :: s)) (hi : i < m) : St18 g m s /\ 2 <= (0 :: flat g).count (i : Int) := by
 have hl := h.le
 refine ⟨⟨h.w.skip_inv (rangeI_mem.2 ⟨by omega,by omega⟩),fun j hj => ?_,hl⟩,?_⟩
 ·have := h.u j hj
  rw [List.count_cons] at this
  omega
 ·have := h.u i (by omega)
  rw [if_pos hi,List.count_cons,if_pos (by simp)] at this
  omega
theorem St18.step {g : Gr} (hg : Tdy g) {m i : Nat} {s : List Int} (h : St18 g m ((i : Int) :: s)) (hi : ¬ i < m) : i = m /\ ∃ x,g.l[m]? = some x /\ kd g m = x.kids /\ St18 g (m + 1) (x.kids ++ s) := by
 have hw' := h.w.step_inv (fun e => by have := rangeI_mem.1 e; omega)
 obtain ⟨q,hq⟩ := hw'.pre
 have hie : i = m /\ m < g.l.length := by
  have h1 : (rangeI g.l.length)[m]? = some (i : Int) := by
   rw [hq,List.append_assoc,List.getElem?_append_right (by simp)]
   simp
  have h2 := (Kr.1 h1).1
  rw [rangeI_len] at h2
  rw [rangeI_at h2] at h1
  simp at h1
  omega
 obtain ⟨rfl,hmn⟩ := hie
 obtain ⟨x,hx⟩ := at_lt hmn
 have hk := hg.kd hx
 refine ⟨rfl,x,hx,hk,?_,fun j hj => ?_,by omega⟩
 ·rw [<- hk,rangeI_succ]; exact hw'
 ·have := h.u j hj
  rw [rest_cons hx,List.count_append,List.count_cons] at this
  rw [List.count_append]
  by_cases e2 : i = j
  ·subst e2
   simp only [beq_self_eq_true,if_true,Nat.lt_irrefl,if_false] at this
   rw [if_pos (by omega)]
   omega
  ·have e3 : ((i : Int) == (j : Int)) = false := by simp; omega
   simp only [e3,Bool.false_eq_true,if_false] at this
   by_cases hj2 : j < i
   ·rw [if_pos hj2] at this
    rw [if_pos (by omega)]; omega
   ·rw [if_neg hj2] at this
    rw [if_neg (by omega)]; omega
theorem walk_le {k : Int -> List Int} {t o w : List Int} (h : Walks k t o w) : w.length <= o.length + t.length + ((w.drop o.length).flatMap k).length := by
 induction h with
 | nil => simp
 | skip _ _ ih => simp only [List.length_cons]; omega
 | @step i r o w hn h ih =>
  obtain ⟨q,hq⟩ := h.pre
  have e1 : w.drop o.length = i :: q := by rw [hq,List.append_assoc,List.drop_left]; rfl
  have e2 : w.drop (o ++ [i]).length = q := by rw [hq,List.drop_left]
  rw [e2] at ih
  rw [e1]
  simp only [List.length_cons,List.length_append,List.flatMap_cons,List.length_nil] at ih ⊢
  omega
theorem rest_kd {g : Gr} (hg : Tdy g) : ∀ (c m : Nat),g.l.length - m <= c -> ((rangeI g.l.length).drop m).flatMap (kd g) = rest g m
 | 0,m,h => by
  rw [List.drop_of_length_le (by rw [rangeI_len]; omega)]
  unfold rest
  rw [List.drop_of_length_le (by omega)]; rfl
 | c + 1,m,h => by
  by_cases hm : m < g.l.length
  ·obtain ⟨x,hx⟩ := at_lt hm
   have hl : m < (rangeI g.l.length).length := by rw [rangeI_len]; exact hm
   rw [List.drop_eq_getElem_cons hl,List.flatMap_cons,rest_kd hg c (m + 1) (by omega),rest_cons hx]
   have : (rangeI g.l.length)[m] = (m : Int) := by
    have := rangeI_at hm
    rw [List.getElem?_eq_getElem hl] at this
    exact Option.some.inj this
   rw [this,hg.kd hx]
  ·rw [List.drop_of_length_le (by rw [rangeI_len]; omega)]
   unfold rest
   rw [List.drop_of_length_le (by omega)]; rfl
theorem St18.bound {g : Gr} (hg : Tdy g) {m : Nat} {s : List Int} (h : St18 g m s) : g.l.length <= m + s.length + (rest g m).length := by
 have := walk_le h.w
 rw [rangeI_len,rangeI_len,rest_kd hg _ m (Nat.le_refl _)] at this
 exact this
theorem DepW.keep {k : Int -> List Int} {d : Int} {t a b : List Int} (h : DepW k d t a b) : ∀ (i : Nat) (x : Int),a[i]? = some x -> 0 < x -> b[i]? = some x := by
 induction h with
 | nil => exact fun _ _ h _ => h
 | skip _ _ _ ih => exact ih
 | @step d j r a b c y hy hn _ _ ih1 ih2 =>
  intro i x hx h0
  refine ih2 i x (ih1 i x ?_ h0) h0
  rw [List.getElem?_set]
  split
  ·rename_i e; subst e; rw [hy] at hx; cases hx; exact absurd h0 hn
  ·exact hx
abbrev KC (F : List Int) (is t : List Int) : Prop := All2 (fun p i => ∃ q : Nat,p = (q : Int) /\ F[q]? = some i) is t
theorem KC.app {F is t : List Int} (h : KC F is t) (E : List Int) : KC (F ++ E) is t := h.mono fun p i ⟨q,hq,hf⟩ => ⟨q,hq,by
 rw [List.getElem?_append_left (Kr.1 hf).1]; exact hf⟩
abbrev NC (g : Gr) (F : List Int) (new : List Nd) (org : List Int) : Prop := All2 (fun x o => ∃ (i : Nat) (y : Nd),o = (i : Int) /\ g.l[i]? = some y /\ x.k = y.k /\ x.x = y.x /\ x.keys = y.keys /\ KC F x.kids y.kids) new org
theorem NC.app {g : Gr} {F : List Int} {new : List Nd} {org : List Int} (h : NC g F new org) (E : List Int) : NC g (F ++ E) new org := h.mono fun _ _ ⟨i,y,h1,h2,h3,h4,h5,h6⟩ => ⟨i,y,h1,h2,h3,h4,h5,h6.app E⟩
def Ly (g : Gr) (m : Nat) (F : List Int) (nm : Nm) : Prop := ∀ j : Nat,j < m -> 0 < anc g j -> ∃ p : Nat,getS nm (aName (anc g j)) = some (p : Int) /\ F[p]? = some (j : Int)
theorem Ly.app {g : Gr} {m : Nat} {F : List Int} {nm : Nm} (h : Ly g m F nm) (E : List Int) : Ly g m (F ++ E) nm := fun j hj ha => by
 obtain ⟨p,h1,h2⟩ := h j hj ha
 exact ⟨p,h1,by rw [List.getElem?_append_left (Kr.1 h2).1]; exact h2⟩
structure Res18 (g : Gr) (t : List Int) (F : List Int) (L : Lr) (m' : Nat) (org : List Int) : Prop where
 len : org.length = L.new.length
 is : KC (F ++ org) L.is t
 new : NC g (F ++ org) L.new org
 nm : Ly g m' (F ++ org) L.nm
def Tre (g : Gr) (m : Nat) (s : List Int) : Prop := m + s.length + (rest g m).length = g.l.length
structure Lay18 (g : Gr) (m m' : Nat) (t : List Int) (tr : Prop) (F : List Int) (L : Lr) : Prop where
 tree : tr -> F = rangeI m -> L.e = 0
 ok : L.e = 71 \/ (L.e = 0 /\ ∃ org,Res18 g t F L m' org /\ (tr -> F = rangeI m -> F ++ org = rangeI m'))
def MetOK (met : List Int) (m : Nat) : Prop := ∀ j : Int,j ∈ met ↔ 0 <= j /\ j < m
theorem met_in {met : List Int} {i : Int} (h : i ∈ met) : metP met i = met := by unfold metP; rw [if_pos h]
theorem MetOK.next {met : List Int} {m : Nat} (h : MetOK met m) : MetOK (metP met m) (m + 1) := by
 intro j
 unfold metP
 rw [if_neg (fun e => by have := (h m).1 e; omega),List.mem_append,h j,List.mem_singleton]
 omega
theorem node_shape {g : Gr} (hg : Tdy g) {i : Nat} {x : Nd} (hx : g.l[i]? = some x) {n : Int} {q : List Tr} (hq : q.length = x.kids.length) (h0 : n <= 0 \/ (0 < n /\ n < 100)) :
  shapeT rightS (.mk x.k (aName n) x.x x.keys q) = true /\ x.keys.Nodup /\ x.k ≠ 3 := by
 have hr := (chk_ok hg.good.c).2.2 x (List.mem_of_getElem? hx)
 have hn : (decide (aName n = ⟨#[]⟩) || isNameB (aName n)) = true := by
  rcases h0 with h0 | ⟨h0,h1⟩
  ·rw [aName_nil (by omega)]; rfl
  ·rw [aName_name h0 h1,Bool.or_true]
 have hs : shapeT rightS (.mk x.k (aName n) x.x x.keys q) = (if x.k = 0 then oneT rightS (.mk x.k (aName n) x.x x.keys q) else if x.k = 1 then seqT (.mk x.k (aName n) x.x x.keys q) else if x.k = 2 then mapT rightS (.mk x.k (aName n) x.x x.keys q) else if x.k = 3 then refT (.mk x.k (aName n) x.x x.keys q) else false) := by
  show (_ && (decide (aName n = ⟨#[]⟩) || isNameB (aName n))) = _
  rw [hn,Bool.and_true]; rfl
 rw [hs]
 unfold nodeR at hr
 split at hr
 ·rename_i hk
  simp only [oneR,Bool.and_eq_true,decide_eq_true_eq] at hr
  rw [if_pos hk]
  have hq0 : q = [] := by rw [hr.2.2] at hq; exact List.length_eq_zero_iff.1 hq
  refine ⟨?_,by rw [hr.2.1]; simp,by omega⟩
  simp [oneT,Tr.x,Tr.keys,Tr.kids,hr.1,hr.2.1,hq0]
 ·rename_i hk
  rw [if_neg hk]
  split at hr
  ·rename_i hk1
   simp only [seqR,Bool.and_eq_true,decide_eq_true_eq] at hr
   rw [if_pos hk1]
   refine ⟨?_,by rw [hr.2.1]; simp,by omega⟩
   simp [seqT,Tr.x,Tr.keys,hr.1,hr.2.1]
  ·rename_i hk1
   rw [if_neg hk1]
   split at hr
   ·rename_i hk2
    simp only [mapR,keysR,Bool.and_eq_true,decide_eq_true_eq] at hr
    rw [if_pos hk2]
    refine ⟨?_,hr.2.2.1.2,by omega⟩
    have h5 : decide (x.keys.length = q.length) = true := by rw [hq]; simpa using hr.2.1
    show (isZ x.x && (decide (x.keys.length = q.length) && x.keys.all (prR rightS))) = true
    rw [h5,hr.1,hr.2.2.1.1]; rfl
   ·cases hr
theorem ref_shape {n : Int} (h0 : 0 < n) (h1 : n < 100) : shapeT rightS (.mk 3 (aName n) ⟨0,0,⟨#[]⟩⟩ [] []) = true := by
 have h2 := aName_name h0 h1
 have h3 := aName_ne h0
 simp [shapeT,refT,Tr.k,Tr.x,Tr.keys,Tr.kids,Tr.name,h2,h3,isZ]
theorem ofF_node {g : Gr} {f : Nat} {i : Nat} {x : Nd} {met met' : List Int} {q : List Tr} (hx : g.l[i]? = some x) (hi : i < g.l.length) (hn : ¬ (0 < anc g i /\ (i : Int) ∈ met)) (hq : ofL (ofF g (ancL g) f) x.kids (metP met i) = some (q,met')) :
  ofF g (ancL g) (f + 1) i met = some (.mk x.k (aName (anc g i)) x.x x.keys q,met') := by
 simp only [ofF]
 rw [if_pos (by omega),Int.toNat_natCast,hx,Option.bind_some,anc_get hi,Option.bind_some,if_neg (fun hh => hn ⟨Classical.byContradiction fun h0 => hh.1 (aName_nil h0),hh.2⟩),hq]
 rfl
theorem ofF_ref {g : Gr} {f : Nat} {i : Nat} {x : Nd} {met : List Int} (hx : g.l[i]? = some x) (hi : i < g.l.length) (hn : 0 < anc g i /\ (i : Int) ∈ met) :
  ofF g (ancL g) (f + 1) i met = some (.mk 3 (aName (anc g i)) ⟨0,0,⟨#[]⟩⟩ [] [],met) := by
 simp only [ofF]
 rw [if_pos (by omega),Int.toNat_natCast,hx,Option.bind_some,anc_get hi,Option.bind_some,if_pos ⟨aName_ne hn.1,hn.2⟩]
theorem unfold_ok {g : Gr} (hg : Tdy g) (hdp : deepOK g) (hN : g.l.length < 100) {d : Int} {t av bv : List Int} (h : DepW (kd g) d t av bv) :
  ∀ {m : Nat} {r met : List Int},0 < d -> av.length = g.l.length -> (∀ (i : Nat) (x : Int),av[i]? = some x -> (0 < x ↔ i < m)) -> St18 g m (t ++ r) -> (t ≠ [] -> d <= 24) -> (∀ (i : Nat) (x : Int),bv[i]? = some x -> 0 < x -> (depL g)[i]? = some x) -> MetOK met m ->
   ∃ (m' : Nat) (met' : List Int) (q : List Tr),(∀ (i : Nat) (x : Int),bv[i]? = some x -> (0 < x ↔ i < m')) /\ St18 g m' r /\ MetOK met' m' /\ (∃ f0 : Nat,∀ f,f0 <= f -> ofL (ofF g (ancL g) f) t met = some (q,met')) /\ (∀ c ∈ q,smT c) /\ m <= m' /\ (Tre g m (t ++ r) -> Tre g m' r) /\
    ∀ (F : List Int) (nm : Nm),Ly g m F nm -> Lay18 g m m' t (Tre g m (t ++ r)) F (layK rightS q d F.length nm) := by
 induction h with
 | nil d a =>
  intro m r met _ _ hv hst _ _ hm
  refine ⟨m,met,[],hv,hst,hm,⟨0,fun f _ => rfl⟩,by simp,Nat.le_refl _,fun h => h,fun F nm hl => ?_⟩
  refine ⟨fun _ _ => by simp [layK],.inr ⟨by simp [layK],[],⟨by simp [layK],by simp [layK,All2],by simp [layK,All2],by simpa [layK] using hl⟩,fun _ h => by simpa using h⟩⟩
 | @skip d i t a b x hx h0 _ ih =>
  intro m r met hd hl hv hst h24 hp hm
  have him : i < m := (hv i x hx).1 h0
  have hiN : i < g.l.length := by have := (Kr.1 hx).1; omega
  obtain ⟨hst',hu⟩ : St18 g m (t ++ r) /\ 2 <= (0 :: flat g).count (i : Int) := hst.skip him
  have htr : ¬ Tre g m ((i : Int) :: t ++ r) := fun hT => by
   have := hst'.bound hg
   unfold Tre at hT
   simp only [List.length_cons,List.length_append] at hT this
   omega
  have hd24 := h24 (by simp)
  obtain ⟨y,hy⟩ := at_lt hiN
  have himet : (i : Int) ∈ met := (hm i).2 ⟨by omega,by omega⟩
  obtain ⟨m',met',q,e1,e2,e3,⟨f0,e4⟩,e5,e6,e7,e8⟩ := ih hd hl hv hst' (fun _ => hd24) hp hm
  have hsy := hg.good.s y (List.mem_of_getElem? hy)
  by_cases ha : 0 < anc g i
  · -- a name
   have hcs : smT (.mk 3 (aName (anc g i)) ⟨0,0,⟨#[]⟩⟩ [] []) := by simp [smT,smL]
   refine ⟨m',met',.mk 3 (aName (anc g i)) ⟨0,0,⟨#[]⟩⟩ [] [] :: q,e1,e2,e3,⟨f0 + 1,fun f hf => ?_⟩,?_,e6,fun h => absurd h htr,fun F nm hL => ?_⟩
   ·obtain ⟨f,rfl⟩ : ∃ f',f = f' + 1 := ⟨f - 1,by omega⟩
    simp only [ofL]
    rw [ofF_ref hy hiN ⟨ha,himet⟩,Option.bind_some]
    simp only
    rw [e4 (f + 1) (by omega)]; rfl
   ·intro c hc
    rcases List.mem_cons.1 hc with rfl | hc
    ·exact hcs
    ·exact e5 c hc
   ·obtain ⟨p,hp1,hp2⟩ := hL i him ha
    have hle := anc_le hiN
    have hchk : chkT rightS (.mk 3 (aName (anc g i)) ⟨0,0,⟨#[]⟩⟩ [] []) d F.length nm = 0 := by
     unfold chkT
     rw [if_neg (by omega),if_neg (by rw [ref_shape ha (by omega)]; simp),if_neg (by simp [Tr.keys]),if_neg (by simp [Tr.k,Tr.name,hp1]),if_neg (by simp [Tr.k])]
    have hlt : layT rightS (.mk 3 (aName (anc g i)) ⟨0,0,⟨#[]⟩⟩ [] []) d F.length nm = ⟨[(p : Int)],0,[],nm⟩ := by
     rw [layT_eq,hchk,if_neg (by simp)]
     simp [Tr.k,Tr.name,hp1]
    rw [layK_cons,hlt]
    simp only [ne_eq,not_true,if_false,List.length_nil,Nat.add_zero,List.nil_append]
    obtain ⟨t1,t2⟩ := e8 F nm hL
    refine ⟨fun h => absurd h htr,?_⟩
    rcases t2 with t2 | ⟨t2,org,t3,t4⟩
    ·exact .inl t2
    ·refine .inr ⟨t2,org,⟨t3.len,?_,t3.new,t3.nm⟩,fun h => absurd h htr⟩
     refine ⟨⟨p,rfl,?_⟩,t3.is⟩
     rw [List.getElem?_append_left (Kr.1 hp2).1]; exact hp2
  · -- a leaf
   have hky : y.kids = [] := Classical.byContradiction fun hk => ha ((anc_pos hy).2 ⟨hk,by omega⟩)
   have ha0 : anc g i <= 0 := by omega
   have hnm := aName_nil (n := anc g i) (by omega)
   obtain ⟨hsh,hnd,hk3⟩ := node_shape hg hy (n := anc g i) (q := []) (by rw [hky]; rfl) (.inl ha0)
   refine ⟨m',met',.mk y.k (aName (anc g i)) y.x y.keys [] :: q,e1,e2,e3,⟨f0 + 1,fun f hf => ?_⟩,?_,e6,fun h => absurd h htr,fun F nm hL => ?_⟩
   ·obtain ⟨f,rfl⟩ : ∃ f',f = f' + 1 := ⟨f - 1,by omega⟩
    simp only [ofL]
    rw [ofF_node hy hiN (fun hh => ha hh.1) (q := []) (met' := met) (by rw [hky,met_in himet]; rfl),Option.bind_some]
    simp only
    rw [e4 (f + 1) (by omega)]; rfl
   ·intro c hc
    rcases List.mem_cons.1 hc with rfl | hc
    ·rw [smT_iff]; exact ⟨hsy.1,by simp [Tr.kids],by simp [Tr.kids]⟩
    ·exact e5 c hc
   ·have hchk : chkT rightS (.mk y.k (aName (anc g i)) y.x y.keys []) d F.length nm = if F.length = 200 then 71 else 0 := by
     unfold chkT
     rw [if_neg (by omega),if_neg (by rw [hsh]; simp),if_neg (fun hh => hh hnd),if_neg (fun hh => hk3 hh.1)]
     by_cases h2 : F.length = 200
     ·rw [if_pos ⟨hk3,h2⟩,if_pos h2]
     ·rw [if_neg (fun hh => h2 hh.2),if_neg h2]
    refine ⟨fun h => absurd h htr,?_⟩
    rw [layK_cons]
    by_cases h2 : F.length = 200
    ·rw [if_pos h2] at hchk
     rw [layT_eq,hchk]
     exact .inl rfl
    ·rw [if_neg h2] at hchk
     have hlt : layT rightS (.mk y.k (aName (anc g i)) y.x y.keys []) d F.length nm = ⟨[(F.length : Int)],0,[⟨y.k,y.x,y.keys,[]⟩],nm⟩ := by
      rw [layT_eq,hchk,if_neg (by simp),if_neg (show ¬ (Tr.mk y.k (aName (anc g i)) y.x y.keys []).k = 3 from hk3)]
      simp [Tr.k,Tr.name,Tr.kids,Tr.x,Tr.keys,layK,hnm]
     rw [hlt]
     simp only [ne_eq,not_true,if_false,List.length_cons,List.length_nil,Nat.zero_add]
     obtain ⟨t1,t2⟩ := e8 (F ++ [(i : Int)]) nm (hL.app _)
     rw [List.length_append,List.length_cons,List.length_nil,Nat.zero_add] at t1 t2
     rcases t2 with t2 | ⟨t2,org,t3,t4⟩
     ·exact .inl t2
     ·refine .inr ⟨t2,(i : Int) :: org,⟨?_,?_,?_,?_⟩,fun h => absurd h htr⟩
      ·simp [t3.len]
      ·refine ⟨⟨F.length,rfl,by rw [List.getElem?_append_right (Nat.le_refl _),Nat.sub_self]; rfl⟩,?_⟩
       have := t3.is; rwa [List.append_assoc] at this
      ·refine ⟨⟨i,y,rfl,hy,rfl,rfl,rfl,by rw [hky]; exact trivial⟩,?_⟩
       have := t3.new; rwa [List.append_assoc] at this
      ·have := t3.nm; rwa [List.append_assoc] at this
 | @step d i t a b c x hx h0 hb hc ih1 ih2 =>
  intro m r met hd hl hv hst h24 hp hm
  have him : ¬ i < m := fun e => h0 ((hv i x hx).2 e)
  have hlt := (Kr.1 hx).1
  obtain ⟨hie,y,hy,hky,hst1⟩ : i = m /\ ∃ y,g.l[m]? = some y /\ kd g m = y.kids /\ St18 g (m + 1) (y.kids ++ (t ++ r)) := hst.step hg him
  subst hie
  have hiN := (Kr.1 hy).1
  have hset : (a.set i d)[i]? = some d := by rw [List.getElem?_set]; simp [hlt]
  have hv1 : ∀ (j : Nat) (z : Int),(a.set i d)[j]? = some z -> (0 < z ↔ j < i + 1) := by
   intro j z hz
   rw [List.getElem?_set] at hz
   split at hz
   ·rename_i e; subst e
    simp [hlt] at hz; subst hz
    exact ⟨fun _ => by omega,fun _ => hd⟩
   ·rename_i e
    rw [hv j z hz]; omega
  have hdd := hdp i y d hy (hp i d (hc.keep i d (hb.keep i d hset hd) hd) hd)
  have hsy := hg.good.s y (List.mem_of_getElem? hy)
  rw [hky] at hb ih1
  obtain ⟨m1,met1,q1,v1,s1,mo1,⟨f1,k1⟩,sm1,le1,tr1,L1⟩ := ih1 (m := i + 1) (r := t ++ r) (met := metP met i) (by omega) (by simp [hl]) hv1 hst1
   (fun hne => Int.not_lt.1 fun hh => hne (hdd.2 (by omega))) (fun j z hz hz0 => hp j z (hc.keep j z hz hz0) hz0) hm.next
  obtain ⟨m2,met2,q2,v2,s2,mo2,⟨f2,k2⟩,sm2,le2,tr2,L2⟩ := ih2 (m := m1) (r := r) (met := met1) hd (by rw [hb.len]; simp [hl]) v1 s1 (fun _ => h24 (by simp)) hp mo1
  have hq1 := ofL_len (k1 f1 (Nat.le_refl _))
  have himet : (i : Int) ∉ met := fun e => by have := (hm i).1 e; omega
  have hT1 : Tre g i ((i : Int) :: t ++ r) -> Tre g (i + 1) (y.kids ++ (t ++ r)) := by
   intro hT
   unfold Tre at hT ⊢
   rw [rest_cons hy] at hT
   simp only [List.length_cons,List.length_append] at hT ⊢
   omega
  have hale := anc_le hiN
  obtain ⟨hsh,hnd,hk3⟩ := node_shape hg hy (n := anc g i) hq1 (by omega)
  refine ⟨m2,met2,.mk y.k (aName (anc g i)) y.x y.keys q1 :: q2,v2,s2,mo2,⟨max f1 f2 + 1,fun f hf => ?_⟩,?_,by omega,fun hT => tr2 (tr1 (hT1 hT)),fun F nm hL => ?_⟩
  ·obtain ⟨f,rfl⟩ : ∃ f',f = f' + 1 := ⟨f - 1,by omega⟩
   simp only [ofL]
   rw [ofF_node hy hiN (fun hh => himet hh.2) (k1 f (by omega)),Option.bind_some]
   simp only
   rw [k2 (f + 1) (by omega)]; rfl
  ·intro c hc
   rcases List.mem_cons.1 hc with rfl | hc
   ·rw [smT_iff]; exact ⟨hsy.1,by show q1.length <= 12; rw [hq1]; exact hsy.2,sm1⟩
   ·exact sm2 c hc
  ·have hchk : chkT rightS (.mk y.k (aName (anc g i)) y.x y.keys q1) d F.length nm = if F.length = 200 then 71 else 0 := by
    unfold chkT
    rw [if_neg (by omega),if_neg (by rw [hsh]; simp),if_neg (fun hh => hh hnd),if_neg (fun hh => hk3 hh.1)]
    by_cases h2 : F.length = 200
    ·rw [if_pos ⟨hk3,h2⟩,if_pos h2]
    ·rw [if_neg (fun hh => h2 hh.2),if_neg h2]
   rw [layK_cons]
   by_cases h2 : F.length = 200
   ·rw [if_pos h2] at hchk
    rw [layT_eq,hchk]
    refine ⟨fun _ hF => ?_,.inl rfl⟩
    rw [hF,rangeI_len] at h2; omega
   ·rw [if_neg h2] at hchk
    have hL1 : Ly g (i + 1) (F ++ [(i : Int)]) (if aName (anc g i) = ⟨#[]⟩ then nm else putS nm (aName (anc g i)) F.length) := by
     intro j hj haj
     have hFi : (F ++ [(i : Int)])[F.length]? = some (i : Int) := by rw [List.getElem?_append_right (Nat.le_refl _),Nat.sub_self]; rfl
     by_cases hji : j = i
     ·subst hji
      rw [if_neg (aName_ne haj),getS_putS,if_pos rfl]
      exact ⟨F.length,rfl,hFi⟩
     ·obtain ⟨p,hp1,hp2⟩ := hL.app [(i : Int)] j (by omega) haj
      refine ⟨p,?_,hp2⟩
      split
      ·exact hp1
      ·rename_i hne
       have hi0 : 0 < anc g i := Classical.byContradiction fun hh => hne (aName_nil hh)
       rw [getS_putS,if_neg (fun e => hji (anc_inj (by omega) hiN haj (aName_inj haj hi0 e)))]
       exact hp1
    have hlt' := layT_eq rightS (.mk y.k (aName (anc g i)) y.x y.keys q1) d F.length nm
    rw [hchk,if_neg (by simp),if_neg (show ¬ (Tr.mk y.k (aName (anc g i)) y.x y.keys q1).k = 3 from hk3)] at hlt'
    obtain ⟨nm1,hnm1⟩ : ∃ z,z = (if aName (anc g i) = ⟨#[]⟩ then nm else putS nm (aName (anc g i)) F.length) := ⟨_,rfl⟩
    rw [<- hnm1] at hL1
    have hlt2 : layT rightS (.mk y.k (aName (anc g i)) y.x y.keys q1) d F.length nm = ⟨[if (layK rightS q1 (d + 1) (F.length + 1) nm1).e ≠ 0 then 0 else (F.length : Int)],(layK rightS q1 (d + 1) (F.length + 1) nm1).e,⟨y.k,y.x,y.keys,(layK rightS q1 (d + 1) (F.length + 1) nm1).is⟩ :: (layK rightS q1 (d + 1) (F.length + 1) nm1).new,(layK rightS q1 (d + 1) (F.length + 1) nm1).nm⟩ := by
     rw [hnm1]; exact hlt'
    rw [hlt2]
    obtain ⟨A1,A2⟩ := L1 (F ++ [(i : Int)]) nm1 hL1
    rw [show (F ++ [(i : Int)]).length = F.length + 1 from by simp] at A1 A2
    generalize layK rightS q1 (d + 1) (F.length + 1) nm1 = r1 at *
    have hrng : F = rangeI i -> F ++ [(i : Int)] = rangeI (i + 1) := fun e => by rw [e,rangeI_succ]
    rcases A2 with A2 | ⟨A2,org1,R1,T1⟩
    ·simp only
     rw [if_pos (show r1.e ≠ 0 by omega)]
     refine ⟨fun hT hF => ?_,.inl A2⟩
     have := A1 (hT1 hT) (hrng hF)
     exact this
    ·simp only [A2,ne_eq,not_true,if_false]
     obtain ⟨B1,B2⟩ := L2 (F ++ [(i : Int)] ++ org1) r1.nm R1.nm
     rw [show (F ++ [(i : Int)] ++ org1).length = F.length + (r1.new.length + 1) from by simp [R1.len]] at B1 B2
     simp only [List.length_cons]
     generalize layK rightS q2 d (F.length + (r1.new.length + 1)) r1.nm = r2 at *
     refine ⟨fun hT hF => B1 (tr1 (hT1 hT)) (T1 (hT1 hT) (hrng hF)),?_⟩
     rcases B2 with B2 | ⟨B2,org2,R2,T2⟩
     ·exact .inl B2
     ·have he : F ++ (i : Int) :: (org1 ++ org2) = F ++ [(i : Int)] ++ org1 ++ org2 := by simp
      refine .inr ⟨B2,(i : Int) :: (org1 ++ org2),⟨?_,?_,?_,?_⟩,fun hT hF => ?_⟩
      ·simp [R1.len,R2.len]
      ·rw [he]
       refine ⟨⟨F.length,rfl,by rw [List.append_assoc,List.append_assoc,List.getElem?_append_right (Nat.le_refl _),Nat.sub_self]; rfl⟩,R2.is⟩
      ·rw [he]
       exact ⟨⟨i,y,rfl,hy,rfl,rfl,rfl,R1.is.app org2⟩,All2.append (R1.new.app org2) R2.new⟩
      ·rw [he]; exact R2.nm
      ·rw [he]; exact T2 (tr1 (hT1 hT)) (T1 (hT1 hT) (hrng hF))
theorem layK_one {R : ByteArray -> Bool} (c : Tr) (d : Int) (n : Nat) (nm : Nm) : layK R [c] d n nm = layT R c d n nm := by
 rw [layK_cons]
 split
 ·rfl
 ·rename_i h
  simp only [layK,List.append_nil]
  have he : (layT R c d n nm).e = 0 := by omega
  generalize layT R c d n nm = r at *
  cases r
  simp only at he
  subst he
  rfl
theorem tree_whole {g : Gr} (hg : Tdy g) (hdp : deepOK g) (hN : g.l.length < 100) : ∃ (t : Tr) (met : List Int) (f : Nat),ofF g (ancL g) f 0 [] = some (t,met) /\ smT t /\ Lay18 g 0 g.l.length [0] (Tre g 0 [0]) [] (layT rightS t 1 0 []) := by
 have h0 : ∀ (i : Nat) (x : Int),(List.replicate g.l.length (0 : Int))[i]? = some x -> (0 < x ↔ i < 0) := by
  intro i x hx
  rw [List.getElem?_replicate] at hx
  split at hx
  ·cases hx; simp
  ·cases hx
 obtain ⟨m',met',q,e1,e2,e3,⟨f0,e4⟩,e5,e6,e7,e8⟩ := unfold_ok hg hdp hN hg.dep (m := 0) (r := []) (met := []) (by omega) (by simp) h0 (St18.first hg) (fun _ => by omega) (fun _ _ h _ => h) (fun j => by constructor <;> intro h <;> simp at h; omega)
 have hm' : m' = g.l.length := by
  have := e2.w.nil_inv
  have h2 := congrArg List.length this
  simp only [rangeI_len] at h2
  omega
 subst hm'
 have h4 := e4 f0 (Nat.le_refl _)
 simp only [ofL] at h4
 obtain ⟨p,h5,h6⟩ := Option.bind_eq_some_iff.1 h4
 simp only [Option.map_some,Option.some.injEq,Prod.mk.injEq] at h6
 obtain ⟨rfl,h7⟩ := h6
 refine ⟨p.1,p.2,f0,h5,e5 _ (by simp),?_⟩
 have h8 := e8 [] [] (fun j hj _ => by omega)
 rw [List.length_nil,layK_one] at h8
 exact h8
theorem sumN_ge18 {f : Nat -> Int} : ∀ {n : Nat},(∀ i,i < n -> 1 <= f i) -> (n : Int) <= sumN f n
 | 0,_ => by simp [sumN]
 | n + 1,h => by
  have h1 := sumN_ge18 (f := f) (n := n) fun i hi => h i (by omega)
  have h2 := h n (by omega)
  simp only [sumN]; omega
theorem sumN_ones18 {f : Nat -> Int} : ∀ {n : Nat},(∀ i,i < n -> 1 <= f i) -> sumN f n = n -> ∀ i,i < n -> f i = 1
 | 0,_,_,i,hi => by omega
 | n + 1,h,hs,i,hi => by
  have h1 := sumN_ge18 (f := f) (n := n) fun i hi => h i (by omega)
  have h2 := h n (by omega)
  simp only [sumN] at hs
  by_cases e : i = n
  ·subst e; omega
  ·exact sumN_ones18 (n := n) (fun i hi => h i (by omega)) (by omega) i (by omega)
theorem tree_anc {g : Gr} (hg : Tdy g) (ht : (flat g).length + 1 = g.l.length) {i : Nat} (hi : i < g.l.length) : anc g i <= 0 := by
 obtain ⟨x,hx⟩ := at_lt hi
 have h1 := sumN_count (n := g.l.length) (ks := 0 :: flat g) (fun k hk => by
  rcases List.mem_cons.1 hk with rfl | hk
  ·have := hg.pos; omega
  ·exact hg.flatIn k hk)
 have h2 := sumN_ones18 (n := g.l.length) (f := fun i => (((0 :: flat g).count (i : Int) : Nat) : Int)) (fun i hi => by have := hg.uses_pos hi; omega) (by rw [h1]; simp; omega) i hi
 refine Int.not_lt.1 fun h => ?_
 have := ((anc_pos hx).1 h).2
 omega
theorem flat_plain {g : Gr} (hg : Tdy g) (ha : ∀ i,i < g.l.length -> anc g i <= 0) : ∀ (f : Nat) (i : Int) (met met' : List Int) (t : Tr),ofF g (ancL g) f i met = some (t,met') -> ∀ c ∈ flatT t,c.name = ⟨#[]⟩ /\ c.k ≠ 3 := by
 intro f
 induction f with
 | zero => intro i met met' t h; cases h
 | succ f ih =>
  intro i met met' t hof
  simp only [ofF] at hof
  obtain ⟨x,hx,hof⟩ := Option.bind_eq_some_iff.1 hof
  obtain ⟨n,hn,hof⟩ := Option.bind_eq_some_iff.1 hof
  split at hx
  case isFalse => cases hx
  rename_i hi
  obtain ⟨m,rfl⟩ := Int.eq_ofNat_of_zero_le hi
  rw [Int.toNat_natCast] at hx hn
  have hm := (Kr.1 hx).1
  have hn0 : n <= 0 := by
   rw [anc_get hm] at hn
   cases hn
   exact ha m hm
  have hnm := aName_nil (n := n) (by omega)
  rw [if_neg (fun hh => hh.1 hnm)] at hof
  obtain ⟨q,hq,he⟩ := Option.map_eq_some_iff.1 hof
  simp only [Prod.mk.injEq] at he
  obtain ⟨rfl,rfl⟩ := he
  have hL : ∀ (l : List Int) (met : List Int) (q : List Tr × List Int),ofL (ofF g (ancL g) f) l met = some q -> ∀ u ∈ q.1,∀ c ∈ flatT u,c.name = ⟨#[]⟩ /\ c.k ≠ 3 := by
   intro l
   induction l with
   | nil => intro met q h; simp only [ofL,Option.some.injEq] at h; subst h; simp
   | cons k l ihl =>
    intro met q h
    simp only [ofL] at h
    obtain ⟨p,h1,h2⟩ := Option.bind_eq_some_iff.1 h
    obtain ⟨q2,h3,rfl⟩ := Option.map_eq_some_iff.1 h2
    intro u hu
    rcases List.mem_cons.1 hu with rfl | hu
    ·exact ih k met p.2 p.1 h1
    ·exact ihl p.2 q2 h3 u hu
  intro c hc
  rw [flatT_eq] at hc
  rcases List.mem_cons.1 hc with rfl | hc
  ·exact ⟨hnm,(node_shape hg hx (n := n) (q := q.1) (ofL_len hq) (.inl hn0)).2.2⟩
  ·obtain ⟨u,hu,hc⟩ := List.mem_flatMap.1 hc
   exact hL x.kids _ q hq u hu c hc
theorem own_flat (t : Tr) : (∀ c ∈ flatT t,c.k ≠ 3) -> ownT t = (flatT t).length := by
 induction t using tr_ind with
 | h t ih =>
  intro h
  rw [ownT_eq,flatT_eq,if_neg (h t (by rw [flatT_eq]; simp))]
  rw [flatT_eq] at h
  have : ∀ l : List Tr,(∀ c ∈ l,c ∈ t.kids) -> ownL l = (l.flatMap flatT).length := by
   intro l
   induction l with
   | nil => intro _; rfl
   | cons a l ihl =>
    intro hl
    have ha := hl a (by simp)
    simp only [ownL,List.flatMap_cons,List.length_append]
    rw [ih a ha (fun c hc => h c (List.mem_cons_of_mem _ (List.mem_flatMap.2 ⟨a,ha,hc⟩))),ihl (fun c hc => hl c (by simp [hc]))]
  rw [this t.kids (fun c hc => hc),List.length_cons]
  omega
theorem names_none {t : Tr} (h : ∀ c ∈ flatT t,c.name = ⟨#[]⟩ /\ c.k ≠ 3) : namesT t = [] := by
 unfold namesT namesOf
 rw [List.map_eq_nil_iff,List.filter_eq_nil_iff]
 intro c hc
 simp [namedB,(h c hc).1]
theorem tree_same {g : Gr} (hg : Tdy g) (ht : (flat g).length + 1 = g.l.length) {L : Lr} (h : Lay18 g 0 g.l.length [0] (Tre g 0 [0]) [] L) : L.e = 0 /\ (⟨0,L.new⟩ : Gr) = g := by
 have hT : Tre g 0 [0] := by unfold Tre rest; simp only [List.drop_zero,List.length_cons,List.length_nil]; unfold flat at ht; omega
 have he := h.tree hT rfl
 refine ⟨he,?_⟩
 rcases h.ok with h1 | ⟨_,org,hr,h2⟩
 ·omega
 ·have h3 := h2 hT rfl
  rw [List.nil_append] at h3
  subst h3
  have hn := hr.new
  have hlen := hr.len
  rw [rangeI_len] at hlen
  rw [List.nil_append] at hn
  have hl : L.new = g.l := by
   apply List.ext_getElem?
   intro i
   by_cases hi : i < g.l.length
   ·obtain ⟨x,hx⟩ := at_lt (l := L.new) (i := i) (by omega)
    obtain ⟨o,ho,j,y,rfl,hy,k1,k2,k3,k4⟩ := hn.get hx
    rw [rangeI_at hi] at ho
    have hji : j = i := by have := Option.some.inj ho; omega
    subst hji
    rw [hx,hy]
    have hk : x.kids = y.kids := by
     apply List.ext_getElem?
     intro c
     by_cases hc : c < x.kids.length
     ·obtain ⟨p,hp⟩ := at_lt hc
      obtain ⟨b,hb,q,rfl,hq⟩ := k4.get hp
      rw [hp,hb]
      have hql := (Kr.1 hq).1
      rw [rangeI_len] at hql
      rw [rangeI_at hql] at hq
      exact hq
     ·rw [List.getElem?_eq_none (by omega),List.getElem?_eq_none (by rw [<- k4.length]; omega)]
    obtain ⟨a1,a2,a3,a4⟩ := x
    obtain ⟨b1,b2,b3,b4⟩ := y
    simp only at k1 k2 k3 hk
    rw [k1,k2,k3,hk]
   ·rw [List.getElem?_eq_none (by omega),List.getElem?_eq_none (by omega)]
  rw [hl]
  have := hg.root
  cases g
  simp only at this
  rw [this]
open Go.Proofs.Tryz renaming prog -> QP
variable {gp : Heap} {ua : Addr}
abbrev deepAt (g : Gr) (i : Nat) : Prop := ∀ (x : Nd) (d : Int),g.l[i]? = some x -> (depL g)[i]? = some d -> d <= 24 /\ (d = 24 -> x.kids = [])
set_option maxHeartbeats 2000000 in
theorem tree_deep (h : Env18 gp ua) {g : Gr} (hg : Tdy g) (hd : ¬ deepOK g) : Does QP gp 11 [g.v] (.tup [Tr0.v,vi 73]) := by
 have c1 := tidy_is h.e g hg.good.s
 rw [decide_eq_true ⟨hg.good.c,hg.self⟩] at c1
 have c2 := depths_g h.e hg
 have hdl := hg.dep_len
 have hlen := hg.good.len
 refine f11_in ?_
 simp only [go_sem]
 repeat' (first | refine Kn rfl ?_ | ((first | refine Ka ?_ | refine G_regp rfl rfl ?_ | refine Kb ?_ | refine Kc ?_ | refine Kd ?_ | refine Ke ?_); simp only [f11_r35,go_sem]) | refine Kf ?_ | refine Kg ?_ | refine ⟨_,c1,Kg ?_⟩ | refine ⟨_,⟨c1,rfl⟩,Kg ?_⟩ | refine ⟨_,c2,Kg ?_⟩ | refine ⟨_,⟨c2,rfl⟩,Kg ?_⟩ | (refine Kp (fun _ => ?_) (fun _ => ?_) <;> try (exfalso; omega)))
 refine Kj (fr 57 [(1,.one (.d (gBx g))),(2,.one (.ptr 0 0)),(3,vi 0),(21,.one (.d (.sl (ints (depL g))))),(22,vi (depL g).length),(23,vi (0 : Nat))]) (by (simp only [go_sem]; repeat' (first | refine Kp ?_ ?_ | exact Or.inl rfl | exact Or.inr rfl | rfl))) ?_
 refine Km (fun mz sz => ∃ i : Nat,i <= (depL g).length /\ mz = (depL g).length - i /\ (∀ j,j < i -> deepAt g j) /\ sz = ⟨fr 57 [(1,.one (.d (gBx g))),(2,.one (.ptr 0 0)),(3,vi 0),(21,.one (.d (.sl (ints (depL g))))),(22,vi (depL g).length),(23,vi i)],[_]⟩) ((depL g).length) ⟨0,Nat.zero_le _,(Nat.sub_zero _).symm,?_,rfl⟩ ?_
 ·intro j hj; omega
 rintro _ _ ⟨i,hi,rfl,hok,rfl⟩
 simp only [go_sem]
 by_cases hil : i < (depL g).length
 ·obtain ⟨d,hdi⟩ := at_lt hil
  obtain ⟨x,hx⟩ := at_lt (l := g.l) (i := i) (by omega)
  have hik : inK .i64 ((i : Int) + 1) := by simp [inK,IntKind.min,IntKind.max,IntKind.signed,IntKind.bits]; omega
  by_cases hbig : d > 24
  ·have e0 : decide (d > 24) = true := by simp; omega
   repeat' (first | refine Kn rfl ?_ | ((first | refine Ka ?_ | refine G_regp rfl rfl ?_ | refine Kb ?_ | refine Kc ?_ | refine Kd ?_ | refine Ke ?_); simp only [f11_r35,e0,go_sem]) | refine Kf ?_ | refine Kg ?_ | refine ⟨_,⟨Kq _,(by first | exact map_at hdi | (rw [Int.toNat_natCast]; exact map_at hdi)),rfl⟩,Kg ?_⟩ | refine ⟨_,⟨Kq _,(by first | exact map_at hx | (rw [Int.toNat_natCast]; exact map_at hx)),rfl⟩,Kg ?_⟩ | refine ⟨hik,?_⟩ | (refine Kp (fun _ => ?_) (fun _ => ?_) <;> try (exfalso; omega)))
   repeat' (first | refine Kn rfl ?_ | ((first | refine Ka ?_ | refine G_regp rfl rfl ?_ | refine Kb ?_ | refine Kc ?_ | refine Kd ?_ | refine Ke ?_); simp only [f11_r35,go_sem]) | refine Kf ?_ | refine Kg ?_ | (refine Kp (fun _ => ?_) (fun _ => ?_) <;> try (exfalso; omega)) | ((first | refine Kh ?_ | refine Ki rfl ?_); simp only [f11_r35,or_self,Qs,Qt,Qu,Qv,Qw,Qx,Qy,Qz,Za,go_sem]))
   all_goals exact ⟨rfl,rfl,rfl,rfl,rfl,rfl,rfl⟩
  ·have e0 : decide (d > 24) = false := by simp; omega
   by_cases h24 : d = 24
   ·have e1 : (d == 24) = true := by simp [h24]
    by_cases hk : x.kids = []
    ·have e2 : decide ((x.kids.length : Int) > 0) = false := by simp [hk]
     repeat' (first | refine Kn rfl ?_ | ((first | refine Ka ?_ | refine G_regp rfl rfl ?_ | refine Kb ?_ | refine Kc ?_ | refine Kd ?_ | refine Ke ?_); simp only [f11_r35,e0,e1,e2,go_sem]) | refine Kf ?_ | refine Kg ?_ | refine ⟨_,⟨Kq _,(by first | exact map_at hdi | (rw [Int.toNat_natCast]; exact map_at hdi)),rfl⟩,Kg ?_⟩ | refine ⟨_,⟨Kq _,(by first | exact map_at hx | (rw [Int.toNat_natCast]; exact map_at hx)),rfl⟩,Kg ?_⟩ | refine ⟨hik,?_⟩ | (refine Kp (fun _ => ?_) (fun _ => ?_) <;> try (exfalso; omega)))
     refine Kj (fr 57 [(1,.one (.d (gBx g))),(2,.one (.ptr 0 0)),(3,vi 0),(21,.one (.d (.sl (ints (depL g))))),(22,vi (depL g).length),(23,vi (i + 1))]) (by (simp only [go_sem]; repeat' (first | refine Kp ?_ ?_ | exact Or.inl rfl | exact Or.inr rfl | rfl))) ?_
     refine Kl ⟨(depL g).length - (i + 1),by omega,i + 1,by omega,rfl,?_,rfl⟩
     intro j hj
     by_cases e : j = i
     ·subst e
      intro y z hy hz
      rw [hx] at hy; rw [hdi] at hz
      cases hy; cases hz
      exact ⟨by omega,fun _ => hk⟩
     ·exact hok j (by omega)
    ·have e2 : decide ((x.kids.length : Int) > 0) = true := by
      have := List.length_pos_iff.2 hk
      simp; omega
     repeat' (first | refine Kn rfl ?_ | ((first | refine Ka ?_ | refine G_regp rfl rfl ?_ | refine Kb ?_ | refine Kc ?_ | refine Kd ?_ | refine Ke ?_); simp only [f11_r35,e0,e1,e2,go_sem]) | refine Kf ?_ | refine Kg ?_ | refine ⟨_,⟨Kq _,(by first | exact map_at hdi | (rw [Int.toNat_natCast]; exact map_at hdi)),rfl⟩,Kg ?_⟩ | refine ⟨_,⟨Kq _,(by first | exact map_at hx | (rw [Int.toNat_natCast]; exact map_at hx)),rfl⟩,Kg ?_⟩ | refine ⟨hik,?_⟩ | (refine Kp (fun _ => ?_) (fun _ => ?_) <;> try (exfalso; omega)))
     repeat' (first | refine Kn rfl ?_ | ((first | refine Ka ?_ | refine G_regp rfl rfl ?_ | refine Kb ?_ | refine Kc ?_ | refine Kd ?_ | refine Ke ?_); simp only [f11_r35,go_sem]) | refine Kf ?_ | refine Kg ?_ | (refine Kp (fun _ => ?_) (fun _ => ?_) <;> try (exfalso; omega)) | ((first | refine Kh ?_ | refine Ki rfl ?_); simp only [f11_r35,or_self,Qs,Qt,Qu,Qv,Qw,Qx,Qy,Qz,Za,go_sem]))
     all_goals exact ⟨rfl,rfl,rfl,rfl,rfl,rfl,rfl⟩
   ·have e1 : (d == 24) = false := by simp [h24]
    repeat' (first | refine Kn rfl ?_ | ((first | refine Ka ?_ | refine G_regp rfl rfl ?_ | refine Kb ?_ | refine Kc ?_ | refine Kd ?_ | refine Ke ?_); simp only [f11_r35,e0,e1,go_sem]) | refine Kf ?_ | refine Kg ?_ | refine ⟨_,⟨Kq _,(by first | exact map_at hdi | (rw [Int.toNat_natCast]; exact map_at hdi)),rfl⟩,Kg ?_⟩ | refine ⟨_,⟨Kq _,(by first | exact map_at hx | (rw [Int.toNat_natCast]; exact map_at hx)),rfl⟩,Kg ?_⟩ | refine ⟨hik,?_⟩ | (refine Kp (fun _ => ?_) (fun _ => ?_) <;> try (exfalso; omega)))
    refine Kj (fr 57 [(1,.one (.d (gBx g))),(2,.one (.ptr 0 0)),(3,vi 0),(21,.one (.d (.sl (ints (depL g))))),(22,vi (depL g).length),(23,vi (i + 1))]) (by (simp only [go_sem]; repeat' (first | refine Kp ?_ ?_ | exact Or.inl rfl | exact Or.inr rfl | rfl))) ?_
    refine Kl ⟨(depL g).length - (i + 1),by omega,i + 1,by omega,rfl,?_,rfl⟩
    intro j hj
    by_cases e : j = i
    ·subst e
     intro y z hy hz
     rw [hx] at hy; rw [hdi] at hz
     cases hy; cases hz
     exact ⟨by omega,fun hh => absurd hh h24⟩
    ·exact hok j (by omega)
 ·exfalso
  exact hd fun j x d hx hdj => hok j (by have := (Kr.1 hdj).1; omega) x d hx hdj
noncomputable def tidG (g : Gr) : Gr := if chk (smallG18 g 40) = none then tidyG (smallG18 g 40) else smallG18 g 40
theorem smallG18_ok (g : Gr) : Small (smallG18 g 40) /\ (smallG18 g 40).l.length <= 40 := by
 unfold smallG18
 split
 ·exact ⟨fun x hx => (by cases hx),by simp⟩
 ·rename_i h
  refine ⟨g.cut_small,?_⟩
  have : g.cut.l.length <= g.l.length := by
   unfold Gr.cut
   simp only [List.length_map,List.length_take]
   omega
  omega
theorem tidied18 (h : Env gp) (g : Gr) : Does QP gp 10 [g.v] (tidG g).v := by
 have c1 := small18 (gp := gp) g 40
 obtain ⟨hs,_⟩ := smallG18_ok g
 have c2 := tidy_gr h (smallG18 g 40) hs
 refine f10_in ?_
 simp only [go_sem]
 unfold tidG
 by_cases hc : chk (smallG18 g 40) = none
 ·rw [if_pos hc]
  rw [chkE_ok hc,show tOf (smallG18 g 40) = tidyG (smallG18 g 40) from by unfold tOf; rw [if_pos hc]] at c2
  repeat' (first | refine Kn rfl ?_ | ((first | refine Ka ?_ | refine G_regp rfl rfl ?_ | refine Kb ?_ | refine Kc ?_ | refine Kd ?_ | refine Ke ?_); simp only [go_sem]) | refine Kf ?_ | refine Kg ?_ | refine ⟨_,c1,Kg ?_⟩ | refine ⟨_,⟨c1,rfl⟩,Kg ?_⟩ | refine ⟨_,c2,Kg ?_⟩ | refine ⟨_,⟨c2,rfl⟩,Kg ?_⟩ | (refine Kp (fun _ => ?_) (fun _ => ?_) <;> try (exfalso; omega)) | ((first | refine Kh ?_ | refine Ki rfl ?_); simp only [or_self,Qs,Qt,Qu,Qv,Qw,Qx,Qy,Qz,Za,go_sem]))
  all_goals (try exact ⟨rfl,rfl⟩)
 ·rw [if_neg hc]
  have e1 : (chkE (smallG18 g 40) == 0) = false := by simpa using chkE_bad hc
  repeat' (first | refine Kn rfl ?_ | ((first | refine Ka ?_ | refine G_regp rfl rfl ?_ | refine Kb ?_ | refine Kc ?_ | refine Kd ?_ | refine Ke ?_); simp only [e1,go_sem]) | refine Kf ?_ | refine Kg ?_ | refine ⟨_,c1,Kg ?_⟩ | refine ⟨_,⟨c1,rfl⟩,Kg ?_⟩ | refine ⟨_,c2,Kg ?_⟩ | refine ⟨_,⟨c2,rfl⟩,Kg ?_⟩ | (refine Kp (fun _ => ?_) (fun _ => ?_) <;> try (exfalso; omega)) | ((first | refine Kh ?_ | refine Ki rfl ?_); simp only [e1,or_self,Qs,Qt,Qu,Qv,Qw,Qx,Qy,Qz,Za,go_sem]))
  all_goals (try exact ⟨rfl,rfl⟩)
theorem tidG_ok (g : Gr) : (Tdy (tidG g) /\ (tidG g).l.length <= 40) \/ (Small (tidG g) /\ ¬ chk (tidG g) = none /\ (tidG g).l.length <= 40) := by
 obtain ⟨hs,hl⟩ := smallG18_ok g
 unfold tidG
 by_cases hc : chk (smallG18 g 40) = none
 ·rw [if_pos hc]
  have hg : Good (smallG18 g 40) := ⟨hc,hs⟩
  exact .inl ⟨hg.tdy,by rw [tidyG_len]; have := hg.wlen; omega⟩
 ·rw [if_neg hc]
  exact .inr ⟨hs,hc,hl⟩
end Go.Fw.L07
