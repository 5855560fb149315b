/- Trees,and what is told of a tidy graph's anchors: plain. -/
import Derived.Test.YtakgmpkfpkmkaaaGreatDoorEb
import Derived.Test.YtakgmpkfpkmkaaaGreatDoorJa
set_option linter.all false
namespace Go.Fw.L07
open Go Go.Fw
open List renaming getElem?_eq_some_iff -> Kr
set_option maxRecDepth 4000
inductive Tr where
 | mk (k : Int) (name : ByteArray) (x : Sc) (keys : List Sc) (kids : List Tr)
def Tr.k : Tr -> Int | .mk k _ _ _ _ => k
def Tr.name : Tr -> ByteArray | .mk _ n _ _ _ => n
def Tr.x : Tr -> Sc | .mk _ _ x _ _ => x
def Tr.keys : Tr -> List Sc | .mk _ _ _ l _ => l
def Tr.kids : Tr -> List Tr | .mk _ _ _ _ l => l
mutual
def Tr.ds : Tr -> List D
 | .mk k name x keys kids => [.int .i64 k,.str name,.int .i64 x.k,.int .i64 x.n,.str x.s,.sl (scs keys),.sl (trsM kids)]
def trsM : List Tr -> List (List D)
 | [] => []
 | t :: l => t.ds :: trsM l
end
abbrev trs (l : List Tr) : List (List D) := l.map Tr.ds
abbrev Tr.dd (t : Tr) : List D := [.int .i64 t.k,.str t.name,.int .i64 t.x.k,.int .i64 t.x.n,.str t.x.s,.sl (scs t.keys),.sl (trs t.kids)]
abbrev Tr.as (t : Tr) : List A := [.d (.int .i64 t.k),.d (.str t.name),.d (.int .i64 t.x.k),.d (.int .i64 t.x.n),.d (.str t.x.s),.d (.sl (scs t.keys)),.d (.sl (trs t.kids))]
abbrev Tr.v (t : Tr) : V := .agg t.as
mutual
def flatT : Tr -> List Tr
 | .mk k n x keys kids => .mk k n x keys kids :: flatL kids
def flatL : List Tr -> List Tr
 | [] => []
 | t :: l => flatT t ++ flatL l
end
theorem flatL_eq : ∀ l : List Tr,flatL l = l.flatMap flatT
 | [] => rfl
 | t :: l => by rw [flatL,flatL_eq l]; rfl
theorem flatT_eq (t : Tr) : flatT t = t :: t.kids.flatMap flatT := by
 cases t with
 | mk k n x keys kids => rw [flatT,flatL_eq]; rfl
theorem flat_len18' (l : List Tr) : l.length <= (l.flatMap flatT).length := by
 induction l with
 | nil => simp
 | cons t l ih => rw [List.flatMap_cons,flatT_eq]; simp only [List.length_cons,List.cons_append,List.length_append]; omega
def aName (n : Int) : ByteArray := if n > 0 then ⟨#[97]⟩ ++ ⟨(Lib.itoa n).toArray⟩ else ⟨#[]⟩
theorem aName_ne {n : Int} (h : n > 0) : aName n ≠ ⟨#[]⟩ := by
 unfold aName
 rw [if_pos h]
 intro e
 have := congrArg ByteArray.size e
 rw [ByteArray.size_append] at this
 have e1 : (⟨#[97]⟩ : ByteArray).size = 1 := rfl
 have e2 : (⟨#[]⟩ : ByteArray).size = 0 := rfl
 omega
theorem aName_nil {n : Int} (h : ¬ n > 0) : aName n = ⟨#[]⟩ := by unfold aName; rw [if_neg h]
theorem ancN_le {g : Gr} {us : List Int} : ∀ i,(ancN g us i).2 <= i /\ ∀ n ∈ (ancN g us i).1,n <= (i : Int)
 | 0 => by simp [ancN]
 | i + 1 => by
  obtain ⟨h1,h2⟩ := ancN_le (g := g) (us := us) i
  simp only [ancN]
  split
  ·split
   ·refine ⟨by simp only; omega,fun n hn => ?_⟩
    rcases List.mem_append.1 hn with hn | hn
    ·have := h2 n hn; omega
    ·simp at hn; subst hn; omega
   ·refine ⟨by simp only; omega,fun n hn => ?_⟩
    rcases List.mem_append.1 hn with hn | hn
    ·have := h2 n hn; omega
    ·simp at hn; subst hn; omega
  ·exact ⟨by omega,fun n hn => by have := h2 n hn; omega⟩
theorem aName_list {n : Int} (h : n > 0) : (aName n).data.toList = 97 :: Lib.itoa n := by
 unfold aName
 rw [if_pos h,ByteArray.data_append]; simp
def anc (g : Gr) (i : Nat) : Int := ((ancL g)[i]?).getD 0
theorem usesL_len (g : Gr) : (usesL g).length = g.l.length := by unfold usesL; rw [cnt_len]
theorem usesL_at {g : Gr} {i : Nat} (h : i < g.l.length) : (usesL g)[i]? = some (((0 :: flat g).count (i : Int) : Nat) : Int) := cnt_at _ h
theorem ancL_at {g : Gr} {i : Nat} {x : Nd} (hx : g.l[i]? = some x) : (ancL g)[i]? = some (if ancP x (((0 :: flat g).count (i : Int) : Nat) : Int) then (((ancN g (usesL g) i).2 + 1 : Nat) : Int) else 0) :=
 ancN_at (usesL_len g) hx (usesL_at (Kr.1 hx).1)
theorem anc_get {g : Gr} {i : Nat} (h : i < g.l.length) : (ancL g)[i]? = some (anc g i) := by
 obtain ⟨x,hx⟩ := at_lt h
 unfold anc
 rw [ancL_at hx]; rfl
theorem anc_eq {g : Gr} {i : Nat} {x : Nd} (hx : g.l[i]? = some x) : anc g i = if ancP x (((0 :: flat g).count (i : Int) : Nat) : Int) then (((ancN g (usesL g) i).2 + 1 : Nat) : Int) else 0 := by
 unfold anc; rw [ancL_at hx]; rfl
theorem anc_pos {g : Gr} {i : Nat} {x : Nd} (hx : g.l[i]? = some x) : 0 < anc g i ↔ x.kids ≠ [] /\ 1 < (0 :: flat g).count (i : Int) := by
 rw [anc_eq hx]
 unfold ancP
 split
 ·rename_i h
  simp only [Bool.and_eq_true,decide_eq_true_eq] at h
  exact ⟨fun _ => ⟨h.1,by omega⟩,fun _ => by omega⟩
 ·rename_i h
  simp only [Bool.and_eq_true,decide_eq_true_eq] at h
  exact ⟨fun h2 => by omega,fun h2 => absurd ⟨h2.1,by omega⟩ h⟩
theorem ancN_mono {g : Gr} {us : List Int} {i : Nat} : ∀ j,i <= j -> (ancN g us i).2 <= (ancN g us j).2
 | 0,h => by
  have e : i = 0 := by omega
  subst e
  exact Nat.le_refl _
 | j + 1,h => by
  by_cases e : i = j + 1
  ·rw [e]; exact Nat.le_refl _
  ·refine Nat.le_trans (ancN_mono j (by omega)) ?_
   simp only [ancN]
   split
   ·split <;> simp
   ·exact Nat.le_refl _
theorem anc_le {g : Gr} {i : Nat} (hi : i < g.l.length) : anc g i <= g.l.length := by
 have := (ancN_le (g := g) (us := usesL g) g.l.length).2 (anc g i) (List.mem_of_getElem? (anc_get hi))
 exact this
abbrev rest (g : Gr) (m : Nat) : List Int := (g.l.drop m).flatMap Nd.kids
theorem rest_cons {g : Gr} {m : Nat} {x : Nd} (hx : g.l[m]? = some x) : rest g m = x.kids ++ rest g (m + 1) := by
 unfold rest
 obtain ⟨h,rfl⟩ := Kr.1 hx
 rw [List.drop_eq_getElem_cons h,List.flatMap_cons]
structure St18 (g : Gr) (m : Nat) (s : List Int) : Prop where
 w : Walks (kd g) s (rangeI m) (rangeI g.l.length)
 u : ∀ i : Nat,i < g.l.length -> (if i < m then 1 else 0) + s.count (i : Int) + (rest g m).count (i : Int) <= (0 :: flat g).count (i : Int)
 le : m <= g.l.length
theorem St18.first {g : Gr} (h : Tdy g) : St18 g 0 [0] := by
 refine ⟨?_,fun i _ => ?_,Nat.zero_le _⟩
 ·have := h.good.walk
  rw [h.root,h.walk] at this
  exact this
 ·show _ <= _
  simp only [rest,List.drop_zero,flat]
  rw [show (0 :: g.l.flatMap Nd.kids) = [0] ++ g.l.flatMap Nd.kids from rfl,List.count_append]
  simp
theorem St18.skip {g : Gr} {m i : Nat} {s : List Int} (h : St18 g m ((i : Int) :: s)) (hi : i < m) : St18 g m s /\ 2 <= (0 :: flat g).count (i : Int) := by
 have hl := h.le
 refine ⟨⟨h.w.skip_inv (rangeI_mem.2 ⟨by omega,by omega⟩),fun j hj => ?_,hl⟩,?_⟩
 ·have := h.u j hj
  rw [List.count_cons] at this
  omega
 ·have := h.u i (by omega)
  rw [if_pos hi,List.count_cons,if_pos (by simp)] at this
  omega
theorem St18.step {g : Gr} (hg : Tdy g) {m i : Nat} {s : List Int} (h : St18 g m ((i : Int) :: s)) (hi : ¬ i < m) : i = m /\ ∃ x,g.l[m]? = some x /\ kd g m = x.kids /\ St18 g (m + 1) (x.kids ++ s) := by
 have hw' := h.w.step_inv (fun e => by have := rangeI_mem.1 e; omega)
 obtain ⟨q,hq⟩ := hw'.pre
 have hie : i = m /\ m < g.l.length := by
  have h1 : (rangeI g.l.length)[m]? = some (i : Int) := by
   rw [hq,List.append_assoc,List.getElem?_append_right (by simp)]
   simp
  have h2 := (Kr.1 h1).1
  rw [rangeI_len] at h2
  rw [rangeI_at h2] at h1
  simp at h1
  omega
 obtain ⟨rfl,hmn⟩ := hie
 obtain ⟨x,hx⟩ := at_lt hmn
 have hk := hg.kd hx
 refine ⟨rfl,x,hx,hk,?_,fun j hj => ?_,by omega⟩
 ·rw [<- hk,rangeI_succ]; exact hw'
 ·have := h.u j hj
  rw [rest_cons hx,List.count_append,List.count_cons] at this
  rw [List.count_append]
  by_cases e2 : i = j
  ·subst e2
   simp only [beq_self_eq_true,if_true,Nat.lt_irrefl,if_false] at this
   rw [if_pos (by omega)]
   omega
  ·have e3 : ((i : Int) == (j : Int)) = false := by simp; omega
   simp only [e3,Bool.false_eq_true,if_false] at this
   by_cases hj2 : j < i
   ·rw [if_pos hj2] at this
    rw [if_pos (by omega)]; omega
   ·rw [if_neg hj2] at this
    rw [if_neg (by omega)]; omega
end Go.Fw.L07
