/- Chapter 7, part 15: the law on finds. -/
import Derived.Test.YtfonfncokpdaaaaDoorL07P
set_option linter.all false
namespace Go.Fw.L07
open Go Go.Fw
open Nat renaming reduceAdd → Qa, reduceSub → Qb, reduceMul → Qc, reduceLeDiff → Qd, reduceLT → Qe, reduceEqDiff → Qf
open Int renaming reduceToNat → Qg, reduceLT → Qh, reduceLE → Qi, reduceGT → Qj, reduceGE → Qk, reduceEq → Ql, reduceNe → Qm, reduceBEq → Qn, reduceBNe → Qo, reduceAdd → Qp, reduceSub → Qq, reduceNeg → Qr
open Go.Fw.V.one renaming injEq → Qs
open Go.Fw.V.agg renaming injEq → Qt
open Go.Fw.V.tup renaming injEq → Qu
open Go.Fw.A.d renaming injEq → Qv
open Go.Fw.D.bool renaming injEq → Qw
open Go.Fw.D.int renaming injEq → Qx
open Go.Fw.D.str renaming injEq → Qy
open Go.Fw.D.sl renaming injEq → Qz
open List.cons renaming injEq → Za
set_option maxRecDepth 4000
variable {gp : Heap}

/-! ### Nodes of right graphs -/
theorem node_at {l : List Nd} {i : Int} (h : 0 ≤ i ∧ i < l.length) : ndAt l i ∈ l := by
  unfold ndAt
  rw [if_pos h]
  have : i.toNat < l.length := by omega
  rw [List.getElem?_eq_getElem this]
  exact List.getElem_mem this
theorem node_off {l : List Nd} {i : Int} (h : ¬ (0 ≤ i ∧ i < l.length)) : ndAt l i = Nd.zero := by unfold ndAt; rw [if_neg h]
theorem map_right {x : Nd} {n : Int} (h : nodeR rightS x n = true) (hk : x.k = 2) : x.keys.length = x.kids.length ∧ x.keys.Nodup ∧ ∀ j ∈ x.kids, 0 ≤ j ∧ j < n := by
  unfold nodeR at h
  rw [hk] at h
  simp [mapR, keysR, kidsIn] at h
  obtain ⟨_, h1, ⟨_, h2⟩, h3⟩ := h
  exact ⟨h1, h2, fun j hj => by simpa using h3 j hj⟩
theorem seq_right {x : Nd} {n : Int} (h : nodeR rightS x n = true) (hk : x.k = 1) : x.keys = [] ∧ ∀ j ∈ x.kids, 0 ≤ j ∧ j < n := by
  unfold nodeR at h
  rw [hk] at h
  simp [seqR, kidsIn] at h
  obtain ⟨_, h1, h3⟩ := h
  exact ⟨h1, fun j hj => by simpa using h3 j hj⟩
theorem zips_key {x : Nd} (h : x.keys.length = x.kids.length) : (zips x).map Pr.key = x.keys := by
  unfold zips
  rw [List.map_zipWith]
  have : (fun a b => (Pr.mk a b).key) = fun (a : Sc) (_ : Int) => a := rfl
  rw [this]
  apply List.ext_getElem?
  intro i
  rw [List.getElem?_zipWith]
  cases ha : x.keys[i]? with
  | none => rfl
  | some a =>
    have hi := (List.getElem?_eq_some_iff.1 ha).1
    obtain ⟨b, hb⟩ := at_lt (l := x.kids) (i := i) (by omega)
    rw [hb]
theorem keysOf_mem {x : Nd} {n : Int} (h : nodeR rightS x n = true) (key : Sc) : key ∈ keysOf x ↔ x.k = 2 ∧ key ∈ x.keys := by
  unfold keysOf pairsOf
  by_cases hk : x.k = 2
  · obtain ⟨h1, _, _⟩ := map_right h hk
    rw [if_pos ⟨hk, h1⟩]
    rw [((srt_perm (zips x)).map Pr.key).mem_iff, zips_key h1]
    simp [hk]
  · rw [if_neg (fun e => hk e.1)]
    simp [hk]
theorem findIn_ok {l : List Sc} {m : List Int} {key : Sc} (h : l.length = m.length) :
    ((findIn l m key).2 = decide (key ∈ l)) ∧ (key ∈ l → ∃ j : Nat, l[j]? = some key ∧ m[j]? = some (findIn l m key).1) ∧ (key ∉ l → (findIn l m key).1 = 0) := by
  unfold findIn
  cases hf : (List.zip l m).find? fun p => decide (p.1 = key) with
  | none =>
    rw [List.find?_eq_none] at hf
    have : key ∉ l := by
      intro hk
      obtain ⟨j, hj⟩ := List.mem_iff_getElem?.1 hk
      have hjl := (List.getElem?_eq_some_iff.1 hj).1
      obtain ⟨b, hb⟩ := at_lt (l := m) (i := j) (by omega)
      have := hf (key, b) (List.mem_of_getElem? (List.getElem?_zip_eq_some.2 ⟨hj, hb⟩))
      simp at this
    simp [this]
  | some p =>
    have hp := List.find?_some hf
    simp only [decide_eq_true_eq] at hp
    obtain ⟨j, hj⟩ := List.mem_iff_getElem?.1 (List.mem_of_find?_eq_some hf)
    rw [List.getElem?_zip_eq_some] at hj
    rw [hp] at hj
    have hk : key ∈ l := List.mem_of_getElem? hj.1
    exact ⟨by simp [hk], fun _ => ⟨j, hj⟩, fun h => absurd hk h⟩
/-- What the law on finds asks. -/
theorem finds_ok {g : Gr} (hc : chk g = none) (i : Int) (key : Sc) :
    ((findOf (ndAt g.l i) key).2 = (keysOf (ndAt g.l i)).any fun y => decide (y = key)) ∧ ((findOf (ndAt g.l i) key).2 = false → (findOf (ndAt g.l i) key).1 = 0) ∧
      0 ≤ (findOf (ndAt g.l i) key).1 ∧ (findOf (ndAt g.l i) key).1 < g.l.length := by
  obtain ⟨h1, h2, h3⟩ := chk_ok hc
  have hany : ∀ x : Nd, ((keysOf x).any fun y => decide (y = key)) = decide (key ∈ keysOf x) := by
    intro x
    rw [Bool.eq_iff_iff]
    simp
  rw [hany]
  by_cases hi : 0 ≤ i ∧ i < g.l.length
  · have hr := h3 _ (node_at hi)
    generalize ndAt g.l i = x at hr ⊢
    have hm := keysOf_mem hr key
    unfold findOf
    by_cases hk : x.k = 2
    · obtain ⟨e1, e2, e3⟩ := map_right hr hk
      obtain ⟨f1, f2, f3⟩ := findIn_ok (key := key) e1
      rw [if_pos hk]
      by_cases hkey : key ∈ x.keys
      · obtain ⟨j, _, hj⟩ := f2 hkey
        have := e3 _ (List.mem_of_getElem? hj)
        exact ⟨by rw [f1]; simp [hm, hk, hkey], fun h => by rw [f1] at h; simp [hkey] at h, this.1, this.2⟩
      · have := f3 hkey
        exact ⟨by rw [f1]; simp [hm, hk, hkey], fun _ => this, by omega, by omega⟩
    · rw [if_neg hk]
      refine ⟨?_, fun _ => rfl, Int.le_refl _, by omega⟩
      have : key ∉ keysOf x := fun h => hk (hm.1 h).1
      simp [this]
  · rw [node_off hi]
    refine ⟨?_, fun _ => rfl, Int.le_refl _, ?_⟩
    · simp [findOf, keysOf, pairsOf, Nd.zero]
    · simp [findOf, Nd.zero]; omega

end Go.Fw.L07
