/- Chapter 12, plain: trees. -/
import Derived.Test.YtfonfncokpdaaaaGreatDoorL07RDep
set_option linter.all false
namespace Go.Fw.L07
open Go Go.Fw
open Nat renaming reduceAdd → Qa, reduceSub → Qb, reduceMul → Qc, reduceLeDiff → Qd, reduceLT → Qe, reduceEqDiff → Qf
open Int renaming reduceToNat → Qg, reduceLT → Qh, reduceLE → Qi, reduceGT → Qj, reduceGE → Qk, reduceEq → Ql, reduceNe → Qm, reduceBEq → Qn, reduceBNe → Qo, reduceAdd → Qp, reduceSub → Qq, reduceNeg → Qr
open Go.Fw.V.one renaming injEq → Qs
open Go.Fw.V.agg renaming injEq → Qt
open Go.Fw.V.tup renaming injEq → Qu
open Go.Fw.A.d renaming injEq → Qv
open Go.Fw.D.bool renaming injEq → Qw
open Go.Fw.D.int renaming injEq → Qx
open Go.Fw.D.str renaming injEq → Qy
open Go.Fw.D.sl renaming injEq → Qz
open List.cons renaming injEq → Za
set_option maxRecDepth 4000

theorem sumN_ge {f : Nat → Int} : ∀ {n : Nat}, (∀ i, i < n → 1 ≤ f i) → (n : Int) ≤ sumN f n
  | 0, _ => by simp [sumN]
  | n + 1, h => by
    have h1 := sumN_ge (n := n) fun i hi => h i (by omega)
    have h2 := h n (by omega)
    simp only [sumN]; omega
theorem sumN_ones {f : Nat → Int} : ∀ {n : Nat}, (∀ i, i < n → 1 ≤ f i) → sumN f n = n → ∀ i, i < n → f i = 1
  | 0, _, _, i, hi => by omega
  | n + 1, h, e, i, hi => by
    have h1 := sumN_ge (n := n) fun i hi => h i (by omega)
    have h2 := h n (by omega)
    simp only [sumN] at e
    by_cases ei : i = n
    · subst ei; omega
    · exact sumN_ones (n := n) (fun i hi => h i (by omega)) (by omega) i (by omega)
theorem count_in {l : List Nd} {a : Int} {i : Nat} {x : Nd} (h : l[i]? = some x) (ha : a ∈ x.kids) : 1 ≤ (l.flatMap Nd.kids).count a := by
  rw [List.one_le_count_iff]
  exact List.mem_flatMap.2 ⟨x, List.mem_of_getElem? h, ha⟩
theorem count_two : ∀ {l : List Nd} {a : Int} {i m : Nat} {x y : Nd}, l[i]? = some x → l[m]? = some y → i < m → a ∈ x.kids → a ∈ y.kids → 2 ≤ (l.flatMap Nd.kids).count a
  | [], a, i, m, x, y, h, _, _, _, _ => by simp at h
  | z :: l, a, 0, m + 1, x, y, h, h', _, ha, hb => by
    simp at h h'; subst h
    rw [List.flatMap_cons, List.count_append]
    have h1 := count_in h' hb
    have h2 := List.one_le_count_iff.2 ha
    omega
  | z :: l, a, i + 1, m + 1, x, y, h, h', hi, ha, hb => by
    simp at h h'
    rw [List.flatMap_cons, List.count_append]
    have := count_two h h' (by omega) ha hb
    omega
def kidN (g : Gr) (j : Nat) : Int := ((g.l[j]?).map fun x => (x.kids.length : Int)).getD 0
structure TreeOK (g : Gr) (us an ds : List Int) : Prop where
  ul : us.length = g.l.length
  al : an.length = g.l.length
  dl : ds.length = g.l.length
  one : ∀ (i : Nat), i < g.l.length → us[i]? = some 1
  anc : ∀ (i : Nat), i < g.l.length → an[i]? = some 0
  dep : ∀ (i k : Nat) (x : Nd) (j : Int), g.l[i]? = some x → x.kids[k]? = some j → ∃ (n : Nat) (z : Int), j = n ∧ n < g.l.length ∧ ds[i]? = some z ∧ ds[n]? = some (z + 1) ∧ 1 ≤ z ∧ z ≤ i + 1
theorem tree_ok {g : Gr} (hg : Tdy g) (h : 1 + sumN (kidN g) g.l.length = g.l.length) : TreeOK g (usesL g) (ancL g) (depL g) := by
  have hul : (usesL g).length = g.l.length := cnt_len _ _
  have hfl : ((flat g).length : Int) = sumN (kidN g) g.l.length := flat_len g.l
  have hsum : sumN (fun j => (((0 :: flat g).count (j : Int) : Nat) : Int)) g.l.length = g.l.length := by
    rw [sumN_count (n := g.l.length) (ks := 0 :: flat g) (fun k hk => by
      rcases List.mem_cons.1 hk with rfl | hk
      · have := hg.pos; omega
      · exact hg.flatIn k hk)]
    simp only [List.length_cons]
    omega
  have hone : ∀ j, j < g.l.length → (((0 :: flat g).count (j : Int) : Nat) : Int) = 1 := sumN_ones (fun i hi => by have := hg.uses_pos hi; omega) hsum
  have hu1 : ∀ i, i < g.l.length → (usesL g)[i]? = some 1 := fun i hi => by
    unfold usesL
    rw [cnt_at _ hi, hone i hi]
  refine ⟨hul, ancN_len hul _ (Nat.le_refl _), hg.dep_len, hu1, fun i hi => ?_, fun i k x j hx hj => ?_⟩
  · obtain ⟨x, hx⟩ := at_lt hi
    have := ancN_at hul hx (hu1 i hi)
    rw [if_neg (by simp [ancP])] at this
    exact this
  · have hil := (List.getElem?_eq_some_iff.1 hx).1
    have hjm := List.mem_of_getElem? hj
    have hjf : j ∈ flat g := List.mem_flatMap.2 ⟨x, List.mem_of_getElem? hx, hjm⟩
    have hjr := hg.flatIn j hjf
    obtain ⟨n, rfl⟩ := Int.eq_ofNat_of_zero_le hjr.1
    have hn1 := hone n (by omega)
    have hn0 : 0 < n := by
      rcases Nat.eq_zero_or_pos n with e | e
      · subst e
        have h5 : (((0 :: flat g).count (0 : Int) : Nat) : Int) = 1 := hn1
        rw [List.count_cons_self] at h5
        have h3 : 1 ≤ (flat g).count (0 : Int) := count_in hx hjm
        omega
      · exact e
    have hcf : ((flat g).count (n : Int)) = 1 := by
      rw [List.count_cons] at hn1
      have : ¬ (0 : Int) = (n : Int) := by omega
      simp [this] at hn1
      omega
    obtain ⟨m, y, h1, h2, h3, h4⟩ := hg.dep_ok.2 n hn0 (by omega)
    obtain ⟨w, hw⟩ := at_lt (l := g.l) (i := m) (by omega)
    rw [hg.kd hw] at h2
    have hmi : m = i := by
      rcases Nat.lt_trichotomy m i with e | e | e
      · have := count_two hw hx e h2 hjm
        unfold flat at hcf; omega
      · exact e
      · have := count_two hx hw e hjm h2
        unfold flat at hcf; omega
    subst hmi
    have hr := dep_r hg m y h3
    exact ⟨n, y, rfl, by omega, h3, h4, hr.1, hr.2⟩
end Go.Fw.L07
