/- The framework, part 5: each operation does what 'Ev' says. -/
import Derived.Test.YtnampnnphgedhaaDoorFwD
import Derived.Laws.StructEq
import Derived.Laws.Tables
set_option linter.all false
namespace Go.Fw
open Go

section
variable {P : Program} {w : World}

theorem szOf_spec {t : TypeId} {n : Nat} (h : szOf P t = some n) : ∃ i d, P.info? t = some i ∧ i.size = n ∧ P.underlying t = some d := by
  unfold szOf at h
  split at h
  · rename_i hu
    cases hi : P.info? t with
    | none => simp [hi] at h
    | some i =>
      simp [hi] at h
      obtain ⟨d, hd⟩ := Option.isSome_iff_exists.1 hu
      exact ⟨i, d, rfl, h, hd⟩
  · cases h

theorem run_sizeOf' {t : TypeId} {n : Nat} (h : szOf P t = some n) : (sizeOf t).run P w = .ok n w := by
  obtain ⟨i, d, hi, hn, hd⟩ := szOf_spec h
  simp [sizeOf, typeInfo, hi, hn]

theorem run_isAgg' {t : TypeId} {n : Nat} (h : szOf P t = some n) : (isAgg t).run P w = .ok (isAggB P t) w := by
  obtain ⟨i, d, hi, hn, hd⟩ := szOf_spec h
  unfold isAgg isAggB
  simp only [Sem.run_bind, Go.run_underlying hd, Result.andThen_ok, hd]
  cases d <;> rfl

/-- A variable's cells are read. -/
theorem run_loadVar' {t : TypeId} {n : Nat} (h : szOf P t = some n) (hn : isAggB P t = true ∨ n = 1) (b o : Nat) (vs : List Value) (hl : vs.length = n)
    (hc : ∀ j v, vs[j]? = some v → w.cell? ⟨b, o + j, none⟩ = some v) :
    (loadVar t ⟨b, o, none⟩).run P w = .ok (if isAggB P t then .agg vs.toArray else vs.headD undef) w := by
  subst hl
  simp only [loadVar, Sem.run_bind, run_isAgg' h, Result.andThen_ok]
  cases e : isAggB P t with
  | true =>
    have hk : ∀ j v, vs[j]? = some v → w.cell? ((⟨b, o, none⟩ : Addr).add j) = some v := by
      intro j v hv
      have : (⟨b, o, none⟩ : Addr).add j = ⟨b, o + j, none⟩ := by unfold Addr.add; split <;> simp_all
      rw [this]; exact hc j v hv
    simp [run_sizeOf' h, run_loadCells_list w _ vs hk]
  | false =>
    rw [e] at hn
    match vs, hn, hc with
    | [v], _, hc =>
      have := hc 0 v rfl
      simp at this
      simp [this]
    | [], hn, _ => simp at hn
    | _ :: _ :: _, hn, _ => simp at hn

theorem cell_of_heap {b i : Nat} {cs : Array Value} {T : TypeId} {fz : Nat × Nat} (h : w.heap[b]? = some (.cells cs T fz)) : w.cell? ⟨b, i, none⟩ = cs[i]? := by
  simp [World.cell?, h]

theorem setRow_keep (w : World) (g : Nat) (r : Array Value) : WKeep w (w.setRow g r) (fun x => x = g) :=
  ⟨rfl, rfl, rfl, by simp [World.setRow], fun b _ hb => by
    simp only [World.setRow, Array.getElem?_modify]
    rw [if_neg (fun e => hb e.symm)]⟩

/-- A variable's cells are written. -/
theorem run_storeVar' {t : TypeId} {n : Nat} (h : szOf P t = some n) (b o : Nat) (u : Value) (us cur : List Value) (T : TypeId) (hu : u.cells = us.toArray) (hl : us.length = n)
    (h1 : ∀ v ∈ us, v.oneCell' = true) (hb : w.heap[b]? = some (.cells cur.toArray T (0, 0))) (hs : o + n ≤ cur.length) :
    ∃ w', (storeVar t ⟨b, o, none⟩ u).run P w = .ok () w' ∧ WKeep w w' (fun x => x = b) ∧ w'.heap[b]? = some (.cells (cur.take o ++ us ++ cur.drop (o + n)).toArray T (0, 0)) := by
  subst hl
  have hr := run_storeCells_at P b o T us 0 cur.toArray w hb (by simpa using hs) h1
  refine ⟨_, ?_, setRow_keep w b _, setRow_heap w b _ _ T (0, 0) hb⟩
  simp only [storeVar, Sem.run_bind, run_sizeOf' h, Result.andThen_ok, hu, List.size_toArray, Sem.run_ite, ne_eq, not_true, if_false, hr]
  simp
end

/-! ### What values are -/
section
variable {H : Heap} {an : Anc} {u : Value}
theorem den_int {k : IntKind} {n : Int} (h : DenV H an (.one (.d (.int k n))) u) : u = .int k n := by cases h; rfl
theorem den_bool {b : Bool} (h : DenV H an (.one (.d (.bool b))) u) : u = .bool b := by cases h; rfl
theorem den_str {s : ByteArray} (h : DenV H an (.one (.d (.str s))) u) : u = .string s := by cases h; rfl
theorem den_raw {v : Value} (h : DenV H an (.one (.d (.raw v))) u) : u = v := by cases h; rfl
theorem den_nilI (h : DenV H an (.one (.d .nilI)) u) : u = .nilIface := by cases h; rfl

theorem DenA.nrm {a : A} {u : Value} (h : DenA H an a u) : DenA H an a.nrm u := by
  cases a with
  | nil => obtain ⟨a, rfl⟩ := h; exact Den.slE a 0
  | _ => exact h
theorem DenAs.nrm : ∀ {l : List A} {m : List Value}, DenAs H an l m → DenAs H an (l.map A.nrm) m
  | [], [], _ => trivial
  | _ :: _, _ :: _, h => ⟨DenA.nrm h.1, DenAs.nrm h.2⟩
theorem DenV1.nrm {x : V} {u : Value} (h : DenV1 H an x u) : DenV1 H an x.nrm u := by
  cases x with
  | one a => exact DenA.nrm h
  | agg cs => obtain ⟨vs, e, hv⟩ := h; exact ⟨vs, e, DenAs.nrm hv⟩
  | tup l => exact h
  | un => trivial
theorem DenV.nrm {x : V} {u : Value} (h : DenV H an x u) : DenV H an x.nrm u := by
  cases x with
  | one a => exact DenV1.nrm (x := .one a) h
  | agg cs => exact DenV1.nrm (x := .agg cs) h
  | tup l => exact h
  | un => trivial
theorem DenV.nrm2 {x : V} {u : Value} (h : DenV H an x u) : DenV H an x.nrm2 u := by
  cases x with
  | one a => exact DenV1.nrm (x := .one a) h
  | agg cs => exact DenV1.nrm (x := .agg cs) h
  | tup l =>
    obtain ⟨vs, e, hv⟩ := h
    refine ⟨vs, e, ?_⟩
    clear e
    induction l generalizing vs with
    | nil => cases vs <;> simp_all [All2]
    | cons x l ih => cases vs with
      | nil => simp [All2] at hv
      | cons v vs => exact ⟨DenV1.nrm hv.1, ih vs hv.2⟩
  | un => trivial

/-- A value that is no tuple, and known: its cells. -/
theorem DenV.cells {x : V} {u : Value} (h : DenV H an x u) (h1 : x.ok = true) : ∃ us, u.cells = us.toArray ∧ DenAs H an x.cells us ∧ (∀ cs, x = .agg cs → u = .agg us.toArray) ∧ (∀ a, x = .one a → us = [u]) := by
  cases x with
  | one a =>
    have h : DenA H an a u := h
    have h0 := DenA.oneCell h h1
    refine ⟨[u], ?_, ⟨h, trivial⟩, fun _ e => (by cases e), fun _ _ => rfl⟩
    cases u <;> first | rfl | (simp [Value.oneCell'] at h0)
  | agg cs =>
    obtain ⟨vs, rfl, hv⟩ := h
    exact ⟨vs, rfl, hv, fun _ _ => rfl, fun a e => by cases e⟩
  | tup l => cases h1
  | un => cases h1
theorem solid_oneCell : ∀ {l : List A} {us : List Value}, DenAs H an l us → solidAll l = true → ∀ v ∈ us, v.oneCell' = true
  | [], [], _, _, v, hv => by simp at hv
  | a :: l, u :: us, h, hs, v, hv => by
    have ha : a.solid = true ∧ solidAll l = true := by
      cases a <;> simp_all [solidAll, A.solid]
    rcases List.mem_cons.1 hv with rfl | hv
    · exact DenA.oneCell h.1 ha.1
    · exact solid_oneCell h.2 ha.2 v hv

theorem allD_den : ∀ {l : List A} {ds : List D} {vs : List Value}, allD l = some ds → DenAs H an l vs → Dens H ds vs
  | [], ds, vs, h, k => by simp [allD] at h; subst h; cases vs with | nil => trivial | cons _ _ => simp [All2] at k
  | a :: l, ds, vs, h, k => by
    cases vs with
    | nil => simp [All2] at k
    | cons v vs =>
      cases a with
      | d x =>
        simp only [allD] at h
        cases e : allD l with
        | none => simp [e] at h
        | some r => simp [e] at h; subst h; exact ⟨k.1, allD_den e k.2⟩
      | nil =>
        simp only [allD] at h
        cases e : allD l with
        | none => simp [e] at h
        | some r =>
          simp [e] at h; subst h
          obtain ⟨a, ha⟩ := k.1
          exact ⟨by rw [ha]; exact .slE a 0, allD_den e k.2⟩
      | _ => simp [allD] at h

/-- Cells of data out of a list. -/
theorem Dens.den_d : ∀ {l : List D} {m : List Value}, Dens H l m → DenAs H an (l.map .d) m
  | [], [], _ => trivial
  | _ :: _, _ :: _, h => ⟨h.1, Dens.den_d h.2⟩

theorem mkV_den {ag : Bool} {l : List A} {vs : List Value} (h : DenAs H an l vs) (hn : ag = true ∨ l.length = 1) : DenV H an (mkV ag l) (if ag then .agg vs.toArray else vs.headD undef) := by
  cases ag with
  | true => exact ⟨vs, rfl, h⟩
  | false =>
    match l, vs, h, hn with
    | [a], [v], h, _ => exact h.1
    | [], _, _, hn => simp at hn
    | _ :: _ :: _, _, _, hn => simp at hn
end
end Go.Fw
