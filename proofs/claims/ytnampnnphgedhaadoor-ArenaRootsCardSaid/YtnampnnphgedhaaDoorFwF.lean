/- The framework, part 6: each operation does what 'Ev' says. -/
import Derived.Test.YtnampnnphgedhaaDoorFwE
set_option linter.all false
namespace Go.Fw
open Go

/-- An operation goes through: a value, a world; the state goes on. -/
def Goes (S : Sx) (Y : Dyn) (fr : List V) (own' : List Ch) (a : Act) (ms : List Nat) (v : V) (r : Result Next) : Prop :=
  ∃ x u w' H' an' F', r = .ok x w' ∧ (x = .value u ∨ (x = .skip ∧ u = undef)) ∧ SatX S Y ⟨fr, own'⟩ a w' H' an' F' ms ∧ DenV H' an' v u

section
variable {S : Sx} {Y : Dyn} {s : St} {a : Act} {w : World} {H : Heap} {an : Anc} {F : Nat → Nat → Prop} {ms : List Nat} {o : Oper} {v : V}

theorem Goes.same (h : SatX S Y s a w H an F ms) {u : Value} {r : Result Next} (hr : r = .ok (.value u) w) (hd : DenV H an v u) : Goes S Y s.fr s.own a ms v r :=
  ⟨_, u, w, H, an, F, hr, .inl rfl, h, hd⟩

theorem getC_some : ∀ {l : List Ch} {i : Nat} {c : Ch}, getC l i = c → c ≠ .dead → l[i]? = some c
  | [], _, _, h, hn => absurd h.symm (by simpa [getC] using hn)
  | _ :: _, 0, _, h, _ => by simpa [getC] using h
  | _ :: l, i + 1, c, h, hn => by simpa using getC_some (l := l) (i := i) (by simpa [getC] using h) hn
theorem setC_eq : ∀ (l : List Ch) (i : Nat) (c : Ch), setC l i c = l.set i c
  | [], _, _ => rfl
  | _ :: _, 0, _ => rfl
  | _ :: l, i + 1, c => by simp [setC, setC_eq l i c]

theorem addr_add (b o i : Nat) : (⟨b, o, none⟩ : Addr).add i = ⟨b, o + i, none⟩ := by unfold Addr.add; split <;> simp_all

/-- The cells of an own box. -/
theorem SatX.box (h : SatX S Y s a w H an F ms) {i : Nat} {cs : List A} (hc : getC s.own i = .cells cs) :
    ∃ b T vs, an i = some (0, .pointer (some ⟨b, 0, none⟩)) ∧ (∀ x, F i x ↔ x = b) ∧ w.heap[b]? = some (.cells vs.toArray T (0, 0)) ∧ DenAs H an cs vs := by
  obtain ⟨p, hp, h0, b, T, vs, h1, h2, h3, h4⟩ := h.own i _ (getC_some hc (by simp))
  refine ⟨b, T, vs, ?_, h2, h3, h4⟩
  obtain ⟨p1, p2⟩ := p
  simp only at h0 h1
  rw [hp, h0, h1]
theorem SatX.ptr (h : SatX S Y s a w H an F ms) {i off : Nat} {b : Nat} {u : Value} (hb : an i = some (0, .pointer (some ⟨b, 0, none⟩))) (hu : DenV H an (.one (.ptr i off)) u) :
    u = .pointer (some ⟨b, off, none⟩) := by
  obtain ⟨b0, rfl, p, hp, he⟩ := hu
  rw [hb] at hp; cases hp
  rw [he b rfl]

/-- The cells that known data point to. -/
theorem den_bx (h : Models w H) {cs : List D} {u : Value} (hu : DenV H an (.one (.d (.bx cs))) u) :
    ∃ b o cells T fz vs, u = .pointer (some ⟨b, o, none⟩) ∧ H b = some (.cells cells T fz) ∧ w.heap[b]? = some (.cells cells T fz) ∧ Dens H cs vs ∧ ∀ j v, vs[j]? = some v → cells[o + j]? = some v := by
  cases hu with
  | bx cs b o cells T fz f hb hf hd =>
    refine ⟨b, o, cells, T, fz, (List.range cs.length).map f, rfl, hb, h _ _ hb, ?_, ?_⟩
    · refine All2.of_get (by simp) fun j x y hx hy => ?_
      simp only [List.getElem?_map] at hy
      cases e : (List.range cs.length)[j]? with
      | none => simp [e] at hy
      | some k =>
        have := List.getElem?_eq_some_iff.1 e
        obtain ⟨hl, hk⟩ := this
        simp at hk
        subst hk
        simp [e] at hy
        subst hy
        exact hd j x hx
    · intro j v hv
      simp only [List.getElem?_map] at hv
      cases e : (List.range cs.length)[j]? with
      | none => simp [e] at hv
      | some k =>
        obtain ⟨hl, hk⟩ := List.getElem?_eq_some_iff.1 e
        simp at hk hl
        subst hk
        simp [e] at hv
        subst hv
        obtain ⟨y, hy⟩ : ∃ y, cs[j]? = some y := ⟨_, List.getElem?_eq_getElem hl⟩
        exact hf j y hy

theorem goes_move {x : Operand} (h : SatX S Y s a w H an F ms) (ho : o.op = .move x ∨ o.op = .assign x) (hv : v = evO s.fr (opdOf x)) :
    Goes S Y s.fr s.own a ms v ((execOp a.eval o).run S.P w) := by
  subst hv
  refine Goes.same h (u := a.eval x) ?_ (h.ev x)
  rcases ho with ho | ho <;> simp [execOp, ho]

theorem goes_pick {c x y : Operand} (h : SatX S Y s a w H an F ms) (ho : o.op = .pick c x y)
    (hv : match evO s.fr (opdOf c) with | .one (.d (.bool b)) => v = if b then evO s.fr (opdOf x) else evO s.fr (opdOf y) | _ => False) :
    Goes S Y s.fr s.own a ms v ((execOp a.eval o).run S.P w) := by
  split at hv
  · rename_i b hc
    have hb := den_bool (hc ▸ h.ev c)
    cases b with
    | true => refine Goes.same h (u := a.eval x) ?_ (by rw [hv]; exact h.ev x); simp [execOp, ho, hb, asBool]
    | false => refine Goes.same h (u := a.eval y) ?_ (by rw [hv]; exact h.ev y); simp [execOp, ho, hb, asBool]
  · exact hv.elim

/-- A new box. -/
theorem SatX.new_box (h : SatX S Y s a w H an F ms) {cs : List A} {vs : List Value} (T : TypeId) (hd : DenAs H an cs vs) :
    SatX S Y { s with own := s.own ++ [.cells cs] } a { w with heap := w.heap.push (.cells vs.toArray T) } H (an.put s.own.length (0, .pointer (some ⟨w.heap.size, 0, none⟩)))
      (fun i b => if i = s.own.length then b = w.heap.size else F i b) ms := by
  refine h.push_own (.cells vs.toArray T) (.cells cs) (0, .pointer (some ⟨w.heap.size, 0, none⟩)) ⟨rfl, w.heap.size, T, vs, rfl, fun x => Iff.rfl, by simp, ?_⟩
  refine All2.mono (fun _ _ => DenA.mono (Heap.Le.refl _) ⟨fun i q hq => ⟨q, ?_, .inl rfl⟩⟩) hd
  unfold Anc.put
  rw [if_neg (by have := (h.anc i).1 ⟨q, hq⟩; omega)]
  exact hq

theorem zeroOf_spec {P : Program} {t : TypeId} {z : List D} (h : zeroOf P t = some z) : ∃ i u, P.info? t = some i ∧ i.zero = some u ∧ dsOf u.cells.toList = some z := by
  unfold zeroOf at h
  cases hi : P.info? t with
  | none => simp [hi] at h
  | some i =>
    cases hz : i.zero with
    | none => simp [hi, hz] at h
    | some u => simp [hi, hz] at h; exact ⟨i, u, rfl, hz, h⟩

theorem goes_alloc {e : TypeId} {z : List D} {own' : List Ch} (h : SatX S Y s a w H an F ms) (ho : o.op = .alloc e) (hz : zeroOf S.P e = some z)
    (hv : own' = s.own ++ [.cells (z.map A.ofZ)] ∧ v = .one (.ptr s.own.length 0)) : Goes S Y s.fr own' a ms v ((execOp a.eval o).run S.P w) := by
  obtain ⟨rfl, rfl⟩ := hv
  obtain ⟨i, u, hi, hu, hd⟩ := zeroOf_spec hz
  refine ⟨.value (.pointer (some ⟨w.heap.size, 0, none⟩)), _, _, _, _, _, ?_, .inl rfl, h.new_box e (dsOf_denA H an hd), ?_⟩
  · simp only [execOp, ho, Instr.alloc]
    simp [zeroValue, typeInfo, hi, hu, newVar, newRow]
  · exact ⟨_, rfl, (0, .pointer (some ⟨w.heap.size, 0, none⟩)), by simp [Anc.put], fun b e => by cases e; rfl⟩

theorem goes_box {e : TypeId} {x : Operand} {own' : List Ch} (h : SatX S Y s a w H an F ms) (ho : o.op = .box e x)
    (hv : (evO s.fr (opdOf x)).ok = true ∧ solidAll (evO s.fr (opdOf x)).cells = true ∧ own' = s.own ++ [.cells (evO s.fr (opdOf x)).cells] ∧ v = .one (.ptr s.own.length 0)) :
    Goes S Y s.fr own' a ms v ((execOp a.eval o).run S.P w) := by
  obtain ⟨hk, hs, rfl, rfl⟩ := hv
  obtain ⟨us, hu, hd, _⟩ := (h.ev x).cells hk
  refine ⟨.value (.pointer (some ⟨w.heap.size, 0, none⟩)), _, _, _, _, _, ?_, .inl rfl, h.new_box e hd, ?_⟩
  · simp only [execOp, ho, Instr.box]
    simp [newVar, newRow, hu]
  · exact ⟨_, rfl, (0, .pointer (some ⟨w.heap.size, 0, none⟩)), by simp [Anc.put], fun b e => by cases e; rfl⟩

theorem goes_ibox {e : TypeId} {x : Operand} (h : SatX S Y s a w H an F ms) (ho : o.op = .box e x)
    (hv : (evO s.fr (opdOf x)).ok = true ∧ ∃ ds, allD (evO s.fr (opdOf x)).cells = some ds ∧ v = .one (.d (.bx ds))) :
    Goes S Y s.fr s.own a ms v ((execOp a.eval o).run S.P w) := by
  obtain ⟨hk, ds, hds, rfl⟩ := hv
  obtain ⟨us, hu, hd, _⟩ := (h.ev x).cells hk
  have hdd := allD_den hds hd
  refine ⟨.value (.pointer (some ⟨w.heap.size, 0, none⟩)), _, _, _, _, _, ?_, .inl rfl, h.push_known (.cells us.toArray e), ?_⟩
  · simp only [execOp, ho, Instr.box]
    simp [newVar, newRow, hu]
  · have hle : Heap.Le H (H.put w.heap.size (.cells us.toArray e)) := Heap.put_le (h.none_new (Nat.le_refl _))
    refine Den.bx ds w.heap.size 0 us.toArray e (0, 0) (fun j => us.getD j undef) (by simp [Heap.put]) (fun j y hy => ?_) (fun j y hy => ?_)
    · obtain ⟨q, hq, _⟩ := hdd.get hy
      simp [hq, List.getD]
    · obtain ⟨q, hq, hd'⟩ := hdd.get hy
      simp only [List.getD, hq, Option.getD_some]
      exact hd'.mono hle

/-! ### Literals -/
theorem foldl_set : ∀ (us : List Value) (k off : Nat) (cs : Array Value), off + k + us.length ≤ cs.size →
    ((us.zipIdx k).foldl (fun (cs : Array Value) (p : Value × Nat) => cs.setIfInBounds (off + p.2) p.1) cs).toList = cs.toList.take (off + k) ++ us ++ cs.toList.drop (off + k + us.length)
  | [], k, off, cs, _ => by simp
  | u :: us, k, off, cs, h => by
    have ih := foldl_set us (k + 1) off (cs.setIfInBounds (off + k) u) (by simp at h ⊢; omega)
    simp only [List.zipIdx_cons, List.foldl_cons]
    rw [ih]
    have e := list_seg_step cs.toList (off + k) u us (by simp at h ⊢; omega)
    simpa [Array.toList_setIfInBounds, Nat.add_assoc] using e

/-- A literal's parts. -/
theorem fill_den (ev : Opd → V) (ρ : Operand → Value) (hev : ∀ x, DenV H an (ev (opdOf x)) (ρ x)) (place : Nat → Option (Nat × Nat)) :
    ∀ (ps : List (Nat × Operand)) (qs : List (Nat × Nat × Opd)) (z cs : List A) (zs : Array Value),
      All2 (fun p q => place p.1 = some (q.1, q.2.1) ∧ q.2.2 = opdOf p.2) ps qs → DenAs H an z zs.toList → layF ev z qs = some cs → (qs.all fun p => (ev p.2.2).ok) = true →
      ∃ rs, Instr.fill place zs (ps.map fun p => (p.1, ρ p.2)) = some rs ∧ DenAs H an cs rs.toList
  | [], [], z, cs, zs, _, hz, hl, _ => by simp [layF] at hl; subst hl; exact ⟨zs, rfl, hz⟩
  | (i, x) :: ps, (off, n, y) :: qs, z, cs, zs, hp, hz, hl, hk => by
    obtain ⟨⟨h1, h2⟩, h3⟩ := hp
    simp only at h1 h2
    subst h2
    simp only [List.all_cons, Bool.and_eq_true] at hk
    simp only [layF] at hl
    split at hl
    · rename_i hc
      obtain ⟨us, hu, hd, _⟩ := (hev x).cells hk.1
      have hlu : us.length = n := by rw [← hd.length]; exact hc.1
      have hlz := hz.length
      simp at hlz
      obtain ⟨rs, hr, hd'⟩ := fill_den ev ρ hev place ps qs _ cs (us.zipIdx.foldl (fun (cs : Array Value) (p : Value × Nat) => cs.setIfInBounds (off + p.2) p.1) zs) h3 (by
        have e := foldl_set us 0 off zs (by omega)
        simp only [Nat.add_zero] at e
        rw [e, hlu]
        exact ((hz.take off).append hd).append (hz.drop (off + n))) hl hk.2
      refine ⟨rs, ?_, hd'⟩
      simp only [List.map_cons, Instr.fill, h1, hu]
      simp only [List.size_toArray, hlu, ne_eq, not_true, Bool.or_eq_true, decide_eq_true_eq, false_or, gt_iff_lt]
      rw [if_neg (by simp; omega)]
      simpa using hr
    · cases hl

theorem run_mapM {α β : Type} (P : Program) (g : α → Sem β) (f : α → β) : ∀ (l : List α) (w : World), (∀ x ∈ l, ∀ w, (g x).run P w = .ok (f x) w) → (l.mapM g).run P w = .ok (l.map f) w
  | [], w, _ => by simp
  | x :: l, w, h => by
    simp only [List.mapM_cons, Sem.run_bind, h x (by simp) w, Result.andThen_ok, run_mapM P g f l w (fun y hy => h y (by simp [hy])), Sem.run_pure, List.map_cons]

theorem partsOf_all {P : Program} {t : TypeId} : ∀ {ps : List (Nat × Operand)} {qs : List (Nat × Nat × Opd)}, partsOf P t ps = some qs → All2 (fun p q => partOf P t p = some q) ps qs
  | [], qs, h => by simp [partsOf] at h; subst h; trivial
  | p :: ps, qs, h => by
    simp only [partsOf] at h
    cases e : partOf P t p with
    | none => simp [e] at h
    | some q =>
      cases e' : partsOf P t ps with
      | none => simp [e, e'] at h
      | some r => simp [e, e'] at h; subst h; exact ⟨e, partsOf_all e'⟩

theorem goes_build {t : TypeId} {ps : Array (Nat × Operand)} {z : List D} {qs : List (Nat × Nat × Opd)} (h : SatX S Y s a w H an F ms) (ho : o.op = .build t ps) (hf : fieldsOk S.P t = true)
    (hz : zeroOf S.P t = some z) (hq : partsOf S.P t ps.toList = some qs)
    (hv : ∃ cs, layF (evO s.fr) (z.map A.ofZ) qs = some cs ∧ (qs.all fun p => (evO s.fr p.2.2).ok) = true ∧ v = .agg cs) :
    Goes S Y s.fr s.own a ms v ((execOp a.eval o).run S.P w) := by
  obtain ⟨cs, hl, hk, rfl⟩ := hv
  obtain ⟨i, u, hi, hu, hd⟩ := zeroOf_spec hz
  have hall := partsOf_all hq
  have key : ∀ (place : Nat → Option (Nat × Nat)), (∀ p q, partOf S.P t p = some q → place p.1 = some (q.1, q.2.1) ∧ q.2.2 = opdOf p.2) →
      ∃ rs, Instr.fill place u.cells ((ps.map fun (p : Nat × Operand) => (p.1, a.eval p.2)).toList) = some rs ∧ DenAs H an cs rs.toList := by
    intro place hp
    obtain ⟨rs, hr, hd'⟩ := fill_den (evO s.fr) a.eval h.ev place ps.toList qs (z.map A.ofZ) cs u.cells (hall.mono hp) (dsOf_denA H an hd) hl hk
    exact ⟨rs, by simpa using hr, hd'⟩
  unfold fieldsOk at hf
  cases e : S.P.underlying t with
  | none => simp [e] at hf
  | some d =>
    rw [e] at hf
    cases d <;> first | (cases hf; done) | skip
    case struct fs =>
      have hf := List.all_eq_true.1 hf
      obtain ⟨rs, hr, hd'⟩ := key ((fs.map fun f => (f.offset, (szOf S.P f.type).getD 0))[·]?) (by
        intro p q hpq
        simp only [partOf, e] at hpq
        cases e1 : fs[p.1]? with
        | none => simp [e1] at hpq
        | some f =>
          cases e2 : szOf S.P f.type with
          | none => simp [e1, e2] at hpq
          | some n =>
            simp [e1, e2] at hpq
            subst hpq
            simp [e1, e2])
      refine Goes.same h (u := .agg rs) ?_ ⟨rs.toList, by simp, hd'⟩
      have hm := run_mapM S.P (fun (f : Field) => (do pure (f.offset, ← sizeOf f.type) : Sem (Nat × Nat))) (fun f => (f.offset, (szOf S.P f.type).getD 0)) fs.toList w (by
        intro f hfm w'
        have := hf f hfm
        cases e2 : szOf S.P f.type with
        | none => simp [e2] at this
        | some n => simp [run_sizeOf' e2])
      simp only [execOp, ho, Instr.build, Sem.run_bind, zeroValue, typeInfo, run_program, Result.andThen_ok, hi, Sem.run_pure, hu, Go.run_underlying e]
      rw [Array.mapM_eq_mapM_toList]
      simp only [Sem.run_map, hm, Result.andThen_ok]
      have hr' : Instr.fill (fun x => (List.map (fun f => (f.offset, (szOf S.P f.type).getD 0)) fs.toList).toArray[x]?) u.cells ((ps.map fun (p : Nat × Operand) => (p.1, a.eval p.2)).toList) = some rs := by
        rw [← hr]; congr 1; funext x; simp
      simp only [hr', Sem.run_pure, Result.andThen_ok]
    case array len el =>
      cases e2 : szOf S.P el with
      | none => simp [e2] at hf
      | some n =>
        obtain ⟨rs, hr, hd'⟩ := key (fun i => some (i * n, n)) (by
          intro p q hpq
          simp only [partOf, e, e2, Option.map_some, Option.some.injEq] at hpq
          subst hpq
          exact ⟨rfl, rfl⟩)
        refine Goes.same h (u := .agg rs) ?_ ⟨rs.toList, by simp, hd'⟩
        simp only [execOp, ho, Instr.build, Sem.run_bind, zeroValue, typeInfo, run_program, Result.andThen_ok, hi, Sem.run_pure, hu, Go.run_underlying e, run_sizeOf' e2, hr]
end
end Go.Fw
