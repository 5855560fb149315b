/- The framework, part 12: each operation does what 'Ev' says: slices cut, made, appended to; assertions. -/
import Derived.Test.YtnampnnphgedhaaDoorFwK
set_option linter.all false
namespace Go.Fw
open Go

section
variable {S : Sx} {Y : Dyn} {s : St} {a : Act} {w w' : World} {H : Heap} {an : Anc} {F : Nat → Nat → Prop} {ms : List Nat} {o : Oper} {v : V}

theorem SatX.models (h : SatX S Y s a w H an F ms) {may : Nat → Prop} (hw : WKeep w w' may) (hm : ∀ b, may b → ∃ i, F i b) : Models w' H := fun x o hx => by
  have h1 := h.mod x o hx
  refine (hw.block x (Array.getElem?_eq_some_iff.1 h1).1 (fun e => ?_)).trans h1
  obtain ⟨i, hi⟩ := hm x e
  rw [(h.fp i x hi).2.1] at hx; cases hx

/-- An own row goes on elsewhere. -/
theorem SatX.re_own (h : SatX S Y s a w H an F ms) {i : Nat} {c : Ch} {p q : Nat × Value} {f : Nat → Prop} (hi : an i = some p) (hlt : p.1 < q.1) (hq : ∃ a n c, q.2 = .slice a n c)
    (hw : WKeep w w' (F i)) (hf : ∀ b, f b → (F i b ∨ w.heap.size ≤ b) ∧ b < w'.heap.size)
    (hc : SatCh H (an.put i q) w' c q f) : SatX S Y { s with own := s.own.set i c } a w' H (an.put i q) (fun j b => if j = i then f b else F j b) ms := by
  have hle : Anc.Le an (an.put i q) := ⟨fun j r hr => by
    unfold Anc.put
    by_cases e : j = i
    · subst e
      rw [hi] at hr; cases hr
      exact ⟨q, by simp, .inr ⟨hlt, hq⟩⟩
    · exact ⟨r, by simp [e, hr], .inl rfl⟩⟩
  have hil := (h.anc i).1 ⟨p, hi⟩
  refine h.evolve (may := F i) hw (fun b hb => ⟨i, hb⟩) (Heap.Le.refl _) (h.models hw fun b hb => ⟨i, hb⟩) (fun b o hb => .inl hb) hle ?_ ?_ ?_ ?_
  · intro j
    rw [List.length_set]
    unfold Anc.put
    by_cases e : j = i
    · subst e; simp [hil]
    · rw [if_neg e]; exact h.anc j
  · intro j c' hc'
    rw [List.getElem?_set] at hc'
    by_cases e : i = j
    · subst e
      simp only [if_true, if_pos hil] at hc'
      cases hc'
      exact ⟨q, by simp [Anc.put], by simpa using hc⟩
    · rw [if_neg e] at hc'
      obtain ⟨r, hr, hs⟩ := h.own j c' hc'
      refine ⟨r, by simp [Anc.put, Ne.symm e, hr], ?_⟩
      have := hs.keep (w' := w') (Heap.Le.refl _) hle (fun x hx => hw.block x (h.fp j x hx).1 (fun e' => e (h.dj i j x e' hx)))
      simpa [Ne.symm e] using this
  · intro j b hb
    rw [List.length_set]
    by_cases e : j = i
    · subst e
      simp only [if_true] at hb
      obtain ⟨h1, h2⟩ := hf b hb
      refine ⟨hil, h2, ?_, h1.symm.imp id (fun x => ⟨_, x⟩)⟩
      rcases h1 with h1 | h1
      · exact (h.fp _ b h1).2.1
      · exact h.none_new h1
    · simp only [if_neg e] at hb
      obtain ⟨h1, h2, h3⟩ := h.fp j b hb
      exact ⟨h.fl j b hb, Nat.lt_of_lt_of_le h1 hw.size, h2, .inr ⟨j, hb⟩⟩
  · intro j k b hj hk
    by_cases e : j = i <;> by_cases e' : k = i
    · omega
    · simp only [if_pos e] at hj; simp only [if_neg e'] at hk
      exfalso
      rcases (hf b hj).1 with h1 | h1
      · exact e' (h.dj k i b hk h1)
      · have := (h.fp k b hk).1; omega
    · simp only [if_pos e'] at hk; simp only [if_neg e] at hj
      exfalso
      rcases (hf b hk).1 with h1 | h1
      · exact e (h.dj j i b hj h1)
      · have := (h.fp j b hj).1; omega
    · simp only [if_neg e] at hj; simp only [if_neg e'] at hk
      exact h.dj j k b hj hk

/-- A new own chunk, of new blocks or none. -/
theorem SatX.add_own (h : SatX S Y s a w H an F ms) {c : Ch} {q : Nat × Value} {f : Nat → Prop} (hw : WKeep w w' (fun _ => False)) (hf : ∀ b, f b → w.heap.size ≤ b ∧ b < w'.heap.size)
    (hc : SatCh H (an.put s.own.length q) w' c q f) : SatX S Y { s with own := s.own ++ [c] } a w' H (an.put s.own.length q) (fun j b => if j = s.own.length then f b else F j b) ms := by
  have hle : Anc.Le an (an.put s.own.length q) := ⟨fun i r hr => by
    refine ⟨r, ?_, .inl rfl⟩
    unfold Anc.put
    rw [if_neg (by have := (h.anc i).1 ⟨r, hr⟩; omega)]
    exact hr⟩
  refine h.evolve (may := fun _ => False) hw (fun _ hb => hb.elim) (Heap.Le.refl _) (h.models hw fun _ hb => hb.elim) (fun b o hb => .inl hb) hle ?_ ?_ ?_ ?_
  · intro i
    unfold Anc.put
    by_cases e : i = s.own.length
    · subst e; simp
    · rw [if_neg e, h.anc i]; simp; omega
  · intro i c' hc'
    by_cases e : i = s.own.length
    · subst e
      rw [List.getElem?_append_right (Nat.le_refl _)] at hc'
      simp at hc'
      subst hc'
      exact ⟨q, by simp [Anc.put], by simpa using hc⟩
    · have hlt : i < s.own.length := by
        have := (List.getElem?_eq_some_iff.1 hc').1
        simp at this
        omega
      rw [List.getElem?_append_left hlt] at hc'
      obtain ⟨r, hr, hs⟩ := h.own i c' hc'
      refine ⟨r, by simp [Anc.put, e, hr], ?_⟩
      have := hs.keep (w' := w') (Heap.Le.refl _) hle (fun x hx => hw.block x (h.fp i x hx).1 (fun x => x))
      simpa [e] using this
  · intro i b hb
    by_cases e : i = s.own.length
    · simp only [e, if_true] at hb
      obtain ⟨h1, h2⟩ := hf b hb
      exact ⟨by simp [e], h2, h.none_new h1, .inl h1⟩
    · simp only [e, if_false] at hb
      obtain ⟨h1, h2, h3⟩ := h.fp i b hb
      exact ⟨by have := h.fl i b hb; simp; omega, Nat.lt_of_lt_of_le h1 hw.size, h2, .inr ⟨i, hb⟩⟩
  · intro i j b hi hj
    by_cases e : i = s.own.length <;> by_cases e' : j = s.own.length
    · omega
    · simp only [e, if_true] at hi; simp only [e', if_false] at hj
      have := (h.fp j b hj).1; have := (hf b hi).1; omega
    · simp only [e', if_true] at hj; simp only [e, if_false] at hi
      have := (h.fp i b hi).1; have := (hf b hj).1; omega
    · simp only [e, if_false] at hi; simp only [e', if_false] at hj
      exact h.dj i j b hi hj

theorem own_new {i ver : Nat} {p : Value} (h : p.oneCell' = true) : DenV H (an.put i (ver, p)) (.one (.own i ver)) p := ⟨h, (ver, p), by simp [Anc.put], Nat.le_refl _, fun _ => rfl⟩

theorem run_bound1 (h : SatX S Y s a w H an F ms) {y : Operand} {d q n : Nat} (hq : boundV (evO s.fr) (some (opdOf y)) d q) (hle : q ≤ n) (code : BoundsCode) : (Instr.sliceBound (a.eval y) n code).run S.P w = .ok q w := by
  have hy := h.ev y
  simp only [boundV] at hq
  split at hq
  · rename_i k m e2
    rw [e2] at hy
    subst hq
    simp only [den_int hy, Instr.sliceBound, asIntOf, Sem.run_bind, Sem.run_pure, Result.andThen_ok, Sem.run_ite]
    rw [if_pos ⟨by omega, by omega⟩]; simp
  · exact hq.elim
theorem run_bounds (h : SatX S Y s a w H an F ms) {lo hi : Option Operand} {len cap l q : Nat} (isS : Bool) (hl : boundV (evO s.fr) (lo.map opdOf) 0 l) (hq : boundV (evO s.fr) (hi.map opdOf) len q) (h1 : l ≤ q) (h2 : q ≤ cap) :
    (Instr.sliceBounds isS len cap (lo.map a.eval) (hi.map a.eval) none).run S.P w = .ok (l, q, cap) w := by
  cases hi with
  | none =>
    simp only [Option.map_none, boundV] at hq
    subst hq
    cases lo with
    | none =>
      simp only [Option.map_none, boundV] at hl
      subst hl
      simp [Instr.sliceBounds]
    | some y =>
      have := run_bound1 h (y := y) hl h1 .sliceB
      simp [Instr.sliceBounds, this]
  | some x =>
    have hx := run_bound1 h (y := x) (n := cap) hq h2 (if isS then .sliceAcap else .sliceAlen)
    cases lo with
    | none =>
      simp only [Option.map_none, boundV] at hl
      subst hl
      simp [Instr.sliceBounds, hx]
    | some y =>
      have := run_bound1 h (y := y) hl h1 .sliceB
      simp [Instr.sliceBounds, hx, this]

theorem goes_slcS {t : TypeId} {x : Operand} {lo hi : Option Operand} (h : SatX S Y s a w H an F ms) (ho : o.op = .slice t x lo hi none) (ht : S.P.underlying t = some .string)
    (hv : match evO s.fr (opdOf x) with
    | .one (.d (.str st)) => ∃ l q : Nat, boundV (evO s.fr) (lo.map opdOf) 0 l ∧ boundV (evO s.fr) (hi.map opdOf) st.size q ∧ l ≤ q ∧ q ≤ st.size ∧ v = .one (.d (.str (st.extract l q)))
    | _ => False) : Goes S Y s.fr s.own a ms v ((execOp a.eval o).run S.P w) := by
  have hx := h.ev x
  split at hv
  · rename_i st e
    rw [e] at hx
    obtain ⟨l, q, hl, hq, hlq, hqs, rfl⟩ := hv
    refine Goes.same h (u := .string (st.extract l q)) ?_ (Den.str _)
    simp only [execOp, ho, Option.map_none, Instr.sliceAt, Sem.run_bind, Go.run_underlying ht, Result.andThen_ok, Instr.slice, den_str hx, Option.isSome_none, Bool.false_eq_true, if_false, run_bounds h false hl hq hlq hqs, Sem.run_pure]
  · exact hv.elim

theorem den_cut {xs : List (List D)} {u : Value} {n l q : Nat} (hu : Den H (.sl xs) u) (hs : ∀ y ∈ xs, y.length = n) (h1 : l ≤ q) (h2 : q ≤ xs.length) :
    ∃ A cap, u = .slice A xs.length cap ∧ xs.length ≤ cap ∧ Den H (.sl ((xs.take q).drop l)) (.slice (if cap = l then A else A.map (·.add (l * n))) (q - l) (cap - l)) := by
  cases hu with
  | slE A c =>
    simp at h2
    obtain rfl : q = 0 := by omega
    obtain rfl : l = 0 := by omega
    exact ⟨A, c, rfl, by simp, by simpa using Den.slE _ _⟩
  | sl xs b o c sz cells T fz f hb hs' hc hl hf hd =>
    refine ⟨_, c, rfl, hc, ?_⟩
    have hlen : ((xs.take q).drop l).length = q - l := by simp; omega
    by_cases e0 : q = l
    · subst e0
      have : (xs.take q).drop q = [] := by simp
      rw [this, Nat.sub_self]
      exact Den.slE _ _
    · have hne : c ≠ l := by omega
      rw [if_neg hne, ← hlen]
      simp only [Option.map_some, addr_add]
      have hsn : sz = n := by
        cases xs with
        | nil => simp at h2; omega
        | cons y ys => rw [← hs' y (by simp), hs y (by simp)]
      subst hsn
      refine Den.sl _ b _ _ sz cells T fz (fun i j => f (l + i) j) hb (fun y hy => hs y (List.mem_of_mem_take (List.mem_of_mem_drop hy))) (by rw [hlen]; omega) (by rw [hlen]; omega) ?_ ?_
      · intro i y j z hy hz
        rw [List.getElem?_drop, List.getElem?_take] at hy
        split at hy
        · rw [← hf _ _ _ _ hy hz]; congr 1; rw [Nat.add_mul]; omega
        · cases hy
      · intro i y j z hy hz
        rw [List.getElem?_drop, List.getElem?_take] at hy
        split at hy
        · exact hd _ _ _ _ hy hz
        · cases hy

theorem SatX.rowAt (h : SatX S Y s a w H an F ms) {i sz ver : Nat} {xs : List (List D)} (hc : getC s.own i = .row sz ver xs) : SatCh H an w (.row sz ver xs) ((an i).getD (0, undef)) (F i) ∧ ∃ p, an i = some (ver, p) := by
  obtain ⟨p, hp, hs⟩ := h.own i _ (getC_some hc (by simp))
  rw [hp]
  refine ⟨hs, p.2, ?_⟩
  obtain ⟨h0, _⟩ := hs
  rw [← h0]

theorem goes_slc {t e : TypeId} {x : Operand} {lo hi : Option Operand} {n : Nat} {own' : List Ch} (h : SatX S Y s a w H an F ms) (ho : o.op = .slice t x lo hi none) (ht : S.P.underlying t = some (.slice e)) (hn : szOf S.P e = some n)
    (hv : match (evO s.fr (opdOf x)).nrm with
    | .one (.d (.sl xs)) => own' = s.own ∧ ∃ l q : Nat, boundV (evO s.fr) (lo.map opdOf) 0 l ∧ boundV (evO s.fr) (hi.map opdOf) xs.length q ∧ l ≤ q ∧ q ≤ xs.length ∧ (∀ y ∈ xs, y.length = n) ∧ v = .one (.d (.sl ((xs.take q).drop l)))
    | .one (.own j ver) => (match getC s.own j with
      | .row sz' ver' xs => sz' = n ∧ ver' = ver ∧ ∃ l q : Nat, boundV (evO s.fr) (lo.map opdOf) 0 l ∧ boundV (evO s.fr) (hi.map opdOf) xs.length q ∧ l ≤ q ∧ q ≤ xs.length ∧ own' = setC s.own j (.row n (ver + 1) ((xs.take q).drop l)) ∧ v = .one (.own j (ver + 1))
      | _ => False)
    | _ => False) : Goes S Y s.fr own' a ms v ((execOp a.eval o).run S.P w) := by
  have hx := h.evn x
  have run : ∀ (A : Option Addr) (len cap l q : Nat), a.eval x = .slice A len cap → boundV (evO s.fr) (lo.map opdOf) 0 l → boundV (evO s.fr) (hi.map opdOf) len q → l ≤ q → q ≤ cap →
      (execOp a.eval o).run S.P w = .ok (.value (.slice (if cap = l then A else A.map (·.add (l * n))) (q - l) (cap - l))) w := by
    intro A len cap l q hu hl hq h1 h2
    simp only [execOp, ho, Option.map_none, Instr.sliceAt, Sem.run_bind, Go.run_underlying ht, Result.andThen_ok, Instr.slice, hu, run_bounds h true hl hq h1 h2, run_sizeOf' hn, Sem.run_pure]
  split at hv
  · rename_i xs e1
    rw [e1] at hx
    obtain ⟨rfl, l, q, hl, hq, h1, h2, hs, rfl⟩ := hv
    obtain ⟨A, cap, hu, hc, hd⟩ := den_cut (u := a.eval x) hx hs h1 h2
    exact Goes.same h (run A _ cap l q hu hl hq h1 (by omega)) hd
  · rename_i j ver e1
    rw [e1] at hx
    split at hv
    · rename_i sz' ver' xs hc
      obtain ⟨rfl, rfl, l, q, hl, hq, h1, h2, rfl, rfl⟩ := hv
      obtain ⟨p, hp, hps, hs, hsz, hlen, h4⟩ := h.row hc
      have hu := own_val hp hx
      have hlen' : ((xs.take q).drop l).length = q - l := by simp; omega
      rcases h4 with ⟨rfl, ⟨A, rfl⟩, hF⟩ | ⟨b, of, cap, vs, T, rfl, e2, e3, e4, e5, e6⟩
      · simp at h2
        obtain rfl : q = 0 := by omega
        obtain rfl : l = 0 := by omega
        have hr := run A 0 0 0 0 hu hl hq (Nat.le_refl _) (Nat.le_refl _)
        simp only [if_true, Nat.sub_self] at hr
        refine ⟨_, _, w, H, an.put j (ver' + 1, .slice A 0 0), (fun i b => if i = j then False else F i b), hr, .inl rfl, ?_, own_new (an := an) (p := .slice A 0 0) (ver := ver' + 1) rfl⟩
        rw [setC_eq]
        exact h.re_own (q := (ver' + 1, .slice A 0 0)) (f := fun _ => False) hp (by simp) ⟨A, 0, 0, rfl⟩ (WKeep.refl _ _) (fun _ hb => hb.elim) ⟨rfl, ⟨A, 0, 0, rfl⟩, hs, by simp, by simp [lenMax], .inl ⟨by simp, ⟨A, rfl⟩, fun _ hb => hb⟩⟩
      · have hr := run _ _ cap l q hu hl hq h1 (by omega)
        have hch : ∀ (of' : Nat), (¬ cap = l → of' = of + l * sz') → (cap = l → of' = of) → SatCh H (an.put j (ver' + 1, .slice (some ⟨b, of', none⟩) (q - l) (cap - l))) w (.row sz' (ver' + 1) ((xs.take q).drop l)) (ver' + 1, .slice (some ⟨b, of', none⟩) (q - l) (cap - l)) (fun x => x = b) := by
          intro of' ho1 ho2
          refine ⟨rfl, ⟨_, _, _, rfl⟩, hs, fun y hy => hsz y (List.mem_of_mem_take (List.mem_of_mem_drop hy)), by rw [hlen']; omega, .inr ⟨b, of', cap - l, vs, T, by rw [hlen'], fun _ => Iff.rfl, e3, by rw [hlen']; omega, ?_, ?_⟩⟩
          · by_cases ec : cap = l
            · rw [ho2 ec, ec, Nat.sub_self]
              have : of + cap * sz' ≤ vs.size := e5
              omega
            · rw [ho1 ec, Nat.sub_mul]
              have : l * sz' ≤ cap * sz' := Nat.mul_le_mul_right _ (by omega)
              omega
          · intro i y k z hy hz
            rw [List.getElem?_drop, List.getElem?_take] at hy
            split at hy
            · rename_i hlt
              obtain ⟨g, hg, hgd⟩ := e6.get (flat_get hsz hy hz)
              refine ⟨g, ?_, hgd⟩
              rw [List.getElem?_take] at hg
              split at hg
              · rw [List.getElem?_drop] at hg
                rw [← Array.getElem?_toList, ← hg]; congr 1
                rw [ho1 (by omega), Nat.add_mul]; omega
              · cases hg
            · cases hy
        rw [setC_eq]
        by_cases ec : cap = l
        · rw [if_pos ec] at hr
          refine ⟨_, _, w, H, an.put j (ver' + 1, .slice (some ⟨b, of, none⟩) (q - l) (cap - l)), (fun i x => if i = j then x = b else F i x), hr, .inl rfl, ?_, own_new (an := an) (ver := ver' + 1) rfl⟩
          exact h.re_own (q := (ver' + 1, .slice (some ⟨b, of, none⟩) (q - l) (cap - l))) (f := fun x => x = b) hp (by simp) ⟨_, _, _, rfl⟩ (WKeep.refl _ _) (fun x hx => ⟨.inl ((e2 x).2 hx), by subst hx; exact (Array.getElem?_eq_some_iff.1 e3).1⟩) (hch of (fun hn => absurd ec hn) (fun _ => rfl))
        · rw [if_neg ec] at hr
          simp only [Option.map_some, addr_add] at hr
          refine ⟨_, _, w, H, an.put j (ver' + 1, .slice (some ⟨b, of + l * sz', none⟩) (q - l) (cap - l)), (fun i x => if i = j then x = b else F i x), hr, .inl rfl, ?_, own_new (an := an) (ver := ver' + 1) rfl⟩
          exact h.re_own (q := (ver' + 1, .slice (some ⟨b, of + l * sz', none⟩) (q - l) (cap - l))) (f := fun x => x = b) hp (by simp) ⟨_, _, _, rfl⟩ (WKeep.refl _ _) (fun x hx => ⟨.inl ((e2 x).2 hx), by subst hx; exact (Array.getElem?_eq_some_iff.1 e3).1⟩) (hch (of + l * sz') (fun _ => rfl) (fun hn => absurd hn ec))
    · exact hv.elim
  · exact hv.elim

theorem goes_tas {t xt : TypeId} {x : Operand} {ok : Bool} {z : V} {d : TypeDesc} (h : SatX S Y s a w H an F ms) (ho : o.op = .typeAssert x xt t ok) (ht : S.P.underlying t = some d) (hd : ∀ m, d ≠ .interface m) (hz : zeroVOf S.P t = some z)
    (hv : match evO s.fr (opdOf x) with
    | .one (.d (.ifc t' ag cs)) => if t' = t then v = (if ok then .tup [mkV ag (cs.map .d), .one (.d (.bool true))] else mkV ag (cs.map .d)) else ok = true ∧ z.ok = true ∧ v = .tup [z, .one (.d (.bool false))]
    | .one (.d .nilI) => ok = true ∧ z.ok = true ∧ v = .tup [z, .one (.d (.bool false))]
    | _ => False) : Goes S Y s.fr s.own a ms v ((execOp a.eval o).run S.P w) := by
  have hx := h.ev x
  obtain ⟨zu, hzr, hzd⟩ := zeroV_den (H := H) (an := an) hz
  have fails : ok = true → z.ok = true → ((Instr.typeAssert (a.eval x) xt t ok).run S.P w = .ok (.tuple #[zu, .bool false]) w) → Goes S Y s.fr s.own a ms (.tup [z, .one (.d (.bool false))]) ((execOp a.eval o).run S.P w) := by
    intro _ hzo hr
    refine Goes.same h (u := .tuple #[zu, .bool false]) ?_ ⟨[zu, .bool false], rfl, keyed_den hzo hzd, Den.bool _, trivial⟩
    simp only [execOp, ho, Sem.run_bind, hr, Result.andThen_ok, Sem.run_pure]
  split at hv
  · rename_i t' ag cs e
    rw [e] at hx
    have : ∃ u, a.eval x = .iface t' u ∧ DenV1 H an (mkV ag (cs.map .d)) u := by
      generalize a.eval x = q at hx
      cases hx with
      | ifcV _ c u hc => exact ⟨u, rfl, hc⟩
      | ifcA _ cs vs hl hc => exact ⟨_, rfl, vs, rfl, Dens.den_d (All2.of_get hl.symm hc)⟩
    obtain ⟨u, hu, hud⟩ := this
    split at hv
    · rename_i htt
      subst htt
      subst hv
      refine Goes.same h (u := if ok then .tuple #[u, .bool true] else u) ?_ ?_
      · simp only [execOp, ho, Instr.typeAssert, Sem.run_bind, Go.run_underlying ht, Result.andThen_ok, hu]
        cases d <;> first | exact absurd rfl (hd _) | (cases ok <;> simp)
      · cases ok with
        | true => exact ⟨[u, .bool true], rfl, hud, Den.bool _, trivial⟩
        | false =>
          simp only [Bool.false_eq_true, if_false]
          generalize mkV ag (cs.map .d) = q at hud
          cases q <;> first | exact hud | exact hud.elim
    · rename_i htt
      obtain ⟨hok, hzo, rfl⟩ := hv
      refine fails hok hzo ?_
      simp only [Instr.typeAssert, Sem.run_bind, Go.run_underlying ht, Result.andThen_ok, hu]
      cases d <;> first | exact absurd rfl (hd _) | simp [htt, hok, hzr]
  · rename_i e
    rw [e] at hx
    obtain ⟨hok, hzo, rfl⟩ := hv
    refine fails hok hzo ?_
    simp only [Instr.typeAssert, Sem.run_bind, Go.run_underlying ht, Result.andThen_ok, den_nilI hx]
    cases d <;> first | exact absurd rfl (hd _) | simp [hok, hzr]
  · exact hv.elim
end
end Go.Fw
