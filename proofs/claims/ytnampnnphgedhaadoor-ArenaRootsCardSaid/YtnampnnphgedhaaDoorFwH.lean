/- The framework, part 8: each operation does what 'Ev' says: reads, writes, addresses. -/
import Derived.Test.YtnampnnphgedhaaDoorFwG
set_option linter.all false
namespace Go.Fw
open Go

section
variable {S : Sx} {Y : Dyn} {s : St} {a : Act} {w : World} {H : Heap} {an : Anc} {F : Nat → Nat → Prop} {ms : List Nat} {o : Oper} {v : V}

theorem getD_of {cells : Array Value} {k : Nat} {q : Value} (h : cells[k]? = some q) : cells.getD k undef = q := by simp [Array.getD_eq_getD_getElem?, h]

/-- An own row that lies somewhere: its elements' cells. -/
theorem SatX.row (h : SatX S Y s a w H an F ms) {i sz ver : Nat} {xs : List (List D)} (hc : getC s.own i = .row sz ver xs) :
    ∃ p, an i = some (ver, p) ∧ (∃ a n c, p = .slice a n c) ∧ 0 < sz ∧ (∀ x ∈ xs, x.length = sz) ∧ xs.length < lenMax ∧
      ((xs = [] ∧ (∃ a, p = .slice a 0 0) ∧ ∀ x, ¬ F i x) ∨
       ∃ b o cap vs T, p = .slice (some ⟨b, o, none⟩) xs.length cap ∧ (∀ x, F i x ↔ x = b) ∧ w.heap[b]? = some (.cells vs T (0, 0)) ∧ xs.length ≤ cap ∧ o + cap * sz ≤ vs.size ∧
         Dens H xs.flatten ((vs.toList.drop o).take (xs.length * sz))) := by
  obtain ⟨p, hp, h0, hs, h1, h2, h3, h4⟩ := h.own i _ (getC_some hc (by simp))
  obtain ⟨p1, p2⟩ := p
  simp only at h0 hs h4
  subst h0
  refine ⟨p2, hp, hs, h1, h2, h3, ?_⟩
  rcases h4 with h4 | ⟨b, o, cap, vs, T, e1, e2, e3, e4, e5, e6⟩
  · exact .inl h4
  · refine .inr ⟨b, o, cap, vs, T, e1, e2, e3, e4, e5, ?_⟩
    have hle : xs.length * sz ≤ cap * sz := Nat.mul_le_mul_right _ e4
    refine All2.of_get (by rw [flat_len h2]; simp; omega) fun k x y hx hy => ?_
    rw [List.getElem?_take] at hy
    split at hy
    · rename_i hk
      rw [List.getElem?_drop] at hy
      obtain ⟨x', y', g1, g2, g3⟩ := flat_inv h1 h2 hk
      rw [g3] at hx; cases hx
      obtain ⟨q, hq, hd⟩ := e6 _ _ _ _ g1 g2
      have ek : o + k / sz * sz + k % sz = o + k := by have := Nat.div_add_mod k sz; rw [Nat.mul_comm] at this; omega
      rw [ek] at hq
      rw [Array.getElem?_toList, hq] at hy
      cases hy; exact hd
    · cases hy

theorem SatX.rp (h : SatX S Y s a w H an F ms) {i ver sz e off : Nat} {b o n c : Nat} {u : Value} (hb : an i = some (ver, .slice (some ⟨b, o, none⟩) n c)) (hu : DenV H an (.one (.rp i ver sz e off)) u) :
    u = .pointer (some ⟨b, o + e * sz + off, none⟩) := by
  obtain ⟨b0, q, rfl, p, hp, _, he⟩ := hu
  rw [hb] at hp; cases hp
  obtain ⟨rfl, rfl⟩ := he rfl b o n c rfl
  rfl

theorem Dens.elem {xs : List (List D)} {sz i : Nat} {x : List D} {vs : List Value} (h1 : ∀ x ∈ xs, x.length = sz) (hx : xs[i]? = some x) (h : Dens H xs.flatten vs) :
    Dens H x ((vs.drop (i * sz)).take sz) := by
  have hl := h.length
  rw [flat_len h1] at hl
  have hi := (List.getElem?_eq_some_iff.1 hx).1
  have hxl := h1 x (List.mem_of_getElem? hx)
  have hb : i * sz + sz ≤ xs.length * sz := by
    have : (i + 1) * sz ≤ xs.length * sz := Nat.mul_le_mul_right _ hi
    rw [Nat.add_mul] at this; omega
  refine All2.of_get (by simp; omega) fun j y q hy hq => ?_
  obtain ⟨q', hq', hd⟩ := h.get (flat_get h1 hx hy)
  rw [List.getElem?_take] at hq
  split at hq
  · rw [List.getElem?_drop, hq'] at hq; cases hq; exact hd
  · cases hq

theorem goes_load {t : TypeId} {x : Operand} {n : Nat} (h : SatX S Y s a w H an F ms) (ho : o.op = .load t x) (hn : szOf S.P t = some n)
    (hv : (isAggB S.P t = true ∨ n = 1) ∧ match evO s.fr (opdOf x) with
    | .one (.ptr i off) => (match getC s.own i with
      | .cells cs => off + n ≤ cs.length ∧ v = mkV (isAggB S.P t) ((cs.drop off).take n)
      | _ => False)
    | .one (.d (.bx cs)) => n ≤ cs.length ∧ v = mkV (isAggB S.P t) ((cs.take n).map .d)
    | .one (.rp i ver sz e off) => (match getC s.own i with
      | .row sz' ver' xs => sz' = sz ∧ ver' = ver ∧ ∃ x, xs[e]? = some x ∧ off + n ≤ x.length ∧ v = mkV (isAggB S.P t) (((x.drop off).take n).map .d)
      | _ => False)
    | .one (.d (.raw (.pointer (some ⟨g, 0, none⟩)))) => ∃ cells T fz ds, S.gp g = some (.cells cells T fz) ∧ dsOf cells.toList = some ds ∧ n ≤ ds.length ∧ v = mkV (isAggB S.P t) ((ds.take n).map .d)
    | _ => False) : Goes S Y s.fr s.own a ms v ((execOp a.eval o).run S.P w) := by
  obtain ⟨hag, hv⟩ := hv
  have fin : ∀ (b of : Nat) (vs : List Value) (l : List A), a.eval x = .pointer (some ⟨b, of, none⟩) → vs.length = n → DenAs H an l vs → (∀ j v, vs[j]? = some v → w.cell? ⟨b, of + j, none⟩ = some v) →
      v = mkV (isAggB S.P t) l → Goes S Y s.fr s.own a ms v ((execOp a.eval o).run S.P w) := by
    rintro b of vs l hx hl hd hc rfl
    refine Goes.same h (u := if isAggB S.P t then .agg vs.toArray else vs.headD undef) ?_ (mkV_den hd (hag.imp id (fun e => by rw [hd.length, hl]; exact e)))
    simp only [execOp, ho, Instr.loadAt, hx, Sem.run_bind, Instr.sureAddr, Sem.run_pure, Result.andThen_ok, run_loadVar' hn hag b of vs hl hc]
  have hx := h.ev x
  split at hv
  · rename_i i off e
    rw [e] at hx
    split at hv
    · rename_i cs hc
      obtain ⟨hle, hv⟩ := hv
      obtain ⟨b, T, vs, hb, hF, hh, hd⟩ := h.box hc
      have hlv := hd.length
      refine fin b off ((vs.drop off).take n) _ (h.ptr hb hx) (by simp; omega) ((hd.drop off).take n) (fun j q hq => ?_) hv
      rw [cell_of_heap hh]
      rw [List.getElem?_take] at hq
      split at hq
      · rw [List.getElem?_drop] at hq; simpa using hq
      · cases hq
    · exact hv.elim
  · rename_i cs e
    rw [e] at hx
    obtain ⟨hle, hv⟩ := hv
    obtain ⟨b, of, cells, T, fz, vs, hu, hb, hh, hd, hc⟩ := den_bx h.mod hx
    have hlv := hd.length
    refine fin b of (vs.take n) _ hu (by simp; omega) (Dens.den_d (hd.take n)) (fun j q hq => ?_) hv
    rw [cell_of_heap hh]
    rw [List.getElem?_take] at hq
    split at hq
    · exact hc j q hq
    · cases hq
  · rename_i i ver sz e off ee
    rw [ee] at hx
    split at hv
    · rename_i sz' ver' xs hc
      obtain ⟨rfl, rfl, y, hy, hle, hv⟩ := hv
      obtain ⟨p, hp, _, hs, h1, h2, h4⟩ := h.row hc
      rcases h4 with ⟨rfl, _⟩ | ⟨b, of, cap, vs, T, rfl, e2, e3, e4, e5, e6⟩
      · simp at hy
      · have hd := Dens.elem h1 hy e6
        have hyl := h1 y (List.mem_of_getElem? hy)
        have hi := (List.getElem?_eq_some_iff.1 hy).1
        have hlv := hd.length
        refine fin b (of + e * sz' + off) _ _ (h.rp hp hx) ?_ (Dens.den_d ((hd.drop off).take n)) (fun j q hq => ?_) hv
        · have hdl := ((hd.drop off).take n).length
          rw [← hdl]; simp; omega
        · rw [cell_of_heap e3]
          rw [List.getElem?_take] at hq
          split at hq
          · rw [List.getElem?_drop, List.getElem?_take] at hq
            split at hq
            · rw [List.getElem?_drop, List.getElem?_take] at hq
              split at hq
              · rw [List.getElem?_drop] at hq
                rw [← Array.getElem?_toList, ← hq]; congr 1; omega
              · cases hq
            · cases hq
          · cases hq
    · exact hv.elim
  · rename_i g e
    rw [e] at hx
    obtain ⟨cells, T, fz, ds, hg, hds, hle, hv⟩ := hv
    have hd := dsOf_den H hds
    have hlv := hd.length
    have hh := h.mod g _ (h.gp g _ hg)
    refine fin g 0 (cells.toList.take n) _ (den_raw hx) (by simp; simp at hlv; omega) (Dens.den_d (hd.take n)) (fun j q hq => ?_) hv
    rw [cell_of_heap hh]
    rw [List.getElem?_take] at hq
    split at hq
    · simpa using hq
    · cases hq
  · exact hv.elim

theorem goes_store {t : TypeId} {x y : Operand} {n : Nat} {own' : List Ch} (h : SatX S Y s a w H an F ms) (ho : o.op = .store t x y) (hn : szOf S.P t = some n)
    (hv : (evO s.fr (opdOf y)).ok = true ∧ (evO s.fr (opdOf y)).cells.length = n ∧ v = .un ∧ match evO s.fr (opdOf x) with
    | .one (.ptr i off) => (match getC s.own i with
      | .cells cs => off + n ≤ cs.length ∧ solidAll (evO s.fr (opdOf y)).cells = true ∧ own' = setC s.own i (.cells (cs.take off ++ (evO s.fr (opdOf y)).cells ++ cs.drop (off + n)))
      | _ => False)
    | .one (.rp i ver sz e off) => (match getC s.own i with
      | .row sz' ver' xs => sz' = sz ∧ ver' = ver ∧ ∃ x ds, xs[e]? = some x ∧ off + n ≤ x.length ∧ allD (evO s.fr (opdOf y)).cells = some ds ∧ own' = setC s.own i (.row sz ver (xs.set e (x.take off ++ ds ++ x.drop (off + n))))
      | _ => False)
    | _ => False) : Goes S Y s.fr own' a ms v ((execOp a.eval o).run S.P w) := by
  obtain ⟨hk, hlen, rfl, hv⟩ := hv
  have hx := h.ev x
  obtain ⟨us, hu, hdu, _⟩ := (h.ev y).cells hk
  have hul : us.length = n := by rw [← hdu.length]; exact hlen
  split at hv
  · rename_i i off e
    rw [e] at hx
    split at hv
    · rename_i cs hc
      obtain ⟨hle, hsol, rfl⟩ := hv
      obtain ⟨b, T, vs, hb, hF, hh, hd⟩ := h.box hc
      have hlv := hd.length
      obtain ⟨w', hr, hw, hh'⟩ := run_storeVar' (P := S.P) hn b off (a.eval y) us vs T hu hul (solid_oneCell hdu hsol) hh (by omega)
      refine ⟨.skip, undef, w', H, an, F, ?_, .inr ⟨rfl, rfl⟩, ?_, trivial⟩
      · simp only [execOp, ho, Instr.storeAt, h.ptr hb hx, Sem.run_bind, Instr.sureAddr, Sem.run_pure, Result.andThen_ok, hr]
      · rw [setC_eq]
        exact h.set_own hb hF hw ⟨rfl, b, T, _, rfl, hF, hh', ((hd.take off).append hdu).append (hd.drop (off + n))⟩
    · exact hv.elim
  · rename_i i ver sz e off ee
    rw [ee] at hx
    split at hv
    · rename_i sz' ver' xs hc
      obtain ⟨rfl, rfl, q, ds, hq, hle, hds, rfl⟩ := hv
      obtain ⟨p, hp, hps, hs, h1, h2, h4⟩ := h.row hc
      rcases h4 with ⟨rfl, _⟩ | ⟨b, of, cap, vs, T, rfl, e2, e3, e4, e5, e6⟩
      · simp at hq
      · have hql := h1 q (List.mem_of_getElem? hq)
        have hi := (List.getElem?_eq_some_iff.1 hq).1
        have hcap : e * sz' + sz' ≤ cap * sz' := by
          have : (e + 1) * sz' ≤ cap * sz' := Nat.mul_le_mul_right _ (by omega)
          rw [Nat.add_mul] at this; omega
        have hdd := allD_den hds hdu
        have hdl := hdd.length
        obtain ⟨w', hr, hw, hh'⟩ := run_storeVar' (P := S.P) hn b (of + e * sz' + off) (a.eval y) us vs.toList T hu hul (fun v hv => by
          obtain ⟨k, hk1⟩ := List.mem_iff_getElem?.1 hv
          have hlt := (List.getElem?_eq_some_iff.1 hk1).1
          have : ds[k]? = some (ds[k]'(by omega)) := List.getElem?_eq_getElem (by omega)
          obtain ⟨q', hq', hd'⟩ := hdd.get this
          rw [hk1] at hq'; cases hq'; exact hd'.oneCell) (by simpa using e3) (by simp; omega)
        refine ⟨.skip, undef, w', H, an, F, ?_, .inr ⟨rfl, rfl⟩, ?_, trivial⟩
        · simp only [execOp, ho, Instr.storeAt, h.rp hp hx, Sem.run_bind, Instr.sureAddr, Sem.run_pure, Result.andThen_ok, hr]
        · rw [setC_eq]
          have hnl : (q.take off ++ ds ++ q.drop (off + n)).length = sz' := by simp; omega
          have h1' : ∀ y ∈ xs.set e (q.take off ++ ds ++ q.drop (off + n)), y.length = sz' := by
            intro y hy
            rcases List.mem_or_eq_of_mem_set hy with hy | hy
            · exact h1 y hy
            · rw [hy]; exact hnl
          refine h.set_own hp e2 hw ⟨rfl, hps, hs, h1', by simpa using h2, .inr ⟨b, of, cap, _, T, by simp, e2, hh', by simpa using e4, by simp; omega, ?_⟩⟩
          -- the elements' cells
          have hvl : of + cap * sz' ≤ vs.toList.length := by simpa using e5
          have hcell : ∀ k, (of + e * sz' + off ≤ k ∧ k < of + e * sz' + off + n → (vs.toList.take (of + e * sz' + off) ++ us ++ vs.toList.drop (of + e * sz' + off + n))[k]? = us[k - (of + e * sz' + off)]?) ∧
              (¬ (of + e * sz' + off ≤ k ∧ k < of + e * sz' + off + n) → (vs.toList.take (of + e * sz' + off) ++ us ++ vs.toList.drop (of + e * sz' + off + n))[k]? = vs[k]?) := by
            intro k
            have htl : (vs.toList.take (of + e * sz' + off)).length = of + e * sz' + off := by simp at hvl ⊢; omega
            constructor
            · intro hk
              rw [List.append_assoc, List.getElem?_append_right (by omega), htl, List.getElem?_append_left (by omega)]
            · intro hk
              by_cases hk1 : k < of + e * sz' + off
              · rw [List.append_assoc, List.getElem?_append_left (by omega), List.getElem?_take, if_pos hk1, Array.getElem?_toList]
              · rw [List.getElem?_append_right (by simp; simp at hvl; omega), List.getElem?_drop]
                have : (vs.toList.take (of + e * sz' + off) ++ us).length = of + e * sz' + off + n := by rw [List.length_append, htl, hul]
                rw [this, Array.getElem?_toList]; congr 1; omega
          intro i' x' j' y' hx' hy'
          have hj' : j' < sz' := by
            have h3 := h1' x' (List.mem_of_getElem? hx')
            have := (List.getElem?_eq_some_iff.1 hy').1; omega
          rw [List.getElem?_toArray]
          rw [List.getElem?_set] at hx'
          by_cases he : e = i'
          · subst he
            simp only [if_true] at hx'
            split at hx'
            · cases hx'
              by_cases hin : off ≤ j' ∧ j' < off + n
              · rw [(hcell _).1 ⟨by omega, by omega⟩]
                have : (q.take off ++ ds ++ q.drop (off + n))[j']? = ds[j' - off]? := by
                  have htl : (q.take off).length = off := by simp; omega
                  rw [List.append_assoc, List.getElem?_append_right (by omega), htl, List.getElem?_append_left (by omega)]
                rw [this] at hy'
                obtain ⟨g, hg, hgd⟩ := hdd.get hy'
                refine ⟨g, ?_, hgd⟩
                rw [← hg]; congr 1; omega
              · rw [(hcell _).2 (by omega)]
                have : (q.take off ++ ds ++ q.drop (off + n))[j']? = q[j']? := by
                  have htl : (q.take off).length = off := by simp; omega
                  by_cases hk1 : j' < off
                  · rw [List.append_assoc, List.getElem?_append_left (by omega), List.getElem?_take, if_pos hk1]
                  · rw [List.getElem?_append_right (by simp; omega), List.getElem?_drop]
                    have : (q.take off ++ ds).length = off + n := by rw [List.length_append, htl]; omega
                    rw [this]; congr 1; omega
                rw [this] at hy'
                obtain ⟨g, hg, hgd⟩ := e6.get (flat_get h1 hq hy')
                refine ⟨g, ?_, hgd⟩
                rw [List.getElem?_take] at hg
                split at hg
                · rw [List.getElem?_drop] at hg; rw [← Array.getElem?_toList, ← hg]; congr 1; omega
                · cases hg
            · rename_i hno; exact absurd hi hno
          · rw [if_neg he] at hx'
            rw [(hcell _).2 (by
              rcases Nat.lt_or_gt_of_ne he with hlt | hlt
              · have : (e + 1) * sz' ≤ i' * sz' := Nat.mul_le_mul_right _ hlt
                rw [Nat.add_mul] at this; omega
              · have : (i' + 1) * sz' ≤ e * sz' := Nat.mul_le_mul_right _ hlt
                rw [Nat.add_mul] at this; omega)]
            obtain ⟨g, hg, hgd⟩ := e6.get (flat_get h1 hx' hy')
            refine ⟨g, ?_, hgd⟩
            rw [List.getElem?_take] at hg
            split at hg
            · rw [List.getElem?_drop] at hg; rw [← Array.getElem?_toList, ← hg]; congr 1; omega
            · cases hg
    · exact hv.elim
  · exact hv.elim
end
end Go.Fw
