/- The framework, part 7: each operation does what 'Ev' says: slices of literals, reads, writes. -/
import Derived.Test.YtnampnnphgedhaaDoorFwF
set_option linter.all false
namespace Go.Fw
open Go

/-! ### Lists of lists of one length -/
section
variable {α : Type} {sz : Nat}
theorem flat_len : ∀ {xs : List (List α)}, (∀ x ∈ xs, x.length = sz) → xs.flatten.length = xs.length * sz
  | [], _ => by simp
  | x :: xs, h => by
    simp only [List.flatten_cons, List.length_append, List.length_cons, h x (by simp), flat_len (xs := xs) (fun y hy => h y (by simp [hy]))]
    rw [Nat.add_mul]; omega
theorem flat_get : ∀ {xs : List (List α)} {i j : Nat} {x : List α} {y : α}, (∀ x ∈ xs, x.length = sz) → xs[i]? = some x → x[j]? = some y → xs.flatten[i * sz + j]? = some y
  | [], i, j, x, y, _, hx, _ => by simp at hx
  | z :: xs, 0, j, x, y, h, hx, hy => by
    simp at hx; subst hx
    have := (List.getElem?_eq_some_iff.1 hy).1
    simp only [Nat.zero_mul, Nat.zero_add, List.flatten_cons]
    rw [List.getElem?_append_left this]; exact hy
  | z :: xs, i + 1, j, x, y, h, hx, hy => by
    have hz := h z (by simp)
    have := flat_get (xs := xs) (i := i) (j := j) (fun y hy => h y (by simp [hy])) (by simpa using hx) hy
    simp only [List.flatten_cons]
    rw [List.getElem?_append_right (by rw [hz, Nat.add_mul]; omega), hz, ← this]
    congr 1
    rw [Nat.add_mul]; omega
theorem flat_set : ∀ {xs : List (List α)} {i : Nat} {x : List α}, (∀ x ∈ xs, x.length = sz) → i < xs.length → (xs.set i x).flatten = xs.flatten.take (i * sz) ++ x ++ xs.flatten.drop (i * sz + sz)
  | [], i, x, _, hi => by simp at hi
  | z :: xs, 0, x, h, _ => by
    have hz := h z (by simp)
    simp [← hz]
  | z :: xs, i + 1, x, h, hi => by
    have hz := h z (by simp)
    have ih := flat_set (xs := xs) (i := i) (x := x) (fun y hy => h y (by simp [hy])) (by simpa using hi)
    simp only [List.set_cons_succ, List.flatten_cons, ih]
    have e1 : (i + 1) * sz = z.length + i * sz := by rw [hz, Nat.add_mul]; omega
    rw [e1, List.take_length_add_append, Nat.add_assoc, List.drop_length_add_append]
    simp
theorem flat_inv : ∀ {xs : List (List α)} {k : Nat}, 0 < sz → (∀ x ∈ xs, x.length = sz) → k < xs.length * sz → ∃ x y, xs[k / sz]? = some x ∧ x[k % sz]? = some y ∧ xs.flatten[k]? = some y := by
  intro xs k hs h hk
  have h1 : k / sz < xs.length := Nat.div_lt_of_lt_mul (by rw [Nat.mul_comm]; exact hk)
  have h2 : k % sz < sz := Nat.mod_lt _ hs
  have hx := List.getElem?_eq_getElem h1
  have hl := h _ (List.getElem_mem h1)
  have hy : (xs[k / sz])[k % sz]? = some ((xs[k / sz])[k % sz]'(by omega)) := List.getElem?_eq_getElem (by omega)
  refine ⟨_, _, hx, hy, ?_⟩
  have := flat_get h hx hy
  rw [← this]
  congr 1
  rw [Nat.mul_comm]
  exact (Nat.div_add_mod k sz).symm
end

theorem zList_len (z : List D) : ∀ n, (zList z n).length = n
  | 0 => rfl
  | n + 1 => by simp [zList, zList_len z n]
theorem zList_mem {z x : List D} : ∀ {n : Nat}, x ∈ zList z n → x = z
  | 0, h => by simp [zList] at h
  | n + 1, h => by
    simp only [zList, List.mem_cons] at h
    rcases h with h | h
    · exact h
    · exact zList_mem h
theorem zList_get {z : List D} : ∀ {n i : Nat}, i < n → (zList z n)[i]? = some z
  | 0, _, h => by omega
  | _ + 1, 0, _ => rfl
  | n + 1, i + 1, h => by simpa [zList] using zList_get (n := n) (i := i) (by omega)

section
variable {S : Sx} {Y : Dyn} {s : St} {a : Act} {w : World} {H : Heap} {an : Anc} {F : Nat → Nat → Prop} {ms : List Nat} {o : Oper} {v : V}

theorem fill_denE (ev : Opd → V) (ρ : Operand → Value) (hev : ∀ x, DenV H an (ev (opdOf x)) (ρ x)) (sz : Nat) :
    ∀ (ps : List (Nat × Operand)) (z xs : List (List D)) (zs : Array Value), Dens H z.flatten zs.toList → (∀ x ∈ z, x.length = sz) → layE ev sz z (ps.map fun p => (p.1, opdOf p.2)) = some xs →
      ((ps.map fun p => (p.1, opdOf p.2)).all fun p => (ev p.2).ok) = true →
      ∃ rs, Instr.fill (fun i => some (i * sz, sz)) zs (ps.map fun p => (p.1, ρ p.2)) = some rs ∧ Dens H xs.flatten rs.toList ∧ (∀ x ∈ xs, x.length = sz) ∧ xs.length = z.length
  | [], z, xs, zs, hz, hs, hl, _ => by simp [layE] at hl; subst hl; exact ⟨zs, rfl, hz, hs, rfl⟩
  | (i, x) :: ps, z, xs, zs, hz, hs, hl, hk => by
    simp only [List.map_cons, List.all_cons, Bool.and_eq_true] at hk
    simp only [List.map_cons, layE] at hl
    cases e : allD (ev (opdOf x)).cells with
    | none => simp [e] at hl
    | some cs =>
      simp only [e] at hl
      split at hl
      · rename_i hc
        obtain ⟨us, hu, hd, _⟩ := (hev x).cells hk.1
        have hd := allD_den e hd
        have hlu : us.length = sz := by rw [← hd.length]; exact hc.1
        have hlz := hz.length
        rw [flat_len hs] at hlz
        simp only [Array.length_toList] at hlz
        have hi : i * sz + sz ≤ zs.size := by
          rw [← hlz]
          have : (i + 1) * sz ≤ z.length * sz := Nat.mul_le_mul_right _ hc.2
          rw [Nat.add_mul] at this; omega
        obtain ⟨rs, hr, hd', h1, h2⟩ := fill_denE ev ρ hev sz ps (z.set i cs) xs (us.zipIdx.foldl (fun (cs : Array Value) (p : Value × Nat) => cs.setIfInBounds (i * sz + p.2) p.1) zs) (by
          have e := foldl_set us 0 (i * sz) zs (by omega)
          simp only [Nat.add_zero] at e
          rw [e, hlu, flat_set hs hc.2]
          exact ((hz.take (i * sz)).append hd).append (hz.drop (i * sz + sz))) (by
          intro y hy
          rcases List.mem_or_eq_of_mem_set hy with hy | hy
          · exact hs y hy
          · rw [hy]; exact hc.1) hl hk.2
        refine ⟨rs, ?_, hd', h1, by simpa using h2⟩
        simp only [List.map_cons, Instr.fill, hu]
        simp only [List.size_toArray, hlu, ne_eq, not_true, Bool.or_eq_true, decide_eq_true_eq, false_or, gt_iff_lt]
        rw [if_neg (by simp; omega)]
        simpa using hr
      · cases hl

/-- Elements as they lie in one row. -/
theorem Dens.row {xs : List (List D)} {sz b o c : Nat} {cells : Array Value} {T : TypeId} {fz : Nat × Nat} (hs : 0 < sz) (hb : H b = some (.cells cells T fz)) (h1 : ∀ x ∈ xs, x.length = sz)
    (hc : xs.length ≤ c) (hl : xs.length < lenMax) (hd : Dens H xs.flatten ((cells.toList.drop o).take (xs.length * sz))) : Den H (.sl xs) (.slice (some ⟨b, o, none⟩) xs.length c) := by
  refine Den.sl xs b o c sz cells T fz (fun i j => cells.getD (o + i * sz + j) undef) hb h1 hc hl ?_ ?_
  · intro i x j y hx hy
    obtain ⟨q, hq, _⟩ := hd.get (flat_get h1 hx hy)
    rw [List.getElem?_take] at hq
    split at hq
    · rw [List.getElem?_drop] at hq
      have : cells[o + i * sz + j]? = some q := by rw [← Array.getElem?_toList, ← hq]; congr 1; omega
      simp [Array.getD_eq_getD_getElem?, this]
    · cases hq
  · intro i x j y hx hy
    obtain ⟨q, hq, hd'⟩ := hd.get (flat_get h1 hx hy)
    rw [List.getElem?_take] at hq
    split at hq
    · rw [List.getElem?_drop] at hq
      have : cells[o + i * sz + j]? = some q := by rw [← Array.getElem?_toList, ← hq]; congr 1; omega
      simp only [Array.getD_eq_getD_getElem?, this, Option.getD_some]
      exact hd'
    · cases hq

theorem zero_cells {z : List D} {u : Value} (hd : dsOf u.cells.toList = some z) {sz : Nat} (hz : z.length = sz) (hs : 0 < sz) (n : Nat) :
    Dens H (zList z n).flatten ((Array.range (n * sz)).map (u.cells[· % u.cells.size]!)).toList := by
  have hdd := dsOf_den H hd
  have hus : u.cells.size = sz := by have := hdd.length; simp at this; omega
  have hm : ∀ x ∈ zList z n, x.length = sz := fun x hx => by rw [zList_mem hx]; exact hz
  refine All2.of_get (by rw [flat_len hm, zList_len]; simp) fun k x y hx hy => ?_
  have hk : k < n * sz := by
    have := (List.getElem?_eq_some_iff.1 hy).1
    simpa using this
  obtain ⟨x', y', h1, h2, h3⟩ := flat_inv (xs := zList z n) hs hm (by rw [zList_len]; exact hk)
  rw [h3] at hx; cases hx
  rw [zList_get (Nat.div_lt_of_lt_mul (by rw [Nat.mul_comm]; exact hk))] at h1
  cases h1
  obtain ⟨q, hq, hd'⟩ := hdd.get h2
  have : y = q := by
    simp only [Array.toList_map, List.getElem?_map, Array.toList_range, List.getElem?_range hk, Option.map_some, Option.some.injEq] at hy
    rw [← hy, hus]
    have hq' : u.cells[k % sz]? = some q := by rw [← Array.getElem?_toList]; exact hq
    simp [getElem!_def, hq']
  rw [this]; exact hd'

theorem goes_bslice {t e : TypeId} {len : Nat} {ps : Array (Nat × Operand)} {z : List D} {n : Nat} (h : SatX S Y s a w H an F ms) (ho : o.op = .buildSlice t len ps) (ht : S.P.underlying t = some (.slice e))
    (hn : szOf S.P e = some n) (hz : zeroOf S.P e = some z)
    (hv : z.length = n ∧ len * n ≤ 16777216 ∧ 0 < n ∧ ∃ xs, layE (evO s.fr) n (zList z len) (ps.toList.map fun p => (p.1, opdOf p.2)) = some xs ∧ ((ps.toList.map fun p => (p.1, opdOf p.2)).all fun p => (evO s.fr p.2).ok) = true ∧ v = .one (.d (.sl xs))) :
    Goes S Y s.fr s.own a ms v ((execOp a.eval o).run S.P w) := by
  obtain ⟨hzl, hlen, hpos, xs, hl, hk, rfl⟩ := hv
  obtain ⟨i, u, hi, hu, hd⟩ := zeroOf_spec hz
  have hc := zero_cells (H := H) hd hzl hpos len
  obtain ⟨rs, hr, hd', h1, h2⟩ := fill_denE (evO s.fr) a.eval h.ev n ps.toList (zList z len) xs _ hc (fun x hx => by rw [zList_mem hx]; exact hzl) hl hk
  rw [zList_len] at h2
  have hr' : Instr.fill (fun i => some (i * n, n)) ((Array.range (len * n)).map (u.cells[· % u.cells.size]!)) (ps.map fun (p : Nat × Operand) => (p.1, a.eval p.2)).toList = some rs := by simpa using hr
  refine ⟨.value (.slice (some ⟨w.heap.size, 0, none⟩) len len), _, _, _, _, _, ?_, .inl rfl, h.push_known (.cells rs e), ?_⟩
  · by_cases h0 : len * n = 0
    · have hl0 : len = 0 := by rcases Nat.mul_eq_zero.1 h0 with h | h <;> omega
      subst hl0
      simp only [Nat.zero_mul] at hr'
      have e0 : (Array.range 0).map (u.cells[· % u.cells.size]!) = (#[] : Array Value) := by simp
      rw [e0] at hr'
      have e1 : (Array.range 0).map ((#[] : Array Value)[· % (#[] : Array Value).size]!) = (#[] : Array Value) := by simp
      simp only [execOp, ho, Instr.buildSlice, Sem.run_bind, Go.run_underlying ht, Result.andThen_ok, run_sizeOf' hn, Nat.zero_mul]
      simp only [Nat.not_lt_zero, gt_iff_lt, if_false, if_true, Sem.run_bind, Sem.run_pure, Result.andThen_ok]
      rw [e1, hr']
      simp [newRow]
    · simp only [execOp, ho, Instr.buildSlice, Sem.run_bind, Go.run_underlying ht, Result.andThen_ok, run_sizeOf' hn]
      rw [if_neg (by omega)]
      simp only [if_neg h0, Sem.run_bind, zeroValue, typeInfo, run_program, hi, hu, Sem.run_pure, Result.andThen_ok, hr']
      simp [newRow]
  · have hle : Heap.Le H (H.put w.heap.size (.cells rs e)) := Heap.put_le (h.none_new (Nat.le_refl _))
    show Den _ (.sl xs) _
    have hll : xs.length < lenMax := by
      have : xs.length * 1 ≤ xs.length * n := Nat.mul_le_mul_left _ hpos
      rw [h2] at this ⊢
      unfold lenMax; omega
    rw [← h2]
    refine Dens.row (cells := rs) (T := e) (fz := (0, 0)) hpos (by simp [Heap.put]) h1 (Nat.le_refl _) hll ?_
    have hlr := hd'.length
    rw [flat_len h1] at hlr
    rw [List.drop_zero, List.take_of_length_le (by omega)]
    exact hd'.mono hle
end
end Go.Fw
