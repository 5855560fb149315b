/- The framework, part 13: slices made, and appended to. -/
import Derived.Test.YtnampnnphgedhaaDoorFwL
set_option linter.all false
namespace Go.Fw
open Go

theorem zList_rep (z : List D) : ∀ n, zList z n = List.replicate n z
  | 0 => rfl
  | n + 1 => by simp [zList, zList_rep z n, List.replicate_succ]

section
variable {S : Sx} {Y : Dyn} {s : St} {a : Act} {w w' : World} {H : Heap} {an : Anc} {F : Nat → Nat → Prop} {ms : List Nat} {o : Oper} {v : V}

/-- A row of just these cells. -/
theorem satRow {ver sz of cap : Nat} {xs : List (List D)} {b : Nat} {vs : Array Value} {T : TypeId} {f : Nat → Prop} (hs : 0 < sz) (hsz : ∀ x ∈ xs, x.length = sz) (hl : xs.length < lenMax) (hf : ∀ x, f x ↔ x = b)
    (hb : w.heap[b]? = some (.cells vs T (0, 0))) (hc : xs.length ≤ cap) (ho : of + cap * sz ≤ vs.size) (hd : Dens H xs.flatten ((vs.toList.drop of).take (xs.length * sz))) :
    SatCh H an w (.row sz ver xs) (ver, .slice (some ⟨b, of, none⟩) xs.length cap) f := by
  refine ⟨rfl, ⟨_, _, _, rfl⟩, hs, hsz, hl, .inr ⟨b, of, cap, vs, T, rfl, hf, hb, hc, ho, ?_⟩⟩
  intro i x j y hx hy
  obtain ⟨g, hg, hgd⟩ := hd.get (flat_get hsz hx hy)
  refine ⟨g, ?_, hgd⟩
  rw [List.getElem?_take] at hg
  split at hg
  · rw [List.getElem?_drop] at hg
    rw [← Array.getElem?_toList, ← hg]; congr 1; omega
  · cases hg

theorem goes_mkS {t e : TypeId} {l c : Operand} {n by_ : Nat} {z : List D} {own' : List Ch} (h : SatX S Y s a w H an F ms) (ho : o.op = .makeSlice t l c) (ht : S.P.underlying t = some (.slice e)) (hlc : a.eval c = a.eval l ∨ (∃ k k' q, a.eval l = .int k q ∧ a.eval c = .int k' q))
    (hn : szOf S.P e = some n) (hb : bytesAt S.P e = some by_) (hz : zeroOf S.P e = some z)
    (hv : match evO s.fr (opdOf l) with
    | .one (.d (.int _ q)) => 0 ≤ q ∧ 0 < n ∧ z.length = n ∧ q * by_ ≤ 140737488355328 ∧ q < lenMax ∧ own' = s.own ++ [.row n 0 (List.replicate q.toNat z)] ∧ v = .one (.own s.own.length 0)
    | _ => False) : Goes S Y s.fr own' a ms v ((execOp a.eval o).run S.P w) := by
  have hx := h.ev l
  split at hv
  · rename_i k q e1
    rw [e1] at hx
    obtain ⟨h0, hs, hzl, hby, hq, rfl, rfl⟩ := hv
    have hu := den_int hx
    have hc : ∃ k', a.eval c = .int k' q := by
      rcases hlc with hlc | ⟨k1, k2, q', h1, h2⟩
      · exact ⟨k, by rw [hlc, hu]⟩
      · rw [hu] at h1; cases h1; exact ⟨_, h2⟩
    obtain ⟨k', hc⟩ := hc
    obtain ⟨m, rfl⟩ := Int.eq_ofNat_of_zero_le h0
    obtain ⟨i, u, hi, hzu, hd⟩ := zeroOf_spec hz
    have hcells := zero_cells (H := H) hd hzl hs m
    have hib : i.bytes = by_ := by
      unfold bytesAt at hb
      rw [hi] at hb
      simpa using hb
    have hw64 : IntKind.i64.wrap (m : Int) = m := inK_wrap (by unfold inK lenMax at *; simp [IntKind.min, IntKind.max, IntKind.signed, IntKind.bits]; omega)
    have hrun : (Instr.makeSlice t (a.eval l) (a.eval c)).run S.P w = .ok (.slice (some ⟨w.heap.size, 0, none⟩) m m) { w with heap := w.heap.push (.cells ((Array.range (m * n)).map (u.cells[· % u.cells.size]!)) e) } := by
      have n1 : ¬ (m : Int) < 0 := by omega
      have n2 : ¬ (281474976710656 < (i.bytes : Int) * (m : Int)) := by rw [hib, Int.mul_comm]; omega
      have n5 : ¬ (140737488355328 < m * i.bytes) := by
        rw [hib]; intro hlt
        have : ((m * by_ : Nat) : Int) ≤ 140737488355328 := by rw [Int.natCast_mul]; exact hby
        omega
      by_cases h00 : m * n = 0
      · simp [Instr.makeSlice, run_underlying ht, hu, hc, asInt, asIntOf, typeInfo, hi, run_sizeOf' hn, hw64, n1, n2, n5, h00, newRow, askRoom, roomBytes]
        rw [show (Array.range 0) = (#[] : Array Nat) from rfl]; simp
      · simp [Instr.makeSlice, run_underlying ht, hu, hc, asInt, asIntOf, typeInfo, hi, run_sizeOf' hn, zeroValue, hzu, hw64, n1, n2, n5, h00, newRow, askRoom, roomBytes]
    refine ⟨_, _, _, H, _, _, ?_, .inl rfl, h.add_own (q := (0, .slice (some ⟨w.heap.size, 0, none⟩) m m)) (f := fun x => x = w.heap.size) (c := .row n 0 (List.replicate (m : Int).toNat z)) (WKeep.push w (.cells ((Array.range (m * n)).map (u.cells[· % u.cells.size]!)) e) _) (fun b hb => ⟨by omega, by subst hb; simp⟩) ?_, own_new rfl⟩
    · simp only [execOp, ho, Sem.run_bind, hrun, Result.andThen_ok, Sem.run_pure]
    · rw [Int.toNat_natCast, ← zList_rep]
      have hzz : ∀ x ∈ zList z m, x.length = n := fun x hx => by rw [zList_mem hx]; exact hzl
      have := satRow (H := H) (an := an.put s.own.length (0, .slice (some ⟨w.heap.size, 0, none⟩) m m)) (w := { w with heap := w.heap.push (.cells ((Array.range (m * n)).map (u.cells[· % u.cells.size]!)) e) }) (vs := (Array.range (m * n)).map (u.cells[· % u.cells.size]!)) (ver := 0) (sz := n) (of := 0) (cap := m) (xs := zList z m) (b := w.heap.size) (T := e) (f := fun x => x = w.heap.size) hs hzz (by rw [zList_len]; unfold lenMax at *; omega) (fun _ => Iff.rfl) (by simp) (by rw [zList_len]; exact Nat.le_refl _) (by simp) (by
        rw [zList_len, List.drop_zero, List.take_of_length_le (by simp)]
        exact hcells)
      rw [zList_len] at this
      exact this
  · exact hv.elim

theorem goes_bslO {t e : TypeId} {len : Nat} {ps : Array (Nat × Operand)} {z : List D} {n : Nat} {own' : List Ch} (h : SatX S Y s a w H an F ms) (ho : o.op = .buildSlice t len ps) (ht : S.P.underlying t = some (.slice e))
    (hn : szOf S.P e = some n) (hz : zeroOf S.P e = some z)
    (hv : z.length = n ∧ len * n ≤ 16777216 ∧ 0 < n ∧ ∃ xs, layE (evO s.fr) n (zList z len) (ps.toList.map fun p => (p.1, opdOf p.2)) = some xs ∧ ((ps.toList.map fun p => (p.1, opdOf p.2)).all fun p => (evO s.fr p.2).ok) = true ∧ own' = s.own ++ [.row n 0 xs] ∧ v = .one (.own s.own.length 0)) :
    Goes S Y s.fr own' a ms v ((execOp a.eval o).run S.P w) := by
  obtain ⟨hzl, hlen, hpos, xs, hl, hk, rfl, rfl⟩ := hv
  obtain ⟨i, u, hi, hu, hd⟩ := zeroOf_spec hz
  have hc := zero_cells (H := H) hd hzl hpos len
  obtain ⟨rs, hr, hd', h1, h2⟩ := fill_denE (evO s.fr) a.eval h.ev n ps.toList (zList z len) xs _ hc (fun x hx => by rw [zList_mem hx]; exact hzl) hl hk
  rw [zList_len] at h2
  have hr' : Instr.fill (fun i => some (i * n, n)) ((Array.range (len * n)).map (u.cells[· % u.cells.size]!)) (ps.map fun (p : Nat × Operand) => (p.1, a.eval p.2)).toList = some rs := by simpa using hr
  have hll : xs.length < lenMax := by
    have : xs.length * 1 ≤ xs.length * n := Nat.mul_le_mul_left _ hpos
    rw [h2] at this ⊢
    unfold lenMax; omega
  have hlr := hd'.length
  rw [flat_len h1] at hlr
  simp at hlr
  refine ⟨.value (.slice (some ⟨w.heap.size, 0, none⟩) len len), _, _, H, _, _, ?_, .inl rfl, h.add_own (q := (0, .slice (some ⟨w.heap.size, 0, none⟩) len len)) (f := fun x => x = w.heap.size) (c := .row n 0 xs) (WKeep.push w (.cells rs e) _) (fun b hb => ⟨by omega, by subst hb; simp⟩) ?_, own_new rfl⟩
  · by_cases h0 : len * n = 0
    · have hl0 : len = 0 := by rcases Nat.mul_eq_zero.1 h0 with h | h <;> omega
      subst hl0
      simp only [Nat.zero_mul] at hr'
      have e0 : (Array.range 0).map (u.cells[· % u.cells.size]!) = (#[] : Array Value) := by simp
      rw [e0] at hr'
      have e1 : (Array.range 0).map ((#[] : Array Value)[· % (#[] : Array Value).size]!) = (#[] : Array Value) := by simp
      simp only [execOp, ho, Instr.buildSlice, Sem.run_bind, Go.run_underlying ht, Result.andThen_ok, run_sizeOf' hn, Nat.zero_mul]
      simp only [Nat.not_lt_zero, gt_iff_lt, if_false, if_true, Sem.run_bind, Sem.run_pure, Result.andThen_ok]
      rw [e1, hr']
      simp [newRow]
    · simp only [execOp, ho, Instr.buildSlice, Sem.run_bind, Go.run_underlying ht, Result.andThen_ok, run_sizeOf' hn]
      rw [if_neg (by omega)]
      simp only [if_neg h0, Sem.run_bind, zeroValue, typeInfo, run_program, hi, hu, Sem.run_pure, Result.andThen_ok, hr']
      simp [newRow]
  · have := satRow (H := H) (an := an.put s.own.length (0, .slice (some ⟨w.heap.size, 0, none⟩) len len)) (w := { w with heap := w.heap.push (.cells rs e) }) (vs := rs) (ver := 0) (sz := n) (of := 0) (cap := len) (xs := xs) (b := w.heap.size) (T := e) (f := fun x => x = w.heap.size) hpos h1 hll (fun _ => Iff.rfl) (by simp) (by omega) (by rw [← h2]; omega) (by
        rw [List.drop_zero, List.take_of_length_le (by simp; omega)]
        exact hd')
    rw [h2] at this
    exact this

/-! ### append -/
theorem run_app_grow {P : Program} {w : World} {t ty e : TypeId} {i : TypeInfo} {z : Value} (ht : P.underlying t = some (.slice e)) (hi : P.info? e = some i) (hz : i.zero = some z)
    {base ba : Option Addr} {sLen sCap m c : Nat} {olds news : Array Value}
    (ho : ∀ d, (Builtin.firstCells i.size sLen (.slice base sLen sCap)).run P { w with drawn := d } = .ok olds { w with drawn := d })
    (hn : ∀ d, (Builtin.firstCells i.size m (.slice ba m c)).run P { w with drawn := d } = .ok news { w with drawn := d })
    (hg : sCap < sLen + m) (h63 : ((sLen + m : Nat) : Int) ≤ 9223372036854775807) (hfit : Builtin.nextslicecap (sLen + m) sCap * i.bytes ≤ 281474976710656) :
    ∃ w', (Builtin.append_ #[t, t] ty #[.slice base sLen sCap, .slice ba m c]).run P w = .ok (.slice (some ⟨w.heap.size, 0, none⟩) (sLen + m) (grownCap w (sLen + m) sCap e)) w' ∧
      w'.heap = w.heap.push (.cells (olds ++ news ++ Builtin.zeroCells z.cells (grownCap w (sLen + m) sCap e - (sLen + m))) e) ∧ w'.os = w.os ∧ w'.tape = w.tape ∧ w'.output = w.output := by
  have hn' : ¬ (sLen + m ≤ sCap) := by omega
  have h63' : ¬ (9223372036854775807 < ((sLen : Int) + (m : Int))) := by omega
  have h48' : ¬ (281474976710656 < Builtin.nextslicecap (sLen + m) sCap * i.bytes) := by omega
  have ho := ho (w.drawn + 1)
  have hn := hn (w.drawn + 1)
  refine ⟨w.drew.alloc (.cells (olds ++ news ++ Builtin.zeroCells z.cells (grownCap w (sLen + m) sCap e - (sLen + m))) e), ?_, rfl, rfl, rfl, rfl⟩
  have ho' : (Builtin.firstCells i.size sLen (.slice base sLen sCap)).run P w.drew = .ok olds w.drew := ho
  have hn'' : (Builtin.firstCells i.size m (.slice ba m c)).run P w.drew = .ok news w.drew := hn
  simp [Builtin.append_, run_underlying ht, sizeOf, typeInfo, zeroValue, hi, hz, Builtin.lenOf, hn', h63', h48', Question.forced, ho', hn'', newRow, grownCap]

theorem run_app_room {P : Program} {w : World} {t ty e : TypeId} {i : TypeInfo} (ht : P.underlying t = some (.slice e)) (hi : P.info? e = some i)
    {g of sLen sCap m c : Nat} {ba : Option Addr} {cur : Array Value} {T : TypeId} {news : List Value} (hg : w.heap[g]? = some (.cells cur T (0, 0)))
    (hn : (Builtin.firstCells i.size m (.slice ba m c)).run P w = .ok news.toArray w) (h1 : ∀ u ∈ news, u.oneCell' = true)
    (hroom : sLen + m ≤ sCap) (hfit : of + sLen * i.size + news.length ≤ cur.size) :
    (Builtin.append_ #[t, t] ty #[.slice (some ⟨g, of, none⟩) sLen sCap, .slice ba m c]).run P w =
      .ok (.slice (some ⟨g, of, none⟩) (sLen + m) sCap) (w.setRow g (cur.toList.take (of + sLen * i.size) ++ news ++ cur.toList.drop (of + sLen * i.size + news.length)).toArray) := by
  have hst := run_storeCells_at P g (of + sLen * i.size) T news 0 cur w hg (by simpa using hfit) h1
  simp only [Nat.add_zero] at hst
  simp [Builtin.append_, run_underlying ht, sizeOf, typeInfo, hi, Builtin.lenOf, hroom, hn, addr_add, hst]

/-- What data's slice hands on. -/
theorem src_cells {P : Program} {ys : List (List D)} {u : Value} {n : Nat} (h : SatX S Y s a w H an F ms) (hu : Den H (.sl ys) u) (hs : ∀ y ∈ ys, y.length = n) :
    ∃ ba c news, u = .slice ba ys.length c ∧ news.length = ys.length * n ∧ Dens H ys.flatten news ∧ ∀ d, (Builtin.firstCells n ys.length (.slice ba ys.length c)).run P { w with drawn := d } = .ok news.toArray { w with drawn := d } := by
  cases hu with
  | slE A c => exact ⟨A, c, [], rfl, by simp, trivial, fun d => by cases A <;> simp [Builtin.firstCells, loadCells, loadCellsFrom]⟩
  | sl xs b o c sz cells T fz f hb hs' hc hl hf hd =>
    have hw := h.mod _ _ hb
    have hsn : ys = [] ∨ sz = n := by
      cases ys with
      | nil => exact .inl rfl
      | cons y l => exact .inr (by rw [← hs' y (by simp), hs y (by simp)])
    rcases hsn with rfl | rfl
    · exact ⟨_, c, [], rfl, by simp, trivial, fun d => by simp [Builtin.firstCells, loadCells, loadCellsFrom]⟩
    · have hget : ∀ k x, ys.flatten[k]? = some x → ∃ v, cells[o + k]? = some v ∧ Den H x v := by
        intro k x hx
        have hk := (List.getElem?_eq_some_iff.1 hx).1
        rw [flat_len hs] at hk
        have hpos : 0 < sz := by rcases Nat.eq_zero_or_pos sz with e | e; · subst e; simp at hk
                                 · exact e
        obtain ⟨x', y', h1, h2, h3⟩ := flat_inv hpos hs hk
        rw [hx] at h3; cases h3
        have h4 := hf _ _ _ _ h1 h2
        refine ⟨_, ?_, hd _ _ _ _ h1 h2⟩
        rw [← h4]; congr 1
        rw [Nat.add_assoc, Nat.mul_comm, Nat.div_add_mod]
      refine ⟨_, c, (List.range (ys.length * sz)).map fun k => cells.getD (o + k) undef, rfl, by simp, ?_, fun d => ?_⟩
      · refine All2.of_get (by rw [flat_len hs]; simp) fun k x v hx hv => ?_
        obtain ⟨v', hv', hd'⟩ := hget k x hx
        have hk := (List.getElem?_eq_some_iff.1 hv).1
        simp at hk
        simp [List.getElem?_range hk, Array.getD_eq_getD_getElem?, hv'] at hv
        rw [← hv]; exact hd'
      · refine run_firstCells_some _ sz ys.length _ ys.length c _ (by simp) fun j v hv => ?_
        have hk := (List.getElem?_eq_some_iff.1 hv).1
        simp at hk
        obtain ⟨v', hv', hd'⟩ := hget j _ (List.getElem?_eq_getElem (by rw [flat_len hs]; exact hk))
        simp [List.getElem?_range hk, Array.getD_eq_getD_getElem?, hv'] at hv
        subst hv
        rw [addr_add, cell_of_heap (w := { w with drawn := d }) (T := T) (fz := fz) (cs := cells) hw]
        exact hv'

theorem Dens.oneCell {l : List D} {m : List Value} (h : Dens H l m) : ∀ u ∈ m, u.oneCell' = true := by
  intro u hu
  obtain ⟨i, hi⟩ := List.mem_iff_getElem?.1 hu
  have hlt := (List.getElem?_eq_some_iff.1 hi).1
  have hl : i < l.length := by rw [h.length]; exact hlt
  obtain ⟨v, hv, hd⟩ := h.get (List.getElem?_eq_getElem hl)
  rw [hi] at hv; cases hv
  exact Den.oneCell hd

theorem flatten_append_len {xs ys : List (List D)} : (xs ++ ys).flatten = xs.flatten ++ ys.flatten := by simp

theorem goes_app {t ty e : TypeId} {x y : Operand} {n by_ : Nat} {z : List D} {own' : List Ch} (h : SatX S Y s a w H an F ms) (ho : o.op = .call { callee := .builtin .append, args := #[x, y], argTypes := #[t, t] })
    (ht : S.P.underlying t = some (.slice e)) (hn : szOf S.P e = some n) (hb : bytesAt S.P e = some by_) (hz : zeroOf S.P e = some z) (hn0 : n ≠ 0) (hzl : z.length = n)
    (hv : match (evO s.fr (opdOf y)).nrm with
    | .one (.d (.sl ys)) => (∀ q ∈ ys, q.length = n) ∧ (match evO s.fr (opdOf x) with
      | .one .nil => 0 < n ∧ ys.length * by_ ≤ 140737488355328 ∧ ys.length < lenMax ∧ own' = s.own ++ [.row n 0 ys] ∧ v = .one (.own s.own.length 0)
      | .one (.own j ver) => (match getC s.own j with
        | .row sz' ver' xs => sz' = n ∧ ver' = ver ∧ (xs.length + ys.length) * by_ ≤ 140737488355328 ∧ xs.length + ys.length < lenMax ∧ own' = setC s.own j (.row n (ver + 1) (xs ++ ys)) ∧ v = .one (.own j (ver + 1))
        | _ => False)
      | _ => False)
    | _ => False) : Goes S Y s.fr own' a ms v ((execOp a.eval o).run S.P w) := by
  have hyd := h.evn y
  have hxd := h.ev x
  obtain ⟨i, u, hi, hzu, hd⟩ := zeroOf_spec hz
  have hin : i.size = n := by
    obtain ⟨i', d, hi', hin, _⟩ := szOf_spec hn
    rw [hi] at hi'; cases hi'; exact hin
  have hib : i.bytes = by_ := by
    unfold bytesAt at hb
    rw [hi] at hb
    simpa using hb
  have hpos : 0 < n := by omega
  have hus : u.cells.size = n := by have := (dsOf_den H hd).length; simp at this; omega
  split at hv
  · rename_i ys e1
    rw [e1] at hyd
    obtain ⟨hys, hv⟩ := hv
    obtain ⟨ba, c, news, hyu, hnl, hnd, hfc⟩ := src_cells (P := S.P) (u := a.eval y) h hyd hys
    have hexec : ∀ (r : Value) (w' : World), (Builtin.append_ #[t, t] o.type #[a.eval x, a.eval y]).run S.P w = .ok r w' → (execOp a.eval o).run S.P w = .ok (.value r) w' := by
      intro r w' hr
      unfold execOp
      simp only [ho, resolve, invoke, builtin, Sem.run_bind, Sem.run_pure, Result.andThen_ok, List.map_toArray, List.map_cons, List.map_nil, hr]
    have hgrow : ∀ (base : Option Addr) (sLen sCap : Nat) (xs : List (List D)) (olds : List Value), a.eval x = .slice base sLen sCap → xs.length = sLen → (∀ q ∈ xs, q.length = n) → Dens H xs.flatten olds →
        (∀ d, (Builtin.firstCells n sLen (.slice base sLen sCap)).run S.P { w with drawn := d } = .ok olds.toArray { w with drawn := d }) → sCap < sLen + ys.length → (sLen + ys.length) * by_ ≤ 140737488355328 → sLen + ys.length < lenMax →
        ∃ r w', (execOp a.eval o).run S.P w = .ok (.value r) w' ∧ WKeep w w' (fun _ => False) ∧ w.heap.size < w'.heap.size ∧ ∀ (bn : Anc) (ver : Nat), r.oneCell' = true ∧ SatCh H bn w' (.row n ver (xs ++ ys)) (ver, r) (fun b => b = w.heap.size) := by
      intro base sLen sCap xs olds hux hxl hxs hxd hfo hg hby hl
      have hfit := growslice_fits hg (by rw [hib]; exact hby : (sLen + ys.length) * i.bytes ≤ 140737488355328)
      obtain ⟨w', hr, hw1, hw2, hw3, hw4⟩ := run_app_grow (P := S.P) (w := w) (ty := o.type) ht hi hzu (by rw [hin]; exact hfo) (by rw [hin]; exact hfc) hg (by unfold lenMax at hl; omega) hfit
      rw [← hux, ← hyu] at hr
      refine ⟨_, w', hexec _ _ hr, ⟨hw2, hw3, hw4, by rw [hw1]; simp, fun b hb _ => by rw [hw1, Array.getElem?_push, if_neg (by omega)]⟩, by rw [hw1]; simp, fun bn ver => ⟨rfl, ?_⟩⟩
      have hge := grownCap_ge w (sLen + ys.length) sCap e
      have hlen : (xs ++ ys).length = sLen + ys.length := by simp [hxl]
      have hol : olds.length = sLen * n := by rw [← hxd.length, flat_len hxs, hxl]
      have hnlen : news.length = ys.length * n := hnl
      have hxy : ∀ q ∈ xs ++ ys, q.length = n := fun q hq => (List.mem_append.1 hq).elim (hxs q) (hys q)
      have := satRow (H := H) (an := bn) (w := w') (ver := ver) (sz := n) (of := 0) (cap := grownCap w (sLen + ys.length) sCap e) (xs := xs ++ ys) (b := w.heap.size) (T := e)
        (vs := olds.toArray ++ news.toArray ++ Builtin.zeroCells u.cells (grownCap w (sLen + ys.length) sCap e - (sLen + ys.length))) (f := fun b => b = w.heap.size) hpos hxy (by rw [hlen]; exact hl) (fun _ => Iff.rfl)
        (by rw [hw1]; simp) (by rw [hlen]; exact hge) (by
          simp only [Array.size_append, List.size_toArray, size_zeroCells, hus, hol, hnlen, ← Nat.add_mul, Nat.zero_add]
          exact Nat.mul_le_mul_right _ (by omega)) (by
          rw [List.drop_zero, hlen, flatten_append_len]
          have : (olds.toArray ++ news.toArray ++ Builtin.zeroCells u.cells (grownCap w (sLen + ys.length) sCap e - (sLen + ys.length))).toList.take ((sLen + ys.length) * n) = olds ++ news := by
            simp only [Array.toList_append]
            rw [List.take_append_of_le_length (by simp [hol, hnlen, Nat.add_mul]), List.take_of_length_le (by simp [hol, hnlen, Nat.add_mul])]
          rw [this]
          exact hxd.append hnd)
      rw [hlen] at this
      exact this
    obtain ⟨_, hv⟩ : True ∧ _ := ⟨trivial, hv⟩
    split at hv
    · rename_i e2
      rw [e2] at hxd
      obtain ⟨_, hby, hl, rfl, rfl⟩ := hv
      obtain ⟨A, hux⟩ := hxd
      by_cases hy0 : ys.length = 0
      · have hy0' : ys = [] := List.eq_nil_of_length_eq_zero hy0
        subst hy0'
        have hn0 : news = [] := List.eq_nil_of_length_eq_zero (by simpa using hnl)
        subst hn0
        have hr : (Builtin.append_ #[t, t] o.type #[a.eval x, a.eval y]).run S.P w = .ok (.slice A 0 0) w := by
          have hf : (Builtin.firstCells n 0 (.slice ba 0 c)).run S.P w = .ok #[] w := hfc w.drawn
          rw [← hin] at hf
          rw [hux, hyu]
          cases A with
          | none => simp [Builtin.append_, run_underlying ht, sizeOf, typeInfo, hi, Builtin.lenOf, hf]
          | some A => 
            have : (storeCells (A.add 0) []).run S.P w = .ok () w := by simp [storeCells]
            simp [Builtin.append_, run_underlying ht, sizeOf, typeInfo, hi, Builtin.lenOf, hf, this]
        refine ⟨_, .slice A 0 0, w, H, _, _, hexec _ _ hr, .inl rfl, h.add_own (q := (0, .slice A 0 0)) (f := fun _ => False) (c := .row n 0 []) (WKeep.refl w _) (fun b hb => hb.elim) ?_, own_new rfl⟩
        exact ⟨rfl, ⟨_, _, _, rfl⟩, hpos, by simp, by simp [lenMax], .inl ⟨rfl, ⟨A, rfl⟩, fun _ hb => hb⟩⟩
      · obtain ⟨r, w', hr, hk, hlt, hc⟩ := hgrow A 0 0 [] [] hux rfl (by simp) trivial (fun d => by cases A <;> simp [Builtin.firstCells, loadCells, loadCellsFrom]) (by omega) (by simpa using hby) (by simpa using hl)
        refine ⟨_, r, w', H, _, _, hr, .inl rfl, h.add_own (q := (0, r)) (f := fun b => b = w.heap.size) (c := .row n 0 ys) hk (fun b hb => ⟨by omega, by omega⟩) ?_, own_new (hc an 0).1⟩
        simpa using (hc (an.put s.own.length (0, r)) 0).2
    · rename_i j ver e2
      rw [e2] at hxd
      split at hv
      · rename_i sz' ver' xs hc
        obtain ⟨rfl, rfl, hby, hl, rfl, rfl⟩ := hv
        obtain ⟨p, hp, hps, hsz0, hsz, hlen, h4⟩ := h.row hc
        have hux := own_val hp hxd
        rw [setC_eq]
        have small : ∀ (A : Option Addr) (xs' : List (List D)), xs' = [] → p = .slice A 0 0 → (∀ b, ¬ F j b) → Goes S Y s.fr (s.own.set j (.row sz' (ver' + 1) (xs' ++ ys))) a ms (.one (.own j (ver' + 1))) ((execOp a.eval o).run S.P w) := by
          intro A xs' hx0 hpA hF
          subst hx0
          rw [hpA] at hux
          by_cases hy0 : ys.length = 0
          · have hy0' : ys = [] := List.eq_nil_of_length_eq_zero hy0
            subst hy0'
            have hn0 : news = [] := List.eq_nil_of_length_eq_zero (by simpa using hnl)
            subst hn0
            have hr : (Builtin.append_ #[t, t] o.type #[a.eval x, a.eval y]).run S.P w = .ok (.slice A 0 0) w := by
              have hf : (Builtin.firstCells sz' 0 (.slice ba 0 c)).run S.P w = .ok #[] w := hfc w.drawn
              rw [← hin] at hf
              rw [hux, hyu]
              cases A with
              | none => simp [Builtin.append_, run_underlying ht, sizeOf, typeInfo, hi, Builtin.lenOf, hf]
              | some A =>
                have : (storeCells (A.add 0) []).run S.P w = .ok () w := by simp [storeCells]
                simp [Builtin.append_, run_underlying ht, sizeOf, typeInfo, hi, Builtin.lenOf, hf, this]
            refine ⟨_, .slice A 0 0, w, H, an.put j (ver' + 1, .slice A 0 0), (fun i b => if i = j then False else F i b), hexec _ _ hr, .inl rfl, ?_, own_new (an := an) (ver := ver' + 1) rfl⟩
            exact h.re_own (q := (ver' + 1, .slice A 0 0)) (f := fun _ => False) hp (by simp) ⟨A, 0, 0, rfl⟩ (WKeep.refl _ _) (fun _ hb => hb.elim) ⟨rfl, ⟨A, 0, 0, rfl⟩, hsz0, by simp, by simp [lenMax], .inl ⟨by simp, ⟨A, rfl⟩, fun _ hb => hb⟩⟩
          · obtain ⟨r, w', hr, hk, hlt, hc⟩ := hgrow A 0 0 [] [] hux rfl (by simp) trivial (fun d => by cases A <;> simp [Builtin.firstCells, loadCells, loadCellsFrom]) (by omega) (by
              have : (0 + ys.length) * by_ ≤ (xs.length + ys.length) * by_ := Nat.mul_le_mul_right _ (by omega)
              omega) (by omega)
            refine ⟨_, r, w', H, an.put j (ver' + 1, r), (fun i b => if i = j then b = w.heap.size else F i b), hr, .inl rfl, ?_, own_new (hc an 0).1⟩
            have h2 := (hc (an.put j (ver' + 1, r)) (ver' + 1)).2
            have hsl : ∃ a n c, r = .slice a n c := by obtain ⟨_, h3, _⟩ := h2; exact h3
            exact h.re_own (q := (ver' + 1, r)) (f := fun b => b = w.heap.size) hp (by simp) hsl (hk.mono fun _ hf => hf.elim) (fun b hb => ⟨.inr (by omega), by omega⟩) h2
        rcases h4 with ⟨hx0, ⟨A, hpA⟩, hF⟩ | ⟨b, of, cap, vs, T, hpA, e2, e3, e4, e5, e6⟩
        · have := small A [] rfl hpA hF
          rw [hx0]; exact this
        · rw [hpA] at hux
          have hol : ((vs.toList.drop of).take (xs.length * sz')).length = xs.length * sz' := by rw [← e6.length, flat_len hsz]
          have hxc : xs.length * sz' ≤ cap * sz' := Nat.mul_le_mul_right _ e4
          by_cases hroom : xs.length + ys.length ≤ cap
          · have hfit : of + xs.length * i.size + news.length ≤ vs.size := by
              have : (xs.length + ys.length) * sz' ≤ cap * sz' := Nat.mul_le_mul_right _ hroom
              rw [hin, hnl]
              rw [Nat.add_mul] at this
              omega
            have hr := run_app_room (P := S.P) (w := w) (ty := o.type) (ba := ba) (c := c) ht hi (sLen := xs.length) (sCap := cap) e3 (by rw [hin]; exact hfc w.drawn) hnd.oneCell hroom hfit
            rw [← hux, ← hyu] at hr
            refine ⟨_, .slice (some ⟨b, of, none⟩) (xs.length + ys.length) cap, _, H, an.put j (ver' + 1, .slice (some ⟨b, of, none⟩) (xs.length + ys.length) cap), (fun i x => if i = j then x = b else F i x), hexec _ _ hr, .inl rfl, ?_, own_new (an := an) (ver := ver' + 1) rfl⟩
            refine h.re_own (q := (ver' + 1, .slice (some ⟨b, of, none⟩) (xs.length + ys.length) cap)) (f := fun x => x = b) hp (by simp) ⟨_, _, _, rfl⟩ ((setRow_keep w b _).mono fun x hx => (e2 x).2 hx)
              (fun x hx => ⟨.inl ((e2 x).2 hx), by subst hx; exact Nat.lt_of_lt_of_le (Array.getElem?_eq_some_iff.1 e3).1 (setRow_keep w x _).size⟩) ?_
            have hxy : ∀ q ∈ xs ++ ys, q.length = sz' := fun q hq => (List.mem_append.1 hq).elim (hsz q) (hys q)
            have hlen' : (xs ++ ys).length = xs.length + ys.length := by simp
            have := satRow (H := H) (an := an.put j (ver' + 1, .slice (some ⟨b, of, none⟩) (xs.length + ys.length) cap)) (w := w.setRow b (vs.toList.take (of + xs.length * i.size) ++ news ++ vs.toList.drop (of + xs.length * i.size + news.length)).toArray)
              (ver := ver' + 1) (sz := sz') (of := of) (cap := cap) (xs := xs ++ ys) (b := b) (T := T) (vs := (vs.toList.take (of + xs.length * i.size) ++ news ++ vs.toList.drop (of + xs.length * i.size + news.length)).toArray) (f := fun x => x = b)
              hsz0 hxy (by rw [hlen']; exact hl) (fun _ => Iff.rfl) (setRow_heap w b _ _ T (0, 0) e3) (by rw [hlen']; exact hroom) (by
                simp only [List.size_toArray, List.length_append, List.length_take, List.length_drop, Array.length_toList]
                omega) (by
                rw [hlen', flatten_append_len]
                have : ((vs.toList.take (of + xs.length * i.size) ++ news ++ vs.toList.drop (of + xs.length * i.size + news.length)).drop of).take ((xs.length + ys.length) * sz') = (vs.toList.drop of).take (xs.length * sz') ++ news := by
                  rw [hin, List.append_assoc, List.drop_append_of_le_length (by simp; omega), List.drop_take, Nat.add_sub_cancel_left, ← List.append_assoc]
                  rw [List.take_append_of_le_length (by rw [List.length_append, hol, hnl, Nat.add_mul]; exact Nat.le_refl _), List.take_of_length_le (by rw [List.length_append, hol, hnl, Nat.add_mul]; exact Nat.le_refl _)]
                simp only [List.toList_toArray]
                rw [this]
                exact e6.append hnd)
            rw [hlen'] at this
            exact this
          · obtain ⟨r, w', hr, hk, hlt, hc⟩ := hgrow (some ⟨b, of, none⟩) xs.length cap xs _ hux rfl hsz e6 (fun d => by
              refine run_firstCells_some _ sz' xs.length _ xs.length cap _ hol fun j v hv => ?_
              rw [List.getElem?_take] at hv
              split at hv
              · rw [List.getElem?_drop] at hv
                rw [addr_add, cell_of_heap (w := { w with drawn := d }) (T := T) (fz := (0, 0)) (cs := vs) e3, ← Array.getElem?_toList]
                exact hv
              · cases hv) (by omega) hby hl
            refine ⟨_, r, w', H, an.put j (ver' + 1, r), (fun i b => if i = j then b = w.heap.size else F i b), hr, .inl rfl, ?_, own_new (hc an 0).1⟩
            have h2 := (hc (an.put j (ver' + 1, r)) (ver' + 1)).2
            have hsl : ∃ a n c, r = .slice a n c := by obtain ⟨_, h3, _⟩ := h2; exact h3
            exact h.re_own (q := (ver' + 1, r)) (f := fun b => b = w.heap.size) hp (by simp) hsl (hk.mono fun _ hf => hf.elim) (fun b hb => ⟨.inr (by omega), by omega⟩) h2
      · exact hv.elim
    · exact hv.elim
  · exact hv.elim
end
end Go.Fw
