/- The framework, part 9: each operation does what 'Ev' says: addresses, numbers, texts, functions. -/
import Derived.Test.YtnampnnphgedhaaDoorFwH
set_option linter.all false
namespace Go.Fw
open Go

section
variable {S : Sx} {Y : Dyn} {s : St} {a : Act} {w : World} {H : Heap} {an : Anc} {F : Nat → Nat → Prop} {ms : List Nat} {o : Oper} {v : V}

theorem goes_fad {t : TypeId} {x : Operand} {f n : Nat} {fs : Array Field} {g : Field} (h : SatX S Y s a w H an F ms) (ho : o.op = .fieldAddr t x f) (ht : S.P.underlying t = some (.struct fs)) (hg : fs[f]? = some g)
    (hn : szOf S.P g.type = some n) (hn0 : n ≠ 0)
    (hv : match evO s.fr (opdOf x) with
    | .one (.ptr i o) => v = .one (.ptr i (o + g.offset))
    | .one (.d (.bx cs)) => v = .one (.d (.bx (cs.drop g.offset)))
    | .one (.rp i ver sz e o) => v = .one (.rp i ver sz e (o + g.offset))
    | _ => False) : Goes S Y s.fr s.own a ms v ((execOp a.eval o).run S.P w) := by
  have hx := h.ev x
  have fin : ∀ (b of : Nat), a.eval x = .pointer (some ⟨b, of, none⟩) → DenV H an v (.pointer (some ⟨b, of + g.offset, none⟩)) → Goes S Y s.fr s.own a ms v ((execOp a.eval o).run S.P w) := by
    intro b of he hd
    refine Goes.same h (u := .pointer (some ⟨b, of + g.offset, none⟩)) ?_ hd
    simp only [execOp, ho, Instr.fieldAt, Sem.run_bind, Go.run_underlying ht, Result.andThen_ok, hg, he, Instr.sureAddr, Sem.run_pure, fieldPlace, run_sizeOf' hn, Sem.run_ite, if_neg hn0]
    simp [addr_add]
  split at hv
  · rename_i i off e
    rw [e] at hx
    obtain ⟨b, hu, p, hp, he⟩ := hx
    subst hv
    exact fin b off hu ⟨b, rfl, p, hp, he⟩
  · rename_i cs e
    rw [e] at hx
    subst hv
    generalize hu : a.eval x = u at hx
    cases hx with
    | bx cs b of cells T fz f hb hf hd =>
      refine fin b of hu (Den.bx _ b _ cells T fz (fun j => f (g.offset + j)) hb (fun j y hy => ?_) (fun j y hy => ?_))
      · rw [List.getElem?_drop] at hy; rw [← hf _ y hy]; congr 1; omega
      · rw [List.getElem?_drop] at hy; exact hd _ y hy
  · rename_i i ver sz e off ee
    rw [ee] at hx
    obtain ⟨b, q, hu, p, hp, hle, he⟩ := hx
    subst hv
    exact fin b _ hu ⟨b, q, by rw [Nat.add_assoc (q + e * sz)], p, hp, hle, he⟩
  · exact hv.elim

theorem goes_iad {t e : TypeId} {x i : Operand} {n : Nat} (h : SatX S Y s a w H an F ms) (ho : o.op = .indexAddr t x i) (ht : S.P.underlying t = some (.slice e)) (hn : szOf S.P e = some n)
    (hv : match evO s.fr (opdOf x), evO s.fr (opdOf i) with
    | .one (.d (.sl xs)), .one (.d (.int _ q)) => ∃ cs, 0 ≤ q ∧ xs[q.toNat]? = some cs ∧ cs.length = n ∧ v = .one (.d (.bx cs))
    | .one (.own j ver), .one (.d (.int _ q)) => (match getC s.own j with
      | .row sz' ver' xs => sz' = n ∧ ver' = ver ∧ 0 ≤ q ∧ q.toNat < xs.length ∧ v = .one (.rp j ver n q.toNat 0)
      | _ => False)
    | _, _ => False) : Goes S Y s.fr s.own a ms v ((execOp a.eval o).run S.P w) := by
  have hx := h.ev x
  have hi := h.ev i
  have fin : ∀ (b of len cap : Nat) (k : IntKind) (q : Int), a.eval x = .slice (some ⟨b, of, none⟩) len cap → a.eval i = .int k q → 0 ≤ q → q.toNat < len → DenV H an v (.pointer (some ⟨b, of + q.toNat * n, none⟩)) →
      Goes S Y s.fr s.own a ms v ((execOp a.eval o).run S.P w) := by
    intro b of len cap k q he hq h0 hl hd
    refine Goes.same h (u := .pointer (some ⟨b, of + q.toNat * n, none⟩)) ?_ hd
    have hq' : 0 ≤ q ∧ q < (len : Int) := ⟨h0, by omega⟩
    simp only [execOp, ho, Instr.indexAt, Sem.run_bind, hq, asIntOf, Sem.run_pure, Go.run_underlying ht, Result.andThen_ok, he, Sem.run_ite, if_pos hq', run_sizeOf' hn, addr_add]
  split at hv
  · rename_i xs k q e1 e2
    rw [e1] at hx; rw [e2] at hi
    obtain ⟨cs, h0, hcs, hcl, rfl⟩ := hv
    generalize hu : a.eval x = u at hx
    cases hx with
    | slE A c => simp at hcs
    | sl xs b of c sz cells T fz f hb hs hc hl hf hd =>
      have hcz := hs cs (List.mem_of_getElem? hcs)
      have hsz : sz = n := by omega
      subst hsz
      refine fin b of _ c k q hu (den_int hi) h0 (List.getElem?_eq_some_iff.1 hcs).1 (Den.bx _ b _ cells T fz (fun j => f q.toNat j) hb (fun j y hy => hf _ _ _ _ hcs hy) (fun j y hy => hd _ _ _ _ hcs hy))
  · rename_i j ver k q e1 e2
    rw [e1] at hx; rw [e2] at hi
    split at hv
    · rename_i sz' ver' xs hc
      obtain ⟨rfl, rfl, h0, hl, rfl⟩ := hv
      obtain ⟨p, hp, _, hs, h1, h2, h4⟩ := h.row hc
      obtain ⟨_, p', hp', hle, he⟩ := hx
      rw [hp] at hp'; cases hp'
      rcases h4 with ⟨rfl, _⟩ | ⟨b, of, cap, vs, T, rfl, e3, _⟩
      · simp at hl
      · exact fin b of _ cap k q (he rfl) (den_int hi) h0 hl ⟨b, of, by simp, _, hp, hle, fun _ b' o' n' c' e' => by cases e'; exact ⟨rfl, rfl⟩⟩
    · exact hv.elim
  · exact hv.elim

theorem goes_iadA {t e : TypeId} {x i : Operand} {len n : Nat} (h : SatX S Y s a w H an F ms) (ho : o.op = .indexAddr t x i) (ht : S.P.underlying t = some (.array len e)) (hn : szOf S.P e = some n)
    (hv : match evO s.fr (opdOf x), evO s.fr (opdOf i) with
    | .one (.ptr j off), .one (.d (.int _ q)) => ∃ m : Nat, q = m ∧ m < len ∧ v = .one (.ptr j (off + m * n))
    | .one (.d (.bx cs)), .one (.d (.int _ q)) => ∃ m : Nat, q = m ∧ m < len ∧ v = .one (.d (.bx (cs.drop (m * n))))
    | .one (.d (.raw (.pointer (some ⟨g, 0, none⟩)))), .one (.d (.int _ q)) => ∃ (m : Nat) (cells : Array Value) (T : TypeId) (fz : Nat × Nat) (ds : List D), q = m ∧ m < len ∧ S.gp g = some (.cells cells T fz) ∧ dsOf cells.toList = some ds ∧ v = .one (.d (.bx (ds.drop (m * n))))
    | _, _ => False) : Goes S Y s.fr s.own a ms v ((execOp a.eval o).run S.P w) := by
  have hx := h.ev x
  have hi := h.ev i
  have fin : ∀ (b of : Nat) (k : IntKind) (m : Nat), a.eval x = .pointer (some ⟨b, of, none⟩) → a.eval i = .int k m → m < len → DenV H an v (.pointer (some ⟨b, of + m * n, none⟩)) →
      Goes S Y s.fr s.own a ms v ((execOp a.eval o).run S.P w) := by
    intro b of k m he hq hl hd
    refine Goes.same h (u := .pointer (some ⟨b, of + m * n, none⟩)) ?_ hd
    have hq' : 0 ≤ (m : Int) ∧ (m : Int) < (len : Int) := ⟨by omega, by omega⟩
    simp only [execOp, ho, Instr.indexAt, Sem.run_bind, hq, asIntOf, Sem.run_pure, Go.run_underlying ht, Result.andThen_ok, he, Instr.sureAddr, Sem.run_ite, if_pos hq', run_sizeOf' hn, addr_add, Int.toNat_natCast]
  split at hv
  · rename_i j off k q e1 e2
    rw [e1] at hx; rw [e2] at hi
    obtain ⟨m, rfl, hm, rfl⟩ := hv
    obtain ⟨b, hu, p, hp, he⟩ := hx
    exact fin b off k m hu (den_int hi) hm ⟨b, rfl, p, hp, he⟩
  · rename_i cs k q e1 e2
    rw [e1] at hx; rw [e2] at hi
    obtain ⟨m, rfl, hm, rfl⟩ := hv
    generalize hu : a.eval x = u at hx
    cases hx with
    | bx cs b of cells T fz f hb hf hd =>
      refine fin b of k m hu (den_int hi) hm (Den.bx _ b _ cells T fz (fun j => f (m * n + j)) hb (fun j y hy => ?_) (fun j y hy => ?_))
      · rw [List.getElem?_drop] at hy; rw [← hf _ y hy]; congr 1; omega
      · rw [List.getElem?_drop] at hy; exact hd _ y hy
  · rename_i g k q e1 e2
    rw [e1] at hx; rw [e2] at hi
    obtain ⟨m, cells, T, fz, ds, rfl, hm, hg, hds, rfl⟩ := hv
    have hd := dsOf_den H hds
    refine fin g 0 k m (den_raw hx) (den_int hi) hm (Den.bx _ g _ cells T fz (fun j => cells.getD (m * n + j) undef) (h.gp g _ hg) (fun j y hy => ?_) (fun j y hy => ?_))
    · rw [List.getElem?_drop] at hy
      obtain ⟨q, hq, _⟩ := hd.get hy
      rw [Array.getElem?_toList] at hq
      simp [hq, getD_of hq]
    · rw [List.getElem?_drop] at hy
      obtain ⟨q, hq, hd'⟩ := hd.get hy
      rw [Array.getElem?_toList] at hq
      rw [getD_of hq]; exact hd'
  · exact hv.elim

theorem goes_idxS {t : TypeId} {x i : Operand} (h : SatX S Y s a w H an F ms) (ho : o.op = .index t x i) (ht : S.P.underlying t = some .string)
    (hv : match evO s.fr (opdOf x), evO s.fr (opdOf i) with
    | .one (.d (.str s)), .one (.d (.int _ n)) => ∃ (m : Nat) (b : UInt8), n = m ∧ s[m]? = some b ∧ v = .one (.d (.int .u8 b.toNat))
    | _, _ => False) : Goes S Y s.fr s.own a ms v ((execOp a.eval o).run S.P w) := by
  have hx := h.ev x
  have hi := h.ev i
  split at hv
  · rename_i st k q e1 e2
    rw [e1] at hx; rw [e2] at hi
    obtain ⟨m, b, rfl, hb, rfl⟩ := hv
    refine Goes.same h (u := .int .u8 b.toNat) ?_ (Den.int _ _)
    simp only [execOp, ho, Instr.index, Sem.run_bind, den_int hi, asIntOf, Sem.run_pure, Go.run_underlying ht, Result.andThen_ok, den_str hx]
    simp [hb]
  · exact hv.elim

theorem slice_len {xs : List (List D)} {u : Value} (h : DenV H an (.one (.d (.sl xs))) u) : ∃ A c, u = .slice A xs.length c ∧ xs.length < lenMax := by
  cases h with
  | slE A c => exact ⟨A, c, rfl, by simp [lenMax]⟩
  | sl xs b o c sz cells T fz f hb hs hc hl hf hd => exact ⟨_, c, rfl, hl⟩

/-- Anchors of what is nrm'd. -/
theorem SatX.evn (h : SatX S Y s a w H an F ms) (x : Operand) : DenV H an (evO s.fr (opdOf x)).nrm (a.eval x) := (h.ev x).nrm

theorem SatX.map (h : SatX S Y s a w H an F ms) {i : Nat} {es : List (V × V)} (hc : getC s.own i = .map es) :
    ∃ b ents clk, an i = some (0, .map (some b)) ∧ (∀ x, F i x ↔ x = b) ∧ w.heap[b]? = some (.map ents clk) ∧ All2 (fun e en => DenV1 H an e.1 en.key ∧ DenV1 H an e.2 en.val) es ents.toList := by
  obtain ⟨p, hp, h0, b, ents, clk, h1, h2, h3, h4⟩ := h.own i _ (getC_some hc (by simp))
  obtain ⟨p1, p2⟩ := p
  simp only at h0 h1
  exact ⟨b, ents, clk, by rw [hp, h0, h1], h2, h3, h4⟩
theorem own_val {i ver : Nat} {p u : Value} (hp : an i = some (ver, p)) (hu : DenV H an (.one (.own i ver)) u) : u = p := by
  obtain ⟨_, q, hq, _, he⟩ := hu
  rw [hp] at hq; cases hq
  exact he rfl
theorem run_getObj' {P : Program} {w : World} {b : Nat} {o : Obj} (h : w.heap[b]? = some o) (hc : ∀ c t f, o ≠ .cells c t f) : (getObj b).run P w = .ok o w := by
  cases o with
  | cells c t f => exact absurd rfl (hc c t f)
  | _ => simp only [getObj, Sem.run, h]

theorem goes_len {t : TypeId} {x : Operand} {kd : Leaf} (h : SatX S Y s a w H an F ms) (ho : o.op = .call { callee := .builtin .len, args := #[x], argTypes := #[t] })
    (ht : (kd = .s ∧ S.P.underlying t = some .string) ∨ (kd = .i ∧ ∃ e, S.P.underlying t = some (.slice e)) ∨ (kd = .b ∧ ∃ k e, S.P.underlying t = some (.map k e)))
    (hv : LenV kd (evO s.fr (opdOf x)).nrm s.own v) : Goes S Y s.fr s.own a ms v ((execOp a.eval o).run S.P w) := by
  have hx := h.evn x
  have fin : ∀ (n : Nat), (Builtin.len_ #[t] o.type #[a.eval x]).run S.P w = .ok (.int .i64 n) w → v = .one (.d (.int .i64 n)) → Goes S Y s.fr s.own a ms v ((execOp a.eval o).run S.P w) := by
    rintro n hr rfl
    refine Goes.same h (u := .int .i64 n) ?_ (Den.int _ _)
    simp only [execOp, ho, resolve, invoke, builtin, Sem.run_bind, Sem.run_pure, Result.andThen_ok]
    simp [hr]
  generalize (evO s.fr (opdOf x)).nrm = vx at *
  unfold LenV at hv
  split at hv
  · obtain ⟨_, ht⟩ | ⟨h0, _⟩ | ⟨h0, _⟩ := ht
    · exact fin _ (by rw [den_str hx]; simp [Builtin.len_, Go.run_underlying ht, goInt]) hv
    · cases h0
    · cases h0
  · obtain ⟨h0, _⟩ | ⟨_, el, ht⟩ | ⟨h0, _⟩ := ht
    · cases h0
    · obtain ⟨A, c, hu, _⟩ := slice_len hx
      exact fin _ (by rw [hu]; simp [Builtin.len_, Go.run_underlying ht, goInt]) hv
    · cases h0
  · obtain ⟨h0, _⟩ | ⟨_, el, ht⟩ | ⟨h0, _⟩ := ht
    · cases h0
    · split at hv
      · rename_i sz ver' xs hc
        obtain ⟨rfl, hv⟩ := hv
        obtain ⟨p, hp, _, hs, h1, h2, h4⟩ := h.row hc
        have hu := own_val hp hx
        rcases h4 with ⟨rfl, ⟨q, rfl⟩, _⟩ | ⟨b, of, cap, vs, T, rfl, _⟩
        · exact fin _ (by rw [hu]; simp [Builtin.len_, Go.run_underlying ht, goInt]) hv
        · exact fin _ (by rw [hu]; simp [Builtin.len_, Go.run_underlying ht, goInt]) hv
      · exact hv.elim
    · cases h0
  · obtain ⟨h0, _⟩ | ⟨h0, _⟩ | ⟨_, kt, el, ht⟩ := ht
    · cases h0
    · cases h0
    · split at hv
      · rename_i es hc
        obtain ⟨b, ents, clk, hb, hF, hh, hd⟩ := h.map hc
        have hu := own_val hb hx
        have hl := hd.length
        simp at hl
        exact fin _ (by rw [hu]; simp [Builtin.len_, Go.run_underlying ht, goInt, run_getObj' hh (by simp), hl]) hv
      · exact hv.elim
  · exact hv.elim

theorem goes_min {x y : Operand} {tys : Array TypeId} {mx : Bool} (h : SatX S Y s a w H an F ms) (ho : o.op = .call { callee := .builtin (if mx then .max else .min), args := #[x, y], argTypes := tys })
    (hv : match evO s.fr (opdOf x), evO s.fr (opdOf y) with
    | .one (.d (.int k p)), .one (.d (.int _ q)) => v = .one (.d (.int k (if (if mx then p < q else q < p) then q else p)))
    | _, _ => False) : Goes S Y s.fr s.own a ms v ((execOp a.eval o).run S.P w) := by
  have hx := h.ev x
  have hy := h.ev y
  split at hv
  · rename_i k p k' q e1 e2
    rw [e1] at hx; rw [e2] at hy
    subst hv
    refine Goes.same h (u := .int k (if (if mx then p < q else q < p) then q else p)) ?_ (Den.int _ _)
    cases mx
    · simp only [execOp, ho, resolve, invoke, builtin, Sem.run_bind, Sem.run_pure, Result.andThen_ok, Bool.false_eq_true, if_false]
      simp [Builtin.min_, Builtin.min2, den_int hx, den_int hy]
    · simp only [execOp, ho, resolve, invoke, builtin, Sem.run_bind, Sem.run_pure, Result.andThen_ok, if_true]
      simp [Builtin.max_, Builtin.max2, den_int hx, den_int hy]
  · exact hv.elim

theorem inK_wrap {k : IntKind} {n : Int} (h : inK k n) : k.wrap n = n := by
  unfold inK at h
  cases k <;> simp [IntKind.min, IntKind.max, IntKind.signed, IntKind.bits] at h <;> simp only [IntKind.wrap, IntKind.signed, IntKind.bits] <;> simp <;> (try split) <;> omega

theorem beq_bytes (a b : ByteArray) : (a.toList == b.toList) = decide (a = b) := by
  rw [ByteArray.toList_eq, ByteArray.toList_eq]
  obtain ⟨⟨x⟩⟩ := a
  obtain ⟨⟨y⟩⟩ := b
  rw [Bool.eq_iff_iff]
  simp
theorem bytes_beq (a b : ByteArray) : (a == b) = decide (a = b) := (beq_toListBytes a b).trans (beq_bytes a b)

theorem run_binI (P : Program) (w : World) (op : BinOp) (t : TypeId) (k k' : IntKind) (p q : Int) (hk : isSh op = true ∨ k = k') (h : (binI op k p q).1) :
    ∃ u, (binOp op t (.int k p) (.int k' q)).run P w = .ok u w ∧ Den H (binI op k p q).2 u := by
  cases op <;> simp only [isSh, Bool.false_eq_true, false_or, true_or] at hk <;> (try subst hk) <;> simp only [binI] at h ⊢ <;> simp only [binOp, ne_eq, not_true, if_false]
  case add => exact ⟨_, rfl, by rw [inK_wrap h]; exact .int _ _⟩
  case sub => exact ⟨_, rfl, by rw [inK_wrap h]; exact .int _ _⟩
  case mul => exact ⟨_, rfl, by rw [inK_wrap h]; exact .int _ _⟩
  case quo => refine ⟨.int k (p.tdiv q), ?_, .int _ _⟩; simp [Op.intDiv, h.1, inK_wrap h.2]
  case rem => refine ⟨.int k (p.tmod q), ?_, .int _ _⟩; simp [Op.intDiv, h]
  case shl => refine ⟨_, ?_, .int _ _⟩; simp [Op.shift, show ¬ q < 0 by omega]
  case shr => refine ⟨_, ?_, .int _ _⟩; simp [Op.shift, show ¬ q < 0 by omega]
  all_goals first
    | exact ⟨_, rfl, .int _ _⟩
    | exact ⟨_, rfl, .bool _⟩

theorem run_binS (P : Program) (w : World) (op : BinOp) (t : TypeId) (p q : ByteArray) (h : (binS op p q).1) :
    ∃ u, (binOp op t (.string p) (.string q)).run P w = .ok u w ∧ Den H (binS op p q).2 u := by
  cases op <;> simp only [binS] at h ⊢ <;> (try exact h.elim) <;> simp only [binOp, Op.stringOp, beq_bytes]
  case add =>
    refine ⟨.string (p ++ q), ?_, .str _⟩
    rw [if_neg (by simp [IntKind.max, IntKind.signed, IntKind.bits]; omega)]
    rfl
  all_goals exact ⟨_, rfl, .bool _⟩

theorem goes_bin {t t2 : TypeId} {x y : Operand} {kd : Leaf} {op : BinOp} (h : SatX S Y s a w H an F ms) (ho : o.op = .binOp op t x y t2)
    (ht : match kd with | .b => S.P.underlying t = some .bool | _ => True)
    (hv : (binD kd op (evO s.fr (opdOf x)) (evO s.fr (opdOf y))).1 ∧ v = .one (.d (binD kd op (evO s.fr (opdOf x)) (evO s.fr (opdOf y))).2)) :
    Goes S Y s.fr s.own a ms v ((execOp a.eval o).run S.P w) := by
  obtain ⟨hp, rfl⟩ := hv
  have hx := h.ev x
  have hy := h.ev y
  have fin : ∀ (u : Value), (do eqGuard op t x y (a.eval x) (a.eval y); binOp op t (a.eval x) (a.eval y) : Sem Value).run S.P w = .ok u w → Den H (binD kd op (evO s.fr (opdOf x)) (evO s.fr (opdOf y))).2 u →
      Goes S Y s.fr s.own a ms (.one (.d (binD kd op (evO s.fr (opdOf x)) (evO s.fr (opdOf y))).2)) ((execOp a.eval o).run S.P w) := by
    intro u hr hd
    refine Goes.same h (u := u) ?_ hd
    simp only [execOp, ho]
    rw [Sem.run_bind, hr]; rfl
  generalize evO s.fr (opdOf x) = vx at *
  generalize evO s.fr (opdOf y) = vy at *
  unfold binD at hp fin ⊢
  split at hp
  · rename_i k p k' q
    have ex := den_int hx
    have ey := den_int hy
    have hk : isSh op = true ∨ k = k' := by
      by_cases hc : isSh op = true ∨ k = k'
      · exact hc
      · rw [if_neg hc] at hp; exact hp.elim
    simp only [if_pos hk] at hp fin ⊢
    obtain ⟨u, hr, hd⟩ := run_binI (H := H) S.P w op t k k' p q hk hp
    refine fin u ?_ hd
    rw [ex, ey, Sem.run_bind]
    have : (eqGuard op t x y (.int k p) (.int k' q)).run S.P w = .ok () w := by cases op <;> simp [eqGuard]
    rw [this]; exact hr
  · rename_i p q
    obtain ⟨u, hr, hd⟩ := run_binS (H := H) S.P w op t p q hp
    refine fin u ?_ hd
    rw [den_str hx, den_str hy, Sem.run_bind]
    have : (eqGuard op t x y (.string p) (.string q)).run S.P w = .ok () w := by cases op <;> simp [eqGuard]
    rw [this]; exact hr
  · rename_i p q
    simp only at ht
    have he : (Op.equal t (.bool p) (.bool q)).run S.P w = .ok (p == q) w := run_equalIn_bool' w 9999 t p q ht
    cases op <;> simp only [binB] at hp fin ⊢ <;> (try exact hp.elim)
    · refine fin (.bool (p == q)) ?_ (.bool _)
      rw [den_bool hx, den_bool hy, Sem.run_bind]
      have : (eqGuard .eql t x y (.bool p) (.bool q)).run S.P w = .ok () w := by simp [eqGuard]
      simp only [this, Result.andThen_ok, binOp, Sem.run_bind, he, Sem.run_pure]
    · refine fin (.bool (!(p == q))) ?_ (.bool _)
      rw [den_bool hx, den_bool hy, Sem.run_bind]
      have : (eqGuard .neq t x y (.bool p) (.bool q)).run S.P w = .ok () w := by simp [eqGuard]
      simp only [this, Result.andThen_ok, binOp, Sem.run_bind, he, Sem.run_pure]
  · exact hp.elim

theorem run_equalIn_sl {P : Program} (w : World) (dp : Nat) {t e : TypeId} (ht : P.underlying t = some (.slice e)) (A : Option Addr) (m c m' c' : Nat) : (Op.equalIn (dp + 1) t (.slice A m c) (.slice none m' c')).run P w = .ok A.isNone w := by
  cases A <;> simp [Op.equalIn, Go.run_underlying ht]
theorem run_equalIn_ifc {P : Program} (w : World) (dp : Nat) {t : TypeId} {ms : Array (String × TypeId)} (ht : P.underlying t = some (.interface ms)) (p : Value) (hp : p = .nilIface ∨ ∃ t v, p = .iface t v) :
    (Op.equalIn (dp + 1) t p .nilIface).run P w = .ok (p matches .nilIface) w := by
  rcases hp with rfl | ⟨t, v, rfl⟩ <;> simp [Op.equalIn, Go.run_underlying ht]
theorem run_equalIn_fn {P : Program} (w : World) (dp : Nat) {t : TypeId} {x y : Array TypeId} {z : Bool} (ht : P.underlying t = some (.func x y z)) (p : Value) (hp : p = .nilFunc ∨ ∃ f a b, p = .func f a b) :
    (Op.equalIn (dp + 1) t p .nilFunc).run P w = .ok (p matches .nilFunc) w := by
  rcases hp with rfl | ⟨f, a, b, rfl⟩ <;> simp [Op.equalIn, Go.run_underlying ht]
theorem run_equalIn_ptr {P : Program} (w : World) (dp : Nat) {t e : TypeId} (ht : P.underlying t = some (.pointer e)) (A : Option Addr) : (Op.equalIn (dp + 1) t (.pointer A) (.pointer none)).run P w = .ok A.isNone w := by
  cases A <;> simp [Op.equalIn, Go.run_underlying ht]
/-- What a value is that is known to be nil, or not. -/
theorem nilD_den {kd : NK} {x : V} {u : Value} {r : Bool} (h : nilD kd x = some r) (hx : DenV H an x u) : match kd with
    | .sl => ∃ A m c, u = .slice A m c ∧ A.isNone = r
    | .ifc => (u = .nilIface ∧ r = true) ∨ ∃ t v, u = .iface t v ∧ r = false
    | .fn => (u = .nilFunc ∧ r = true) ∨ ∃ f a b, u = .func f a b ∧ r = false
    | .ptr => ∃ A, u = .pointer A ∧ A.isNone = r := by
  unfold nilD at h
  split at h <;> cases h
  · exact ⟨_, _, _, den_raw hx, rfl⟩
  · exact ⟨_, _, _, den_raw hx, rfl⟩
  · cases hx; exact ⟨_, _, _, rfl, rfl⟩
  · exact .inl ⟨den_nilI hx, rfl⟩
  · cases hx <;> exact .inr ⟨_, _, rfl, rfl⟩
  · obtain ⟨v, rfl, _⟩ := hx; exact .inr ⟨_, _, rfl, rfl⟩
  · cases hx; exact .inl ⟨rfl, rfl⟩
  · cases hx; exact .inr ⟨_, _, _, rfl, rfl⟩
  · cases hx <;> exact .inr ⟨_, _, _, rfl, rfl⟩
  · obtain ⟨vs, rfl, _⟩ := hx; exact .inr ⟨_, _, _, rfl, rfl⟩
  · cases hx; exact ⟨_, rfl, rfl⟩
  · cases hx; exact ⟨_, rfl, rfl⟩
  · obtain ⟨b, rfl, _⟩ := hx; exact ⟨_, rfl, rfl⟩
  · obtain ⟨b, q, rfl, _⟩ := hx; exact ⟨_, rfl, rfl⟩

theorem goes_nilq {t t2 : TypeId} {x y : Operand} {kd : NK} {neg : Bool} {d : TypeDesc} (h : SatX S Y s a w H an F ms) (ho : o.op = .binOp (if neg then .neq else .eql) t x y t2) (ht : S.P.underlying t = some d) (hk : nkOf d = some kd) (hy : isNilC kd y = true)
    (hv : ∃ r, nilD kd (evO s.fr (opdOf x)) = some r ∧ v = .one (.d (.bool (if neg then !r else r)))) : Goes S Y s.fr s.own a ms v ((execOp a.eval o).run S.P w) := by
  obtain ⟨r, hr, rfl⟩ := hv
  have hx := nilD_den hr (h.ev x)
  have fin : ∀ (p q : Value), a.eval x = p → a.eval y = q → (∀ op, (eqGuard op t x y p q).run S.P w = .ok () w) → (Op.equalIn (9999 + 1) t p q).run S.P w = .ok r w →
      binOp .eql t p q = (do pure (.bool (← Op.equal t p q))) → binOp .neq t p q = (do pure (.bool (!(← Op.equal t p q)))) → Goes S Y s.fr s.own a ms (.one (.d (.bool (if neg then !r else r)))) ((execOp a.eval o).run S.P w) := by
    intro p q ep eq h1 h2 h3 h4
    have h2 : (Op.equal t p q).run S.P w = .ok r w := h2
    refine Goes.same h (u := .bool (if neg then !r else r)) ?_ (Den.bool _)
    cases neg
    · simp only [execOp, ho, ep, eq, Sem.run_bind, h1, Result.andThen_ok, Bool.false_eq_true, if_false, h3, h2, Sem.run_pure]
    · simp only [execOp, ho, ep, eq, Sem.run_bind, h1, Result.andThen_ok, if_true, h4, h2, Sem.run_pure]
  unfold isNilC at hy
  split at hy
  · rename_i m c
    obtain ⟨e, rfl⟩ : ∃ e, d = .slice e := by cases d <;> simp [nkOf] at hk; exact ⟨_, rfl⟩
    obtain ⟨A, m', c', ex, rfl⟩ := hx
    exact fin _ (.slice none m c) ex rfl (fun op => by cases op <;> simp [eqGuard]) (run_equalIn_sl w _ ht A _ _ _ _) (by simp [binOp]) (by simp [binOp])
  · obtain ⟨e, rfl⟩ : ∃ e, d = .interface e := by cases d <;> simp [nkOf] at hk; exact ⟨_, rfl⟩
    rcases hx with ⟨ex, rfl⟩ | ⟨t', v, ex, rfl⟩
    · exact fin _ .nilIface ex rfl (fun op => by cases op <;> simp [eqGuard]) (run_equalIn_ifc w _ ht _ (.inl rfl)) (by simp [binOp]) (by simp [binOp])
    · exact fin _ .nilIface ex rfl (fun op => by cases op <;> simp [eqGuard]) (run_equalIn_ifc w _ ht _ (.inr ⟨_, _, rfl⟩)) (by simp [binOp]) (by simp [binOp])
  · obtain ⟨p1, p2, p3, rfl⟩ : ∃ p1 p2 p3, d = .func p1 p2 p3 := by cases d <;> simp [nkOf] at hk; exact ⟨_, _, _, rfl⟩
    rcases hx with ⟨ex, rfl⟩ | ⟨f', q1, q2, ex, rfl⟩
    · exact fin _ .nilFunc ex rfl (fun op => by cases op <;> simp [eqGuard]) (run_equalIn_fn w _ ht _ (.inl rfl)) (by simp [binOp]) (by simp [binOp])
    · exact fin _ .nilFunc ex rfl (fun op => by cases op <;> simp [eqGuard]) (run_equalIn_fn w _ ht _ (.inr ⟨_, _, _, rfl⟩)) (by simp [binOp]) (by simp [binOp])
  · obtain ⟨e, rfl⟩ : ∃ e, d = .pointer e := by cases d <;> simp [nkOf] at hk; exact ⟨_, rfl⟩
    obtain ⟨A, ex, rfl⟩ := hx
    exact fin _ (.pointer none) ex rfl (fun op => by cases op <;> simp [eqGuard]) (run_equalIn_ptr w _ ht A) (by cases A <;> simp [binOp]) (by cases A <;> simp [binOp])
  · cases hy

theorem goes_not {t : TypeId} {x : Operand} (h : SatX S Y s a w H an F ms) (ho : o.op = .unOp .not t x)
    (hv : match evO s.fr (opdOf x) with
    | .one (.d (.bool b)) => v = .one (.d (.bool !b))
    | _ => False) : Goes S Y s.fr s.own a ms v ((execOp a.eval o).run S.P w) := by
  have hx := h.ev x
  split at hv
  · rename_i b e
    rw [e] at hx
    subst hv
    refine Goes.same h (u := .bool !b) ?_ (Den.bool _)
    simp [execOp, ho, Op.unary, den_bool hx]
  · exact hv.elim

theorem goes_conv {t t2 : TypeId} {x : Operand} {k0 k : IntKind} (h : SatX S Y s a w H an F ms) (ho : o.op = .convert t t2 x) (h1 : S.P.underlying t = some (.int k0)) (h2 : S.P.underlying t2 = some (.int k))
    (hv : match evO s.fr (opdOf x) with
    | .one (.d (.int _ n)) => inK k n ∧ v = .one (.d (.int k n))
    | _ => False) : Goes S Y s.fr s.own a ms v ((execOp a.eval o).run S.P w) := by
  have hx := h.ev x
  split at hv
  · rename_i kk n e
    rw [e] at hx
    obtain ⟨hk, rfl⟩ := hv
    refine Goes.same h (u := .int k n) ?_ (Den.int _ _)
    simp [execOp, ho, convert, Go.run_underlying h1, Go.run_underlying h2, den_int hx, Conv.intToInt, inK_wrap hk]
  · exact hv.elim

theorem DenA.low {x : A} (hx : x.low = true) {u : Value} (h : DenA H an x u) : DenA0 H an x u := by
  cases x <;> first | exact h | cases hx
theorem DenAs.low : ∀ {l : List A} {m : List Value}, (∀ x ∈ l, A.low x = true) → DenAs H an l m → All2 (DenA0 H an) l m
  | [], [], _, _ => trivial
  | x :: _, _ :: _, hl, h => ⟨DenA.low (hl x (by simp)) h.1, DenAs.low (fun y hy => hl y (by simp [hy])) h.2⟩
theorem Dens.get_d {l : List D} {m : List Value} (h : Dens H l m) : ∀ (j : Nat) (y : D) (v : Value), l[j]? = some y → m[j]? = some v → Den H y v := by
  intro j y v hy hv
  obtain ⟨q, hq, hd⟩ := h.get hy
  rw [hv] at hq; cases hq; exact hd

theorem goes_mkI {t : TypeId} {x : Operand} (h : SatX S Y s a w H an F ms) (ho : o.op = .makeInterface t x) {d : TypeDesc} (ht : S.P.underlying t = some d) (hd : ∀ m, d ≠ .interface m)
    (hv : ∃ r, ifv t (evO s.fr (opdOf x)) = some r ∧ v = .one r) : Goes S Y s.fr s.own a ms v ((execOp a.eval o).run S.P w) := by
  obtain ⟨r, hr, rfl⟩ := hv
  have hx := h.ev x
  refine Goes.same h (u := .iface t (a.eval x)) ?_ ?_
  · simp only [execOp, ho, Instr.makeInterface, Sem.run_bind, Go.run_underlying ht, Result.andThen_ok]
    cases d <;> first | exact absurd rfl (hd _) | rfl
  · generalize evO s.fr (opdOf x) = vx at *
    unfold ifv at hr
    split at hr
    · cases hr; exact Den.ifcV t _ _ hx
    · split at hr
      · rename_i hl
        cases hr
        exact ⟨_, rfl, DenA.low hl hx⟩
      · cases hr
    · split at hr
      · rename_i ds hds
        cases hr
        obtain ⟨vs, e, hvs⟩ := hx
        have hdd := allD_den hds hvs
        show Den _ _ _
        rw [e]
        exact Den.ifcA t ds vs hdd.length.symm (Dens.get_d hdd)
      · cases hr
    · cases hr

theorem evs (h : SatX S Y s a w H an F ms) : ∀ (l : List Operand), All2 (DenV H an) (l.map fun x => evO s.fr (opdOf x)) (l.map a.eval)
  | [] => trivial
  | x :: l => ⟨h.ev x, evs h l⟩

theorem capsD_den : ∀ {l : List V} {ds : List D} {vs : List Value}, capsD l = some ds → All2 (DenV H an) l vs → Dens H ds vs
  | [], ds, vs, h, k => by simp [capsD] at h; subst h; cases vs with | nil => trivial | cons _ _ => simp [All2] at k
  | x :: l, ds, vs, h, k => by
    cases vs with
    | nil => simp [All2] at k
    | cons v vs =>
      unfold capsD at h
      split at h
      · rename_i e; cases e
      · rename_i y l' e
        cases e
        cases e : capsD l with
        | none => simp [e] at h
        | some r => simp [e] at h; subst h; exact ⟨k.1, capsD_den e k.2⟩
      · cases h
theorem capsA_den : ∀ {l : List V} {ds : List A} {vs : List Value}, capsA l = some ds → All2 (DenV H an) l vs → All2 (DenA0 H an) ds vs
  | [], ds, vs, h, k => by simp [capsA] at h; subst h; cases vs with | nil => trivial | cons _ _ => simp [All2] at k
  | x :: l, ds, vs, h, k => by
    cases vs with
    | nil => simp [All2] at k
    | cons v vs =>
      unfold capsA at h
      split at h
      · rename_i e; cases e
      · rename_i y l' e
        cases e
        split at h
        · rename_i hl
          cases e : capsA l with
          | none => simp [e] at h
          | some r => simp [e] at h; subst h; exact ⟨DenA.low hl k.1, capsA_den e k.2⟩
        · cases h
      · cases h

theorem goes_mkF {f : Go.Fn} {first caps : Array Operand} (h : SatX S Y s a w H an F ms) (ho : o.op = .makeFunc f first caps) (hf : first.toList = [])
    (hv : ∃ r, clov f ((caps.toList.map opdOf).map (evO s.fr)) = some r ∧ v = .one r) : Goes S Y s.fr s.own a ms v ((execOp a.eval o).run S.P w) := by
  obtain ⟨r, hr, rfl⟩ := hv
  have hfe : first = #[] := by apply Array.ext'; simpa using hf
  subst hfe
  have hev := evs h caps.toList
  refine Goes.same h (u := .func f #[] (caps.map a.eval)) (by simp [execOp, ho, Instr.makeFunc]) ?_
  have e : caps.map a.eval = (caps.toList.map a.eval).toArray := by rw [← Array.toList_map, Array.toArray_toList]
  rw [e]
  unfold clov at hr
  simp only [List.map_map] at hr
  split at hr
  · rename_i ds hds
    cases hr
    have hd := capsD_den hds hev
    exact Den.fn f ds _ hd.length.symm (Dens.get_d hd)
  · split at hr
    · rename_i as has
      cases hr
      exact ⟨_, rfl, capsA_den has hev⟩
    · cases hr

theorem goes_mkMv {f : Go.Fn} {first caps : Array Operand} {x : Operand} (h : SatX S Y s a w H an F ms) (ho : o.op = .makeFunc f first caps) (hf : first.toList = [x]) (hc : caps.size = 0)
    (hv : ∃ r, mvv f (evO s.fr (opdOf x)) = some r ∧ v = .one r) : Goes S Y s.fr s.own a ms v ((execOp a.eval o).run S.P w) := by
  obtain ⟨r, hr, rfl⟩ := hv
  have hfe : first = #[x] := by apply Array.ext'; simpa using hf
  have hce : caps = #[] := Array.eq_empty_of_size_eq_zero hc
  subst hfe
  subst hce
  have hx := h.ev x
  refine Goes.same h (u := .func f #[a.eval x] #[]) (by simp [execOp, ho, Instr.makeFunc]) ?_
  generalize evO s.fr (opdOf x) = vx at *
  unfold mvv at hr
  split at hr
  · cases hr; exact Den.mvV f _ _ hx
  · split at hr
    · rename_i hl
      cases hr
      exact ⟨_, rfl, DenA.low hl hx, trivial⟩
    · cases hr
  · obtain ⟨vs, e, hvs⟩ := hx
    split at hr
    · rename_i ds hds
      cases hr
      have hdd := allD_den hds hvs
      show Den _ _ _
      rw [e]
      exact Den.mvA f ds vs hdd.length.symm (Dens.get_d hdd)
    · split at hr
      · rename_i hl
        cases hr
        exact ⟨vs, by rw [e], DenAs.low (fun y hy => List.all_eq_true.1 hl y hy) hvs⟩
      · cases hr
  · cases hr

theorem goes_mkM {t : TypeId} {own' : List Ch} (h : SatX S Y s a w H an F ms) (ho : o.op = .makeMap t none) (hv : own' = s.own ++ [.map []] ∧ v = .one (.own s.own.length 0)) :
    Goes S Y s.fr own' a ms v ((execOp a.eval o).run S.P w) := by
  obtain ⟨rfl, rfl⟩ := hv
  refine ⟨.value (.map (some w.heap.size)), _, _, H, _, _, ?_, .inl rfl, h.push_own (.map #[] 0) (.map []) (0, .map (some w.heap.size)) ⟨rfl, w.heap.size, #[], 0, rfl, fun x => Iff.rfl, by simp, trivial⟩, ?_⟩
  · simp only [execOp, ho, Instr.makeMap]
    simp
  · exact ⟨rfl, (0, .map (some w.heap.size)), by simp [Anc.put], Nat.le_refl _, fun _ => rfl⟩

theorem getV_of : ∀ {l : List V} {i : Nat} {y : V}, l[i]? = some y → getV l i = y
  | [], _, _, h => by simp at h
  | _ :: _, 0, _, h => by simpa [getV] using h
  | _ :: l, i + 1, y, h => by simp only [getV]; exact getV_of (l := l) (by simpa using h)
theorem goes_ext {x : Operand} {i : Nat} (h : SatX S Y s a w H an F ms) (ho : o.op = .extract x i)
    (hv : match evO s.fr (opdOf x) with
    | .tup l => v = getV l i ∧ i < l.length
    | _ => False) : Goes S Y s.fr s.own a ms v ((execOp a.eval o).run S.P w) := by
  have hx := h.ev x
  split at hv
  · rename_i l e
    rw [e] at hx
    obtain ⟨rfl, hi⟩ := hv
    obtain ⟨vs, hu, hd⟩ := hx
    obtain ⟨y, hy⟩ : ∃ y, l[i]? = some y := ⟨_, List.getElem?_eq_getElem hi⟩
    obtain ⟨q, hq, hd1⟩ := hd.get hy
    rw [getV_of hy]
    refine Goes.same h (u := q) ?_ ?_
    · simp [execOp, ho, Instr.extract, hu, hq]
    · cases y <;> first | exact hd1 | exact hd1.elim
  · exact hv.elim

theorem goes_rng {t : TypeId} {x : Operand} {own' : List Ch} (h : SatX S Y s a w H an F ms) (ho : o.op = .range t x) (ht : S.P.underlying t = some .string)
    (hv : match evO s.fr (opdOf x) with
    | .one (.d (.str st)) => own' = s.own ++ [.siter st 0] ∧ v = .one (.own s.own.length 0)
    | _ => False) : Goes S Y s.fr own' a ms v ((execOp a.eval o).run S.P w) := by
  have hx := h.ev x
  split at hv
  · rename_i st e
    rw [e] at hx
    obtain ⟨rfl, rfl⟩ := hv
    refine ⟨.value (.pointer (some ⟨w.heap.size, 0, none⟩)), _, _, H, _, _, ?_, .inl rfl, h.push_own (.stringIter st 0) (.siter st 0) (0, .pointer (some ⟨w.heap.size, 0, none⟩)) ⟨rfl, w.heap.size, rfl, fun x => Iff.rfl, by simp⟩, ?_⟩
    · simp only [execOp, ho, Instr.range, Sem.run_bind, Go.run_underlying ht, Result.andThen_ok, den_str hx]
      simp
    · exact ⟨rfl, (0, .pointer (some ⟨w.heap.size, 0, none⟩)), by simp [Anc.put], Nat.le_refl _, fun _ => rfl⟩
  · exact hv.elim

theorem putObj_keep (w : World) (b : Nat) (o : Obj) : WKeep w { w with heap := w.heap.setIfInBounds b o } (fun x => x = b) :=
  ⟨rfl, rfl, rfl, by simp, fun i _ hi => by
    show (w.heap.setIfInBounds b o)[i]? = _
    rw [Array.getElem?_setIfInBounds]
    rw [if_neg (fun e => hi e.symm)]⟩
theorem run_setObj' {P : Program} {w : World} {b : Nat} {o o' : Obj} (h : w.heap[b]? = some o) (hc : ∀ c t f, o ≠ .cells c t f) : (setObj b o').run P w = .ok () { w with heap := w.heap.setIfInBounds b o' } := by
  cases o with
  | cells c t f => exact absurd rfl (hc c t f)
  | _ => simp only [setObj, Sem.run, h]

theorem goes_nxt {x : Operand} {own' : List Ch} (h : SatX S Y s a w H an F ms) (ho : o.op = .next x true)
    (hv : match evO s.fr (opdOf x) with
    | .one (.own j 0) => (match getC s.own j with
      | .siter st pos => if pos < st.size then own' = setC s.own j (.siter st (pos + (Utf8.decode st pos).2)) ∧ v = .tup [.one (.d (.bool true)), .one (.d (.int .i64 pos)), .one (.d (.int .i32 (Utf8.decode st pos).1))]
          else own' = s.own ∧ v = .tup [.one (.d (.bool false))]
      | _ => False)
    | _ => False) : Goes S Y s.fr own' a ms v ((execOp a.eval o).run S.P w) := by
  have hx := h.ev x
  split at hv
  · rename_i j e
    rw [e] at hx
    split at hv
    · rename_i st pos hc
      obtain ⟨p, hp, h0, b, h1, h2, h3⟩ := h.own j _ (getC_some hc (by simp))
      obtain ⟨p1, p2⟩ := p
      simp only at h0 h1
      subst h0
      have hu := own_val hp hx
      rw [h1] at hu
      split at hv
      · rename_i hlt
        obtain ⟨rfl, rfl⟩ := hv
        refine ⟨.value (.tuple #[.bool true, goInt pos, .int .i32 (Utf8.decode st pos).1]), _, { w with heap := w.heap.setIfInBounds b (.stringIter st (pos + (Utf8.decode st pos).2)) }, H, an, F, ?_, .inl rfl, ?_, ⟨_, rfl, Den.bool _, Den.int _ _, Den.int _ _, trivial⟩⟩
        · simp only [execOp, ho, Instr.next, hu, Sem.run_bind, run_getObj' h3 (by simp), Result.andThen_ok, Sem.run_ite, if_pos hlt, run_setObj' h3 (by simp), Sem.run_pure]
        · rw [setC_eq]
          refine h.set_own hp h2 (putObj_keep w b _) ⟨rfl, b, h1, h2, ?_⟩
          have := (Array.getElem?_eq_some_iff.1 h3).1
          simp [this]
      · rename_i hlt
        obtain ⟨rfl, rfl⟩ := hv
        refine Goes.same h (u := .tuple #[.bool false]) ?_ ⟨[.bool false], rfl, Den.bool _, trivial⟩
        simp only [execOp, ho, Instr.next, hu, Sem.run_bind, run_getObj' h3 (by simp), Result.andThen_ok, Sem.run_ite, if_neg hlt, Sem.run_pure]
    · exact hv.elim
  · exact hv.elim
end
end Go.Fw
