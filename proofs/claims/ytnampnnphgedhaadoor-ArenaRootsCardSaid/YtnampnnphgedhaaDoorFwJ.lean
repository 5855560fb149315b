/- The framework, part 10: each operation does what 'Ev' says: structs compared, maps. -/
import Derived.Test.YtnampnnphgedhaaDoorFwI
set_option linter.all false
namespace Go.Fw
open Go

section
variable {S : Sx} {Y : Dyn} {s : St} {a : Act} {w : World} {H : Heap} {an : Anc} {F : Nat → Nat → Prop} {ms : List Nat} {o : Oper} {v : V}

theorem leaf_agg {P : Program} {w : World} {t : TypeId} {k : Leaf} (h : leafAt P t = some k) : (isAgg t).run P w = .ok false w := by
  unfold leafAt at h
  cases e : P.underlying t with
  | none => simp [e] at h
  | some d =>
    rw [e] at h
    unfold isAgg
    simp only [Sem.run_bind, Go.run_underlying e, Result.andThen_ok]
    cases d <;> first | rfl | (cases h; done)

/-- Two cells of a kind, compared. -/
theorem leaf_eq {P : Program} {w : World} {t : TypeId} {k : Leaf} {x y : A} {p q : Value} {r : Bool} (h : leafAt P t = some k) (hx : DenA H an x p) (hy : DenA H an y q) (he : eqL k x y = some r) (d : Nat) :
    (Op.equalIn (d + 1) t p q).run P w = .ok r w := by
  unfold leafAt at h
  cases e : P.underlying t with
  | none => simp [e] at h
  | some ds =>
    rw [e] at h
    unfold eqL at he
    split at he
    · split at he
      · rename_i hk
        cases he
        cases hx; cases hy
        subst hk
        cases ds <;> first | (cases h; done) | skip
        exact run_equalIn_int w d t _ _ _ _ e
      · cases he
    · cases he; cases hx; cases hy
      cases ds <;> first | (cases h; done) | skip
      exact run_equalIn_bool' w d t _ _ e
    · cases he; cases hx; cases hy
      cases ds <;> first | (cases h; done) | skip
      rw [run_equalIn_string w d t _ _ e, beq_bytes]
    · cases he

theorem eqFields_leaf {P : Program} {w : World} (d : Nat) (xs ys : Array Value) : ∀ (fs : List Field) (i : Nat) (ks : List Leaf) (as bs : List A) (r : Bool), leafsOf P fs i = some ks →
    DenAs H an as (xs.toList.drop i) → DenAs H an bs (ys.toList.drop i) → eqLs ks as bs = some r → (Op.eqFields (d + 1) xs ys fs).run P w = .ok r w
  | [], i, ks, as, bs, r, h, hx, hy, he => by
    simp [leafsOf] at h; subst h
    cases as <;> cases bs <;> simp [eqLs] at he
    subst he; rfl
  | f :: fs, i, ks, as, bs, r, h, hx, hy, he => by
    simp only [leafsOf] at h
    split at h
    · rename_i hf
      cases e1 : leafAt P f.type with
      | none => simp [e1] at h
      | some k =>
        cases e2 : leafsOf P fs (i + 1) with
        | none => simp [e1, e2] at h
        | some ks' =>
          simp [e1, e2] at h; subst h
          cases as with
          | nil => simp [eqLs] at he
          | cons x as =>
            cases bs with
            | nil => simp [eqLs] at he
            | cons y bs =>
              obtain ⟨p, hp, hxp⟩ := hx.get (i := 0) (a := x) rfl
              obtain ⟨q, hq, hyq⟩ := hy.get (i := 0) (a := y) rfl
              rw [List.getElem?_drop, Nat.add_zero, Array.getElem?_toList] at hp hq
              have hx' : DenAs H an as (xs.toList.drop (i + 1)) := by have := hx.drop 1; simpa [Nat.add_comm] using this
              have hy' : DenAs H an bs (ys.toList.drop (i + 1)) := by have := hy.drop 1; simpa [Nat.add_comm] using this
              simp only [eqLs] at he
              cases e3 : eqL k x y with
              | none => simp [e3] at he
              | some r1 =>
                cases e4 : eqLs ks' as bs with
                | none => simp [e3, e4] at he
                | some r2 =>
                  simp [e3, e4] at he; subst he
                  have ih := eqFields_leaf (w := w) d xs ys fs (i + 1) ks' as bs r2 e2 hx' hy' e4
                  simp only [Op.eqFields, if_pos hf.1, Sem.run_bind, part, leaf_agg e1, Result.andThen_ok, Bool.false_eq_true, if_false, hf.2, hp, hq, Sem.run_pure, leaf_eq e1 hxp hyq e3 d]
                  cases r1
                  · simp
                  · simp [ih]
    · cases h

theorem flat_spec {P : Program} {t : TypeId} {ks : List Leaf} (h : flatOf P t = some ks) : P.underlying t = some (.struct (P.fieldsOf t)) ∧ P.stoodInHeld t = false ∧ P.eqGuardType P.depth t = false ∧ leafsOf P (P.fieldsOf t).toList 0 = some ks := by
  unfold flatOf at h
  unfold Program.fieldsOf
  generalize P.underlying t = d at *
  match d, h with
  | some (.struct fs), h =>
    by_cases hc : (!P.stoodInHeld t && !P.eqGuardType P.depth t) = true
    · simp only [hc, if_true] at h
      simp only [Bool.and_eq_true, Bool.not_eq_true'] at hc
      exact ⟨rfl, hc.1, hc.2, h⟩
    · simp only [hc] at h
      cases h

theorem flat_eq {P : Program} {w : World} {t : TypeId} {ks : List Leaf} {as bs : List A} {us ws : List Value} {r : Bool} (h : flatOf P t = some ks) (hx : DenAs H an as us) (hy : DenAs H an bs ws) (he : eqLs ks as bs = some r) (d : Nat) :
    (Op.equalIn (d + 2) t (.agg us.toArray) (.agg ws.toArray)).run P w = .ok r w := by
  obtain ⟨h1, h2, h3, h4⟩ := flat_spec h
  rw [run_equalIn_struct w (d + 1) t _ _ h1 h2]
  exact eqFields_leaf d _ _ _ 0 ks as bs r h4 (by simpa using hx) (by simpa using hy) he

theorem goes_eqs {t t2 : TypeId} {x y : Operand} {neg : Bool} {ks : List Leaf} (h : SatX S Y s a w H an F ms) (ho : o.op = .binOp (if neg then .neq else .eql) t x y t2) (hf : flatOf S.P t = some ks)
    (hv : match evO s.fr (opdOf x), evO s.fr (opdOf y) with
    | .agg a, .agg b => ∃ r, eqLs ks a b = some r ∧ v = .one (.d (.bool (if neg then !r else r)))
    | _, _ => False) : Goes S Y s.fr s.own a ms v ((execOp a.eval o).run S.P w) := by
  have hx := h.ev x
  have hy := h.ev y
  split at hv
  · rename_i as bs e1 e2
    rw [e1] at hx; rw [e2] at hy
    obtain ⟨r, hr, rfl⟩ := hv
    obtain ⟨us, hu, hdx⟩ := hx
    obtain ⟨ws, hw, hdy⟩ := hy
    have hg := (flat_spec hf).2.2.1
    have he := flat_eq (w := w) hf hdx hdy hr 9998
    cases neg
    · refine Goes.same h (u := .bool r) ?_ (Den.bool _)
      simp only [execOp, ho, Bool.false_eq_true, if_false, hu, hw, Sem.run_bind, run_eqGuard_agg w .eql t x y _ _ hg, Result.andThen_ok, run_eql_struct, he, Sem.run_pure]
    · refine Goes.same h (u := .bool (!r)) ?_ (Den.bool _)
      simp only [execOp, ho, if_true, hu, hw, Sem.run_bind, run_eqGuard_agg w .neq t x y _ _ hg, Result.andThen_ok, run_neq_struct, he, Sem.run_pure]
  · exact hv.elim

/-! ### Maps -/
theorem key_spec {P : Program} {t : TypeId} {q : Bool × List Leaf} (h : keyOf P t = some q) : (∃ k, leafAt P t = some k ∧ q = (false, [k])) ∨ (flatOf P t = some q.2 ∧ q.1 = true) := by
  unfold keyOf at h
  cases e : leafAt P t with
  | some k => simp [e] at h; exact .inl ⟨k, rfl, h.symm⟩
  | none =>
    rw [e] at h
    cases e2 : flatOf P t with
    | none => simp [e2] at h
    | some ks => simp [e2] at h; subst h; exact .inr ⟨rfl, rfl⟩

/-- Two keys compared. -/
theorem key_eq {P : Program} {w : World} {t : TypeId} {q : Bool × List Leaf} {x y : V} {p u : Value} {r : Bool} (h : keyOf P t = some q) (hx : DenV1 H an x p) (hy : DenV1 H an y u) (he : eqV q.1 q.2 x y = some r) :
    (Op.equal t p u).run P w = .ok r w := by
  rcases key_spec h with ⟨k, hk, rfl⟩ | ⟨hf, h1⟩
  · unfold eqV at he
    split at he
    · simp only [Bool.false_eq_true, if_false, eqLs] at he
      rename_i b1 b2
      cases e : eqL k b1 b2 with
      | none => simp [e] at he
      | some r' => simp [e] at he; subst he; exact leaf_eq hk hx hy e 9999
    · simp at he
    · cases he
  · unfold eqV at he
    split at he
    · simp [h1] at he
    · simp only [h1, if_true] at he
      obtain ⟨us, rfl, hdx⟩ := hx
      obtain ⟨ws, rfl, hdy⟩ := hy
      exact flat_eq hf hdx hdy he 9998
    · cases he

theorem checkKey_fields {P : Program} {w : World} (b : Bool) (n : Nat) (cs : Array Value) : ∀ (fs : List Field) (i : Nat) (ks : List Leaf), leafsOf P fs i = some ks → i + fs.length ≤ cs.size →
    (forIn fs PUnit.unit (fun f (_ : PUnit) =>
      if f.name ≠ "_" then (part f.type cs f.offset).bind fun x => (Instr.checkKey b (n + 1) f.type x).bind fun _ => Sem.pure (ForInStep.yield PUnit.unit)
      else Sem.pure (ForInStep.yield PUnit.unit) : Field → PUnit → Sem (ForInStep PUnit))).run P w = .ok PUnit.unit w
  | [], _, _, _, _ => by simp
  | f :: fs, i, ks, h, hl => by
    simp only [leafsOf] at h
    split at h
    · rename_i hf
      cases e1 : leafAt P f.type with
      | none => simp [e1] at h
      | some k =>
        cases e2 : leafsOf P fs (i + 1) with
        | none => simp [e1, e2] at h
        | some ks' =>
          have ih := checkKey_fields (w := w) b n cs fs (i + 1) ks' e2 (by simp at hl; omega)
          have hi : i < cs.size := by simp at hl; omega
          have hc : cs[i]? = some cs[i] := Array.getElem?_eq_getElem hi
          have hk : (Instr.checkKey b (n + 1) f.type cs[i]).run P w = .ok () w := by
            unfold leafAt at e1
            cases e : P.underlying f.type with
            | none => simp [e] at e1
            | some d =>
              rw [e] at e1
              simp only [Instr.checkKey, Sem.run_bind, Go.run_underlying e, Result.andThen_ok]
              cases d <;> first | rfl | (cases e1; done)
          have hp : (part f.type cs f.offset).run P w = .ok cs[i] w := by
            simp only [part, Sem.run_bind, leaf_agg e1, Result.andThen_ok, Bool.false_eq_true, if_false, hf.2, hc, Sem.run_pure]
          rw [List.forIn_cons, Sem.run_bind]
          simp only [if_pos hf.1, Sem.run_bind', hp, Result.andThen_ok, hk, Sem.run_pure']
          exact ih
    · cases h

theorem eqLs_len : ∀ {ks : List Leaf} {as bs : List A} {r : Bool}, eqLs ks as bs = some r → as.length = ks.length
  | [], [], [], _, _ => rfl
  | k :: ks, x :: l, y :: m, r, h => by
    simp only [eqLs] at h
    cases e1 : eqL k x y with
    | none => simp [e1] at h
    | some a =>
      cases e2 : eqLs ks l m with
      | none => simp [e1, e2] at h
      | some b => simp [eqLs_len e2]
  | [], [], _ :: _, _, h => by simp [eqLs] at h
  | [], _ :: _, _, _, h => by simp [eqLs] at h
  | _ :: _, [], _, _, h => by simp [eqLs] at h
  | _ :: _, _ :: _, [], _, h => by simp [eqLs] at h
theorem leafsOf_len {P : Program} : ∀ {fs : List Field} {i : Nat} {ks : List Leaf}, leafsOf P fs i = some ks → ks.length = fs.length
  | [], _, _, h => by simp [leafsOf] at h; subst h; rfl
  | f :: fs, i, ks, h => by
    simp only [leafsOf] at h
    split at h
    · cases e1 : leafAt P f.type with
      | none => simp [e1] at h
      | some k =>
        cases e2 : leafsOf P fs (i + 1) with
        | none => simp [e1, e2] at h
        | some ks' => simp [e1, e2] at h; subst h; simp [leafsOf_len e2]
    · cases h

theorem key_check {P : Program} {w : World} {t : TypeId} {q : Bool × List Leaf} {x : V} {p : Value} (b : Bool) (h : keyOf P t = some q) (hx : DenV1 H an x p) (he : eqV q.1 q.2 x x ≠ none) :
    (Instr.checkKey b 10000 t p).run P w = .ok () w := by
  rcases key_spec h with ⟨k, hk, rfl⟩ | ⟨hf, h1⟩
  · unfold leafAt at hk
    cases e : P.underlying t with
    | none => simp [e] at hk
    | some d =>
      rw [e] at hk
      have h0 : Instr.checkKey b 10000 t p = Instr.checkKey b (9999 + 1) t p := rfl
      rw [h0]
      unfold Instr.checkKey
      simp only [Sem.run_bind, Go.run_underlying e, Result.andThen_ok]
      cases d <;> first | rfl | (cases hk; done)
  · obtain ⟨g1, g2, g3, g4⟩ := flat_spec hf
    cases x with
    | agg as =>
      unfold eqV at he
      rw [h1] at he
      simp only [if_true] at he
      obtain ⟨us, rfl, hdx⟩ := hx
      obtain ⟨r, hr⟩ := Option.ne_none_iff_exists'.1 he
      have hl := eqLs_len hr
      have hl2 := leafsOf_len g4
      have hl3 := hdx.length
      have := checkKey_fields (P := P) (w := w) b 9998 us.toArray (P.fieldsOf t).toList 0 q.2 g4 (by simp at hl2 ⊢; omega)
      have h0 : Instr.checkKey b 10000 t (.agg us.toArray) = Instr.checkKey b (9999 + 1) t (.agg us.toArray) := rfl
      rw [h0]
      unfold Instr.checkKey
      simp only [Sem.run_bind, Go.run_underlying g1, Result.andThen_ok]
      rw [← Array.forIn_toList]
      exact (congrArg (fun r => Result.andThen r fun _ w' => Result.ok () w') this)
    | one a => unfold eqV at he; rw [h1] at he; exact absurd rfl he
    | tup l => exact hx.elim
    | un => exact absurd rfl he

/-- The list of entries, gone through. -/
theorem find_asking {P : Program} {w : World} {t : TypeId} {q : Bool × List Leaf} {x : V} {p : Value} (h : keyOf P t = some q) (hx : DenV1 H an x p) :
    ∀ (es : List (V × V)) (ents : List MapEntry) (i : Nat) (r : Option V), All2 (fun e en => DenV1 H an e.1 en.key ∧ DenV1 H an e.2 en.val) es ents → findV q.1 q.2 es x = some r →
      match r with
      | none => (Instr.findAsking t p ents i).run P w = .ok none w ∧ ∀ y, putM q.1 q.2 es x y = some (es ++ [(x, y)])
      | some u => ∃ j en, (Instr.findAsking t p ents i).run P w = .ok (some (i + j, en.val)) w ∧ ents[j]? = some en ∧ DenV1 H an u en.val ∧ (∀ y, putM q.1 q.2 es x y = some (es.set j (x, y))) ∧ ∃ k, (es[j]?).map (·.1) = some k ∧ eqV q.1 q.2 x k = some true
  | [], [], i, r, _, hr => by simp [findV] at hr; subst hr; exact ⟨rfl, fun y => rfl⟩
  | (k, u) :: es, en :: ents, i, r, hes, hr => by
    simp only [findV] at hr
    cases e : eqV q.1 q.2 x k with
    | none => simp [e] at hr
    | some b =>
      have hq := key_eq (w := w) h hx hes.1.1 e
      cases b with
      | true =>
        simp [e] at hr
        subst hr
        refine ⟨0, en, ?_, rfl, hes.1.2, fun y => by simp [putM, e], k, rfl, e⟩
        simp [Instr.findAsking, hq]
      | false =>
        simp [e] at hr
        have ih := find_asking (w := w) h hx es ents (i + 1) r hes.2 hr
        cases r with
        | none =>
          obtain ⟨h1, h2⟩ := ih
          exact ⟨by simp [Instr.findAsking, hq, h1], fun y => by simp [putM, e, h2 y]⟩
        | some u' =>
          obtain ⟨j, en', h1, h2, h3, h4, k', h5, h6⟩ := ih
          refine ⟨j + 1, en', ?_, by simpa using h2, h3, fun y => by simp [putM, e, h4 y], k', by simpa using h5, h6⟩
          simp only [Instr.findAsking, Sem.run_bind, hq, Result.andThen_ok, Bool.false_eq_true, if_false, h1]
          rw [show i + (j + 1) = i + 1 + j by omega]

theorem find_now {P : Program} {t : TypeId} {k : Leaf} {d : TypeDesc} {x : V} {p : Value} (hk : leafAt P t = some k) (hd : P.underlying t = some d) (hx : DenV1 H an x p) :
    ∀ (es : List (V × V)) (ents : List MapEntry) (i : Nat) (r : Option V), All2 (fun e en => DenV1 H an e.1 en.key ∧ DenV1 H an e.2 en.val) es ents → findV false [k] es x = some r →
      ∃ g, Instr.findNow d p ents i = some g ∧ ∀ w, (Instr.findAsking t p ents i).run P w = .ok g w
  | [], [], i, r, _, hr => ⟨none, rfl, fun _ => rfl⟩
  | (y, u) :: es, en :: ents, i, r, hes, hr => by
    simp only [findV] at hr
    cases e : eqV false [k] x y with
    | none => simp [e] at hr
    | some b =>
      have hq := fun w => key_eq (P := P) (w := w) (q := (false, [k])) (t := t) (by unfold keyOf; rw [hk]) hx hes.1.1 e
      have hs : Instr.sameNow d p en.key = some b := by
        unfold leafAt at hk
        rw [hd] at hk
        cases x with
        | one x1 =>
          cases y with
          | one y1 =>
            simp only [eqV, Bool.false_eq_true, if_false, eqLs] at e
            cases e1 : eqL k x1 y1 with
            | none => simp [e1] at e
            | some b' =>
              simp [e1] at e; subst e
              have hy := hes.1.1
              unfold eqL at e1
              split at e1
              · split at e1
                · rename_i hkk
                  cases e1
                  have f1 := den_int (H := H) (an := an) hx
                  have f2 := den_int (H := H) (an := an) hy
                  rw [f1, f2]
                  subst hkk
                  cases d <;> first | (cases hk; done) | simp [Instr.sameNow]
                · cases e1
              · cases e1
                have f1 := den_bool (H := H) (an := an) hx
                have f2 := den_bool (H := H) (an := an) hy
                rw [f1, f2]
                cases d <;> first | (cases hk; done) | simp [Instr.sameNow]
              · cases e1
                have f1 := den_str (H := H) (an := an) hx
                have f2 := den_str (H := H) (an := an) hy
                rw [f1, f2]
                cases d <;> first | (cases hk; done) | simp [Instr.sameNow, bytes_beq]
              · cases e1
          | _ => simp [eqV] at e
        | agg _ => cases y <;> simp [eqV] at e
        | tup _ => cases y <;> simp [eqV] at e
        | un => cases y <;> simp [eqV] at e
      cases b with
      | true =>
        refine ⟨some (i, en.val), by simp [Instr.findNow, hs], fun w => by simp [Instr.findAsking, hq w]⟩
      | false =>
        simp [e] at hr
        obtain ⟨g, h1, h2⟩ := find_now hk hd hx es ents (i + 1) r hes.2 hr
        exact ⟨g, by simp [Instr.findNow, hs, h1], fun w => by simp [Instr.findAsking, hq w, h2 w]⟩

theorem find_key {P : Program} {w : World} {t : TypeId} {q : Bool × List Leaf} {x : V} {p : Value} (h : keyOf P t = some q) (hx : DenV1 H an x p)
    (es : List (V × V)) (ents : List MapEntry) (r : Option V) (hes : All2 (fun e en => DenV1 H an e.1 en.key ∧ DenV1 H an e.2 en.val) es ents) (hr : findV q.1 q.2 es x = some r) :
    (Instr.findKey t p ents).run P w = (Instr.findAsking t p ents 0).run P w := by
  rcases key_spec h with ⟨k, hk, rfl⟩ | ⟨hf, h1⟩
  · cases e : P.underlying t with
    | none => unfold leafAt at hk; rw [e] at hk; cases hk
    | some d =>
      obtain ⟨g, h1, h2⟩ := find_now hk e hx es ents 0 r hes hr
      simp only [Instr.findKey, Sem.run_bind, Go.run_underlying e, Result.andThen_ok, h1, Sem.run_pure, h2]
  · have hu := (flat_spec hf).1
    simp only [Instr.findKey, Sem.run_bind, Go.run_underlying hu, Result.andThen_ok]
    cases ents with
    | nil => rfl
    | cons en ents => simp [Instr.findNow, Instr.sameNow]

theorem keyed_den {x : V} {p : Value} (hk : x.ok = true) (h : DenV H an x p) : DenV1 H an x p := by
  cases x <;> first | exact h | cases hk

theorem zeroV_den {P : Program} {e : TypeId} {z : V} (hz : zeroVOf P e = some z) : ∃ u, (∀ w, (zeroValue e).run P w = .ok u w) ∧ DenV H an z u := by
  unfold zeroVOf at hz
  cases hi : P.info? e with
  | none => simp [hi] at hz
  | some i =>
    cases hu : i.zero with
    | none => simp [hi, hu] at hz
    | some u =>
      simp [hi, hu] at hz
      subst hz
      exact ⟨u, fun w => by simp [zeroValue, typeInfo, hi, hu], vOf_den H an u⟩
end
end Go.Fw
