/- The framework, part 11: each operation does what 'Ev' says: maps asked and written, slices cut, made, appended to. -/
import Derived.Test.YtnampnnphgedhaaDoorFwJ
import Derived.Laws.AppendOwn
import Derived.Laws.MakeOwn
set_option linter.all false
namespace Go.Fw
open Go

section
variable {S : Sx} {Y : Dyn} {s : St} {a : Act} {w : World} {H : Heap} {an : Anc} {F : Nat → Nat → Prop} {ms : List Nat} {o : Oper} {v : V}

theorem denV_of1 {x : V} {p : Value} (h : DenV1 H an x p) (hx : x.ok = true) : DenV H an x p := by
  cases x <;> first | exact h | cases hx

theorem goes_lkp {t kt e : TypeId} {m k : Operand} {ok : Bool} {z : V} {q : Bool × List Leaf} (h : SatX S Y s a w H an F ms) (ho : o.op = .lookup t m k ok) (ht : S.P.underlying t = some (.map kt e))
    (hq : keyOf S.P kt = some q) (hz : zeroVOf S.P e = some z)
    (hv : ∃ r u, (match evO s.fr (opdOf m) with
      | .one (.own j 0) => (match getC s.own j with
        | .map es => findV q.1 q.2 es (evO s.fr (opdOf k)) = some r
        | _ => False)
      | .one (.d (.raw (.map none))) => r = none
      | _ => False) ∧ eqV q.1 q.2 (evO s.fr (opdOf k)) (evO s.fr (opdOf k)) ≠ none ∧ u = r.getD z ∧ u.ok = true ∧ v = if ok then .tup [u, .one (.d (.bool r.isSome))] else u) :
    Goes S Y s.fr s.own a ms v ((execOp a.eval o).run S.P w) := by
  obtain ⟨r, u, hm, hkk, rfl, huo, rfl⟩ := hv
  have hx := h.ev m
  have hk := h.ev k
  have hk1 : DenV1 H an (evO s.fr (opdOf k)) (a.eval k) := by
    cases e1 : evO s.fr (opdOf k) with
    | tup l => rw [e1] at hkk; simp [eqV] at hkk
    | one x => rw [e1] at hk; exact hk
    | agg x => rw [e1] at hk; exact hk
    | un => trivial
  obtain ⟨zu, hzr, hzd⟩ := zeroV_den (H := H) (an := an) hz
  have fin : ∀ (es : Array MapEntry) (res : Option (Nat × Value)) (u : Value), ((a.eval m = .map none ∧ es = #[]) ∨ ∃ b clk, a.eval m = .map (some b) ∧ w.heap[b]? = some (.map es clk)) →
      (Instr.findKey kt (a.eval k) es.toList).run S.P w = .ok res w → res.isSome = r.isSome → (match res with | some (_, v) => v | none => zu) = u →
      DenV H an (r.getD z) u → Goes S Y s.fr s.own a ms (if ok then .tup [r.getD z, .one (.d (.bool r.isSome))] else r.getD z) ((execOp a.eval o).run S.P w) := by
    intro es res u h1 h2 h3 h4 h5
    refine Goes.same h (u := if ok then .tuple #[u, .bool r.isSome] else u) ?_ ?_
    · have hck := key_check (w := w) es.isEmpty hq hk1 hkk
      have hlk : (Instr.lookup t (a.eval m) (a.eval k) ok).run S.P w = .ok (if ok then .tuple #[u, .bool r.isSome] else u) w := by
        rcases h1 with ⟨h1, rfl⟩ | ⟨b, clk, h1, hh⟩
        · simp only [Instr.lookup, Sem.run_bind, Go.run_underlying ht, Result.andThen_ok, h1, Sem.run_pure, hck]
          rw [h2]
          cases res with
          | none => simp only [Sem.run_bind, hzr, Result.andThen_ok, Sem.run_pure, ← h3, ← h4, Option.isSome_none]
          | some x => simp only [Sem.run_bind, Result.andThen_ok, Sem.run_pure, ← h3, ← h4, Option.isSome_some]
        · simp only [Instr.lookup, Sem.run_bind, Go.run_underlying ht, Result.andThen_ok, h1, run_getObj' hh (by simp), Sem.run_pure, hck]
          rw [h2]
          cases res with
          | none => simp only [Sem.run_bind, hzr, Result.andThen_ok, Sem.run_pure, ← h3, ← h4, Option.isSome_none]
          | some x => simp only [Sem.run_bind, Result.andThen_ok, Sem.run_pure, ← h3, ← h4, Option.isSome_some]
      simp only [execOp, ho, Sem.run_bind, hlk, Result.andThen_ok, Sem.run_pure]
    · cases ok with
      | true =>
        simp only [if_true]
        refine ⟨[u, .bool r.isSome], rfl, keyed_den huo h5, Den.bool _, trivial⟩
      | false => exact h5
  split at hm
  · rename_i j e1
    rw [e1] at hx
    split at hm
    · rename_i es hc
      obtain ⟨b, ents, clk, hb, hF, hh, hd⟩ := h.map hc
      have hu := own_val hb hx
      have hfk := find_key (w := w) hq hk1 es ents.toList r hd hm
      have hfa := find_asking (w := w) hq hk1 es ents.toList 0 r hd hm
      have hg : (a.eval m = .map none ∧ ents = #[]) ∨ ∃ b clk, a.eval m = .map (some b) ∧ w.heap[b]? = some (.map ents clk) := .inr ⟨b, clk, hu, hh⟩
      cases r with
      | none => exact fin ents none zu hg (hfk.trans hfa.1) rfl rfl hzd
      | some u =>
        obtain ⟨i, en, g1, g2, g3, _⟩ := hfa
        exact fin ents _ en.val hg (hfk.trans g1) rfl rfl (denV_of1 g3 huo)
    · exact hm.elim
  · rename_i e1
    rw [e1] at hx
    subst hm
    refine fin #[] none zu ?_ ?_ rfl rfl hzd
    · exact .inl ⟨den_raw hx, rfl⟩
    · have := find_key (w := w) hq hk1 [] [] none trivial rfl
      exact this
  · exact hm.elim

theorem sameBits_leaf {k : Leaf} {x y : A} {p u : Value} (hx : DenA H an x p) (hy : DenA H an y u) (he : eqL k x y = some true) (n : Nat) : Instr.sameBits n p u = true := by
  unfold eqL at he
  split at he
  · split at he
    · rename_i hk
      cases hx; cases hy
      simp at he
      subst hk; subst he
      simp [Instr.sameBits]
    · cases he
  · cases hx; cases hy
    simp at he; subst he
    simp [Instr.sameBits]
  · cases hx; cases hy
    simp at he; subst he
    simp [Instr.sameBits, bytes_beq]
  · cases he
theorem sameBits_leafs : ∀ {ks : List Leaf} {as bs : List A} {us ws : List Value}, DenAs H an as us → DenAs H an bs ws → eqLs ks as bs = some true → ∀ n, us.length = ws.length ∧ (us.zip ws).all (fun (x, y) => Instr.sameBits n x y) = true
  | [], [], [], [], [], _, _, _, n => ⟨rfl, rfl⟩
  | k :: ks, x :: as, y :: bs, p :: us, q :: ws, hx, hy, he, n => by
    simp only [eqLs] at he
    cases e1 : eqL k x y with
    | none => simp [e1] at he
    | some r1 =>
      cases e2 : eqLs ks as bs with
      | none => simp [e1, e2] at he
      | some r2 =>
        simp [e1, e2] at he
        obtain ⟨rfl, rfl⟩ := he
        obtain ⟨h1, h2⟩ := sameBits_leafs hx.2 hy.2 e2 n
        exact ⟨by simp [h1], by simp only [List.zip_cons_cons, List.all_cons, h2, sameBits_leaf hx.1 hy.1 e1 n, Bool.and_self]⟩
  | [], [], _ :: _, _, _, _, _, he, _ => by simp [eqLs] at he
  | [], _ :: _, _, _, _, _, _, he, _ => by simp [eqLs] at he
  | _ :: _, [], _, _, _, _, _, he, _ => by simp [eqLs] at he
  | _ :: _, _ :: _, [], _, _, _, _, he, _ => by simp [eqLs] at he
  | [], [], [], _ :: _, _, hx, _, _, _ => hx.elim
  | [], [], [], [], _ :: _, _, hy, _, _ => hy.elim
  | _ :: _, _ :: _, _ :: _, [], _, hx, _, _, _ => hx.elim
  | _ :: _, _ :: _, _ :: _, _ :: _, [], _, hy, _, _ => hy.elim
theorem sameBits_key {kag : Bool} {ks : List Leaf} {x y : V} {p u : Value} (hx : DenV1 H an x p) (hy : DenV1 H an y u) (he : eqV kag ks x y = some true) : Instr.sameBits 10000 p u = true := by
  unfold eqV at he
  split at he
  · cases kag with
    | true => simp at he
    | false =>
      simp only [Bool.false_eq_true, if_false] at he
      rename_i a b
      match ks, he with
      | [k], he =>
        simp only [eqLs] at he
        cases e1 : eqL k a b with
        | none => simp [e1] at he
        | some r => simp [e1] at he; subst he; exact sameBits_leaf hx hy e1 _
      | [], he => simp [eqLs] at he
      | k :: k2 :: ks, he =>
        simp only [eqLs] at he
        cases e1 : eqL k a b <;> simp [e1] at he
  · cases kag with
    | false => simp at he
    | true =>
      simp only [if_true] at he
      obtain ⟨us, rfl, hdx⟩ := hx
      obtain ⟨ws, rfl, hdy⟩ := hy
      obtain ⟨h1, h2⟩ := sameBits_leafs hdx hdy he 9999
      show Instr.sameBits (9999 + 1) _ _ = true
      unfold Instr.sameBits
      simp [h1, h2]
  · cases he

theorem eqL_symm {k : Leaf} {x y : A} (h : eqL k x y = some true) : eqL k y x = some true := by
  unfold eqL at h
  split at h
  · split at h
    · rename_i hk
      subst hk
      simp at h
      subst h
      simp [eqL]
    · cases h
  · simp at h; subst h; simp [eqL]
  · simp at h; subst h; simp [eqL]
  · cases h
theorem eqLs_symm : ∀ {ks : List Leaf} {as bs : List A}, eqLs ks as bs = some true → eqLs ks bs as = some true
  | [], [], [], _ => rfl
  | k :: ks, x :: as, y :: bs, h => by
    simp only [eqLs] at h ⊢
    cases e1 : eqL k x y with
    | none => simp [e1] at h
    | some r1 =>
      cases e2 : eqLs ks as bs with
      | none => simp [e1, e2] at h
      | some r2 =>
        simp [e1, e2] at h
        obtain ⟨rfl, rfl⟩ := h
        simp [eqL_symm e1, eqLs_symm e2]
  | [], [], _ :: _, h => by simp [eqLs] at h
  | [], _ :: _, _, h => by simp [eqLs] at h
  | _ :: _, [], _, h => by simp [eqLs] at h
  | _ :: _, _ :: _, [], h => by simp [eqLs] at h
theorem eqV_symm {kag : Bool} {ks : List Leaf} {x y : V} (h : eqV kag ks x y = some true) : eqV kag ks y x = some true := by
  unfold eqV at h
  split at h
  · cases kag with
    | true => simp at h
    | false => simp only [Bool.false_eq_true, if_false] at h; simp [eqV, eqLs_symm h]
  · cases kag with
    | false => simp at h
    | true => simp only [if_true] at h; simp [eqV, eqLs_symm h]
  · cases h

theorem all2_modify {R : V × V → MapEntry → Prop} {g : MapEntry → MapEntry} {x : V × V} : ∀ (l : List (V × V)) (m : List MapEntry) (j : Nat), All2 R l m → (∀ en, m[j]? = some en → R x (g en)) → All2 R (l.set j x) (m.modify j g)
  | [], [], j, _, _ => by simp [All2]
  | _ :: _, _ :: _, 0, h, k => by simp only [List.set_cons_zero, List.modify_zero_cons]; exact ⟨k _ rfl, h.2⟩
  | _ :: l, _ :: m, j + 1, h, k => by
    simp only [List.set_cons_succ, List.modify_succ_cons]
    exact ⟨h.1, all2_modify l m j h.2 (fun en he => k en (by simpa using he))⟩

theorem goes_mupd {t kt e : TypeId} {m k x : Operand} {q : Bool × List Leaf} {own' : List Ch} (h : SatX S Y s a w H an F ms) (ho : o.op = .mapUpdate t m k x ∨ o.op = .insert t m k x) (ht : S.P.underlying t = some (.map kt e)) (hq : keyOf S.P kt = some q)
    (hv : v = .un ∧ eqV q.1 q.2 (evO s.fr (opdOf k)) (evO s.fr (opdOf k)) ≠ none ∧ (evO s.fr (opdOf k)).ok = true ∧ (evO s.fr (opdOf x)).ok = true ∧ match evO s.fr (opdOf m) with
    | .one (.own j 0) => (match getC s.own j with
      | .map es => ∃ r, putM q.1 q.2 es (evO s.fr (opdOf k)) (evO s.fr (opdOf x)) = some r ∧ own' = setC s.own j (.map r)
      | _ => False)
    | _ => False) : Goes S Y s.fr own' a ms v ((execOp a.eval o).run S.P w) := by
  obtain ⟨rfl, hkk, hko, hxo, hv⟩ := hv
  have hm := h.ev m
  have hk1 := keyed_den hko (h.ev k)
  have hx1 := keyed_den hxo (h.ev x)
  split at hv
  · rename_i j e1
    rw [e1] at hm
    split at hv
    · rename_i es hc
      obtain ⟨r, hr, rfl⟩ := hv
      obtain ⟨b, ents, clk, hb, hF, hh, hd⟩ := h.map hc
      have hu := own_val hb hm
      have hfind : ∃ g, findV q.1 q.2 es (evO s.fr (opdOf k)) = some g := by
        clear hd hc
        induction es generalizing r with
        | nil => exact ⟨none, rfl⟩
        | cons y es ih =>
          obtain ⟨y1, y2⟩ := y
          simp only [putM] at hr
          simp only [findV]
          cases e2 : eqV q.1 q.2 (evO s.fr (opdOf k)) y1 with
          | none => simp [e2] at hr
          | some b' =>
            cases b' with
            | true => exact ⟨_, rfl⟩
            | false =>
              simp only [e2] at hr
              cases e3 : putM q.1 q.2 es (evO s.fr (opdOf k)) (evO s.fr (opdOf x)) with
              | none => simp [e3] at hr
              | some r' => exact ih r' e3
      obtain ⟨g, hg⟩ := hfind
      have hfk := find_key (w := w) hq hk1 es ents.toList g hd hg
      have hfa := find_asking (w := w) hq hk1 es ents.toList 0 g hd hg
      have hblt := (Array.getElem?_eq_some_iff.1 hh).1
      have fin : ∀ (o' : Obj) (r' : List (V × V)), (Instr.mapUpdate t (a.eval m) (a.eval k) (a.eval x)).run S.P w = .ok () { w with heap := w.heap.setIfInBounds b o' } → r = r' →
          (∃ ents' clk', o' = .map ents' clk' ∧ All2 (fun e en => DenV1 H an e.1 en.key ∧ DenV1 H an e.2 en.val) r' ents'.toList) → Goes S Y s.fr (setC s.own j (.map r)) a ms .un ((execOp a.eval o).run S.P w) := by
        rintro o' r' hrun rfl ⟨ents', clk', rfl, hall⟩
        refine ⟨.skip, undef, { w with heap := w.heap.setIfInBounds b (.map ents' clk') }, H, an, F, ?_, .inr ⟨rfl, rfl⟩, ?_, trivial⟩
        · rcases ho with ho | ho <;> simp only [execOp, ho, Sem.run_bind, hrun, Result.andThen_ok, Sem.run_pure]
        · rw [setC_eq]
          exact h.set_own hb hF (putObj_keep w b _) ⟨rfl, b, ents', clk', rfl, hF, by simp [hblt], hall⟩
      cases g with
      | none =>
        obtain ⟨g1, g2⟩ := hfa
        have hrr := g2 (evO s.fr (opdOf x))
        rw [hr] at hrr; cases hrr
        refine fin (.map (ents.push { key := a.eval k, val := a.eval x, born := clk }) (clk + 1)) _ ?_ rfl ⟨_, _, rfl, ?_⟩
        · simp only [Instr.mapUpdate, Sem.run_bind, Go.run_underlying ht, Result.andThen_ok, hu, run_getObj' hh (by simp), key_check false hq hk1 hkk, hfk, g1, run_setObj' hh (by simp)]
        · simp only [Array.toList_push]
          exact hd.append ⟨⟨hk1, hx1⟩, trivial⟩
      | some u =>
        obtain ⟨i, en, g1, g2, g3, g4, ky, g5, g6⟩ := hfa
        have hrr := g4 (evO s.fr (opdOf x))
        rw [hr] at hrr; cases hrr
        have hes : ∃ e0, es[i]? = some e0 ∧ e0.1 = ky := by
          cases e3 : es[i]? with
          | none => simp [e3] at g5
          | some e0 => simp [e3] at g5; exact ⟨e0, rfl, g5⟩
        obtain ⟨e0, he0, rfl⟩ := hes
        obtain ⟨en', hen, hd0, _⟩ := hd.get he0
        rw [g2] at hen; cases hen
        have hsb' : Instr.sameBits 10000 en.key (a.eval k) = true := sameBits_key hd0 hk1 (eqV_symm g6)
        refine fin (.map (ents.modify i fun e => { e with key := a.eval k, val := a.eval x }) clk) _ ?_ rfl ⟨_, _, rfl, ?_⟩
        · have g2' : ents[i]? = some en := by rw [← Array.getElem?_toList]; exact g2
          simp only [Instr.mapUpdate, Sem.run_bind, Go.run_underlying ht, Result.andThen_ok, hu, run_getObj' hh (by simp), key_check false hq hk1 hkk, hfk, g1, Nat.zero_add, g2', Option.map_some, Option.getD_some, Instr.keyThatStays, hsb', if_true, Sem.run_pure, run_setObj' hh (by simp)]
        · rw [Array.toList_modify]
          exact all2_modify _ _ _ hd (fun en _ => ⟨hk1, hx1⟩)
    · exact hv.elim
  · exact hv.elim
end
end Go.Fw
