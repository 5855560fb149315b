/- The framework, part 23: a function's contract out of its body. -/
import Derived.Test.YtnampnnphgedhaaDoorFwV
set_option linter.all false
namespace Go.Fw
open Go

section
variable {S : Sx} {Y : Dyn} {s : St} {a : Act} {w w' : World} {H : Heap} {an : Anc} {F : Nat → Nat → Prop} {ms : List Nat}

theorem den1_of {x : V} {u : Value} (h : DenV H an x u) (hx : ∀ l, x ≠ .tup l) : DenV1 H an x u := by
  cases x with
  | tup l => exact absurd rfl (hx l)
  | _ => exact h
theorem den_of1 {x : V} {u : Value} (h : DenV1 H an x u) : DenV H an x u := by
  cases x with
  | tup l => exact h.elim
  | _ => exact h
theorem mkV_tup {ag : Bool} {l : List A} : ∀ m, mkV ag l ≠ .tup m := by
  intro m
  unfold mkV
  split <;> simp

def resSem (ρ : Array Value) : ResultVar → Sem Value
  | .tmp t => pure (ρ.getD t undef)
  | .cell b t => do loadVar t (← asAddr (ρ.getD b undef))

theorem rsOf_cons {P : Program} {r : ResultVar} {l : List ResultVar} {m : List RV} (h : rsOf P (r :: l) = some m) : ∃ rv m', m = rv :: m' ∧ rsOf P [r] = some [rv] ∧ rsOf P l = some m' := by
  cases r with
  | tmp t =>
    simp only [rsOf, Option.map_eq_some_iff] at h
    obtain ⟨m', h1, rfl⟩ := h
    exact ⟨_, _, rfl, rfl, h1⟩
  | cell b t =>
    simp only [rsOf, Option.bind_eq_some_iff] at h
    obtain ⟨n, hn, h⟩ := h
    split at h
    · rename_i hag
      simp only [Option.map_eq_some_iff] at h
      obtain ⟨m', h1, rfl⟩ := h
      exact ⟨_, _, rfl, by simp only [rsOf, hn, Option.bind_some, Option.map_some]; rw [if_pos hag], h1⟩
    · cases h

/-- One result. -/
theorem run_res {r : ResultVar} {rv : RV} {x : V} (h : SatX S Y s a w H an F ms) (hr : rsOf S.P [r] = some [rv]) (hx : resV s rv = some x) :
    ∃ u, (resSem a.tmps r).run S.P w = .ok u w ∧ DenV1 H an x u := by
  cases r with
  | tmp t =>
    simp only [rsOf, Option.map_some, Option.some.injEq, List.cons.injEq, and_true] at hr
    subst hr
    refine ⟨a.tmps.getD t undef, by simp only [resSem, Sem.run_pure], ?_⟩
    simp only [resV] at hx
    have := h.ev (.tmp t)
    simp only [opdOf, evO, Act.eval] at this
    split at hx
    · cases hx
    · rename_i hn
      cases hx
      exact den1_of this hn
  | cell b t =>
    simp only [rsOf, Option.bind_eq_some_iff] at hr
    obtain ⟨n, hn, hr⟩ := hr
    split at hr
    · rename_i hag
      simp only [Option.map_some, Option.some.injEq, List.cons.injEq, and_true] at hr
      subst hr
      have hag' : isAggB S.P t = true ∨ n = 1 := by simpa using hag
      simp only [resV] at hx
      split at hx
      · rename_i i off e
        split at hx
        · rename_i cs hc
          split at hx
          · rename_i hle
            cases hx
            have hb := h.ev (.tmp b)
            simp only [opdOf, evO, Act.eval] at hb
            obtain ⟨g, T, vs, hg, hF, hw, hd⟩ := h.box hc
            rw [e] at hb
            have hu := h.ptr hg hb
            have hlv := hd.length
            refine ⟨if isAggB S.P t then .agg ((vs.drop off).take n).toArray else ((vs.drop off).take n).headD undef, ?_, den1_of (mkV_den ((hd.drop off).take n) (hag'.imp id fun e => by simp; omega)) mkV_tup⟩
            simp only [resSem, hu, asAddr, Sem.run_bind, Sem.run_pure, Result.andThen_ok]
            refine run_loadVar' hn hag' g off ((vs.drop off).take n) (by simp; omega) fun j q hq => ?_
            rw [cell_of_heap hw]
            rw [List.getElem?_take] at hq
            split at hq
            · rw [List.getElem?_drop] at hq; simpa using hq
            · cases hq
          · cases hx
        · cases hx
      · cases hx
    · cases hr

theorem run_resL (h : SatX S Y s a w H an F ms) : ∀ {l : List ResultVar} {m : List RV} {xs : List V}, rsOf S.P l = some m → resL s m = some xs →
    ∃ us, (l.mapM (resSem a.tmps)).run S.P w = .ok us w ∧ All2 (DenV1 H an) xs us ∧ us.length = l.length
  | [], m, xs, hr, hx => by
    simp [rsOf] at hr; subst hr
    simp [resL] at hx; subst hx
    exact ⟨[], by simp, trivial, rfl⟩
  | r :: l, m, xs, hr, hx => by
    obtain ⟨rv, m', rfl, h1, h2⟩ := rsOf_cons hr
    simp only [resL] at hx
    split at hx
    · rename_i x m hx1 hx2
      cases hx
      obtain ⟨u, hu, hd⟩ := run_res h h1 hx1
      obtain ⟨us, hus, hds, hl⟩ := run_resL h h2 hx2
      exact ⟨u :: us, by simp only [List.mapM_cons, Sem.run_bind, hu, Result.andThen_ok, hus, Sem.run_pure], ⟨hd, hds⟩, by simp [hl]⟩
    · cases hx

/-- The results. -/
theorem run_results {fn : Func} {res : V} (h : SatX S Y s a w H an F ms) (hr : rsOf S.P fn.results.toList = some S.rs) (hx : resVs s S.rs = some res) :
    ∃ u, (results fn a.tmps).run S.P w = .ok u w ∧ DenV H an res u := by
  have hres : results fn a.tmps = (do let vs ← fn.results.mapM (resSem a.tmps); pure (if h : vs.size = 1 then vs[0] else .tuple vs)) := by
    unfold results
    congr 2
  rw [hres]
  have key : ∀ (us : List Value), (fn.results.toList.mapM (resSem a.tmps)).run S.P w = .ok us w → (do let vs ← fn.results.mapM (resSem a.tmps); pure (if h : vs.size = 1 then vs[0] else .tuple vs) : Sem Value).run S.P w = .ok (if h : us.toArray.size = 1 then us.toArray[0] else .tuple us.toArray) w := by
    intro us hus
    rw [Array.mapM_eq_mapM_toList]
    simp only [Sem.run_bind, Sem.run_map, hus, Result.andThen_ok, Sem.run_pure]
  unfold resVs at hx
  split at hx
  · rename_i r hrs
    rw [hrs] at hr
    cases hl : fn.results.toList with
    | nil => rw [hl] at hr; simp [rsOf] at hr
    | cons r0 l =>
      rw [hl] at hr
      obtain ⟨rv, m', e, h1, h2⟩ := rsOf_cons hr
      cases e
      have hl0 : l = [] := by
        cases l with
        | nil => rfl
        | cons r1 l => obtain ⟨_, _, e, _⟩ := rsOf_cons h2; cases e
      subst hl0
      obtain ⟨u, hu, hd⟩ := run_res h h1 hx
      refine ⟨u, ?_, den_of1 hd⟩
      have := key [u] (by rw [hl]; simp only [List.mapM_cons, List.mapM_nil, Sem.run_bind, hu, Result.andThen_ok, Sem.run_pure])
      simpa using this
  · rename_i hne
    split at hx
    · rename_i m hm
      cases hx
      obtain ⟨us, hus, hd, hl⟩ := run_resL h hr hm
      have hlen : us.length ≠ 1 := by
        intro e
        have : S.rs.length = 1 := by
          have : ∀ {l : List ResultVar} {m : List RV}, rsOf S.P l = some m → m.length = l.length := by
            intro l
            induction l with
            | nil => intro m h; simp [rsOf] at h; subst h; rfl
            | cons r l ih => intro m h; obtain ⟨rv, m', rfl, h1, h2⟩ := rsOf_cons h; simp [ih h2]
          rw [this hr, ← hl, e]
        match hrs : S.rs, this with
        | [r], _ => exact hne r hrs
      refine ⟨_, key us hus, ?_⟩
      rw [dif_neg (by simpa using hlen)]
      exact ⟨us, rfl, hd⟩
    · cases hx

/-- The marks are taken. -/
theorem SatX.unmark {r : Nat} (h : SatX S Y s a w H an F (r :: ms)) {a' : Act} (ha : a'.tmps = a.tmps) (hd : a'.defers = ms.map mark) :
    SatX S Y s a' { w with heap := w.heap.setIfInBounds r (.deferred none) } H an F ms := by
  obtain ⟨h1, h2, h3, h4⟩ := h.mks r (by simp)
  have hnd := List.nodup_cons.1 h.nd
  have keep : ∀ b, b ≠ r → (w.heap.setIfInBounds r (.deferred none))[b]? = w.heap[b]? := fun b hb => by
    rw [Array.getElem?_setIfInBounds, if_neg (fun e => hb e.symm)]
  refine ⟨h.gp, h.h0, ?_, by rw [ha]; exact h.fr, h.anc, ?_, h.fl, ?_, h.dj, h.hn, ?_, h.os, h.tape, h.output, by simpa using h.size, hd, ?_, hnd.2, h.al, h.npl, h.ro⟩
  · intro b o hb
    exact (keep b (fun e => by subst e; rw [h2] at hb; cases hb)).trans (h.mod b o hb)
  · intro i c hc
    obtain ⟨p, hp, hs⟩ := h.own i c hc
    exact ⟨p, hp, hs.keep (Heap.Le.refl _) (Anc.Le.refl _) fun x hx => keep x (fun e => by subst e; exact h4 i hx)⟩
  · intro i b hb
    obtain ⟨g1, g2, g3⟩ := h.fp i b hb
    exact ⟨by simpa using g1, g2, g3⟩
  · intro b hb
    obtain ⟨g1, g2⟩ := h.ub b hb
    exact ⟨g1, (keep b (fun e => by subst e; exact h3 hb)).trans g2⟩
  · intro q hq
    obtain ⟨g1, g2, g3, g4⟩ := h.mks q (by simp [hq])
    exact ⟨(keep q (fun e => by subst e; exact hnd.1 hq)).trans g1, g2, g3, g4⟩

theorem leaves_marks {fn : Func} {R : Ending → World → Prop} (hR : ∀ a' w' F', a'.tmps = a.tmps → SatX S Y s a' w' H an F' [] → ∃ v, (results fn a.tmps).run S.P w' = .ok v w' ∧ R (.returned v) w') :
    ∀ (ms : List Nat) (w : World) (a' : Act) (F : Nat → Nat → Prop), a'.tmps = a.tmps → SatX S Y s a' w H an F ms → LeavesInM Fence.wide 0 S.P fn a.tmps R (ms.map mark) .returning w
  | [], w, a', F, ha, h => hR a' w F ha h
  | r :: ms, w, a', F, ha, h => by
    refine ⟨by simp, .inl ⟨r, _, rfl, ?_, leaves_marks hR ms _ ⟨a.tmps, ms.map mark⟩ F rfl (h.unmark ha.symm rfl)⟩⟩
    obtain ⟨h1, _⟩ := h.mks r (by simp)
    simp only [Instr.takeDeferred, Sem.run_bind, run_getObj' h1 (by simp), Result.andThen_ok, run_setObj' h1 (by simp), Sem.run_pure]

/-- Without memory of its own a value stands by itself. -/
theorem refs0_cut {bn : Anc} {x : A} {u : Value} (h : DenA0 H an x u) (hr : x.refs0 = []) : DenA0 H bn x u := by
  cases x <;> first | exact h | (simp [A.refs0] at hr; done)
theorem refs0s_cut {bn : Anc} : ∀ {xs : List A} {us : List Value}, All2 (DenA0 H an) xs us → xs.flatMap A.refs0 = [] → All2 (DenA0 H bn) xs us
  | [], [], _, _ => trivial
  | x :: xs, u :: us, h, hr => by
    simp only [List.flatMap_cons, List.append_eq_nil_iff] at hr
    exact ⟨refs0_cut h.1 hr.1, refs0s_cut h.2 hr.2⟩
theorem refs_cut {bn : Anc} {x : A} {u : Value} (h : DenA H an x u) (hr : x.refs = []) : DenA H bn x u := by
  cases x with
  | clo f caps => obtain ⟨vs, e, hv⟩ := h; exact ⟨vs, e, refs0s_cut hv hr⟩
  | mvo f ag rcv =>
    cases ag with
    | false => obtain ⟨v, e, hv⟩ := h; exact ⟨v, e, refs0s_cut hv hr⟩
    | true => obtain ⟨vs, e, hv⟩ := h; exact ⟨vs, e, refs0s_cut hv hr⟩
  | ifo t a => obtain ⟨v, e, hv⟩ := h; exact ⟨v, e, refs0_cut hv hr⟩
  | d x => exact h
  | nil => exact h
  | un => trivial
  | own i ver => simp [A.refs, A.refs0] at hr
  | ptr i off => simp [A.refs, A.refs0] at hr
  | rp i ver sz e off => simp [A.refs, A.refs0] at hr
theorem refsA_cut {bn : Anc} : ∀ {xs : List A} {us : List Value}, DenAs H an xs us → xs.flatMap A.refs = [] → DenAs H bn xs us
  | [], [], _, _ => trivial
  | x :: xs, u :: us, h, hr => by
    simp only [List.flatMap_cons, List.append_eq_nil_iff] at hr
    exact ⟨refs_cut h.1 hr.1, refsA_cut h.2 hr.2⟩
theorem refsV1_cut {bn : Anc} {x : V} {u : Value} (h : DenV1 H an x u) (hr : x.refs = []) : DenV1 H bn x u := by
  cases x with
  | one a => exact refs_cut (x := a) h hr
  | agg l => obtain ⟨vs, e, hv⟩ := h; exact ⟨vs, e, refsA_cut hv hr⟩
  | tup l => exact h
  | un => trivial
theorem refsVs_cut {bn : Anc} : ∀ {xs : List V} {us : List Value}, All2 (DenV1 H an) xs us → xs.flatMap V.refs = [] → All2 (DenV1 H bn) xs us
  | [], [], _, _ => trivial
  | x :: xs, u :: us, h, hr => by
    simp only [List.flatMap_cons, List.append_eq_nil_iff] at hr
    exact ⟨refsV1_cut h.1 hr.1, refsVs_cut h.2 hr.2⟩
theorem refsT_cut {bn : Anc} {x : V} {u : Value} (h : DenV H an x u) (hr : x.refsT = []) : DenV H bn x u := by
  cases x with
  | tup l => obtain ⟨vs, e, hv⟩ := h; exact ⟨vs, e, refsVs_cut hv hr⟩
  | one a => exact refsV1_cut (x := .one a) h hr
  | agg l => exact refsV1_cut (x := .agg l) h hr
  | un => trivial

theorem uns_den : ∀ (n : Nat), All2 (DenV H an) (List.replicate n V.un) (List.replicate n undef)
  | 0 => trivial
  | n + 1 => ⟨trivial, uns_den n⟩

/-- A FUNCTION's CONTRACT. -/
theorem tri_intro {P : Program} {gp : Heap} {f : FuncId} {fn : Func} {c : Code} {m : MC} {rs : List RV} {hs : List Nat} {args : List V} {pre : List Ch} {R : V → List Ch → Prop}
    (hf : P.funcs[f]? = some fn) (hb : fn.body = some c) (ht : trC P hs c = some m) (hr : rsOf P fn.results.toList = some rs)
    (h : G ⟨P, gp, pre.length, rs, R, false⟩ [.code m, .fin] ⟨args ++ List.replicate (fn.ntmps - args.length) .un, pre⟩) : Tri P gp f args pre R := by
  intro H w an F vs hgp hmod hanc hown hF hdj hargs
  refine (callsIn_wide (n := 0)).1 ?_
  refine callsIn_of_wp_marks (n := 0) hf hb trivial ?_
  let Y : Dyn := ⟨H, an, fun b => b < w.heap.size ∧ ¬ ∃ i, F i b, w, none⟩
  have hsat : SatX ⟨P, gp, pre.length, rs, R, false⟩ Y ⟨args ++ List.replicate (fn.ntmps - args.length) .un, pre⟩ { tmps := vs.toArray ++ Array.replicate (fn.ntmps - vs.toArray.size) undef, defers := [] } w H an F [] := by
    refine ⟨hgp, Heap.Le.refl _, hmod, ?_, hanc, hown, fun i b hb => (hF i b hb).1, fun i b hb => ⟨(hF i b hb).2.1, (hF i b hb).2.2, fun hu => hu.2 ⟨i, hb⟩⟩, hdj, fun b o hb => .inl hb, fun b hb => ⟨hb.1, rfl⟩, rfl, rfl, rfl, Nat.le_refl _, rfl, by simp, by simp, Anc.Le.refl _, fun i p hp => (hanc i).1 ⟨p, hp⟩, .inr rfl⟩
    have := hargs.append (uns_den (H := H) (an := an) (fn.ntmps - args.length))
    rw [hargs.length] at this ⊢
    simpa using this
  have hG := h Y _ w ⟨H, an, F, [], hsat⟩ hs c ht
  refine wpIn_mono hG ?_
  intro e a' w' hm
  obtain ⟨he, s', res, ⟨H', an', F', ms, hs'⟩, hres, hR⟩ := hm
  have hleave : LeavesInM Fence.wide 0 P fn a'.tmps (fun e w' => ∃ (v : Value) (res : V) (post : List Ch) (H' : Heap) (an' : Anc) (F' : Nat → Nat → Prop), e = .returned v ∧ R res post ∧
      WKeep w w' (fun b => ∃ i, F i b) ∧ Heap.Le H H' ∧ Models w' H' ∧ (∀ b o, H' b = some o → H b = some o ∨ w.heap.size ≤ b ∨ ∃ i, F i b) ∧
      Anc.Le an an' ∧ (∀ i, (∃ p, an' i = some p) ↔ i < post.length) ∧ (∀ i c, post[i]? = some c → ∃ p, an' i = some p ∧ SatCh H' an' w' c p (F' i)) ∧
      (∀ i b, F' i b → i < post.length ∧ b < w'.heap.size ∧ H' b = none ∧ (w.heap.size ≤ b ∨ ∃ j, F j b)) ∧ (∀ i j b, F' i b → F' j b → i = j) ∧ DenV H' an' res v) a'.defers .returning w' := by
    rw [hs'.df]
    refine leaves_marks (S := ⟨P, gp, pre.length, rs, R, false⟩) (Y := Y) (s := s') ?_ ms w' a' F' rfl hs'
    intro a2 w2 F2 ha2 h2
    obtain ⟨u, hu, hd⟩ := run_results h2 hr hres
    rw [ha2] at hu
    refine ⟨u, hu, u, res.nrm2, ?_⟩
    have hwk : WKeep w w2 (fun b => ∃ i, F i b) := ⟨h2.os, h2.tape, h2.output, h2.size, fun b hb hn => (h2.ub b ⟨hb, hn⟩).2⟩
    have hnew : ∀ b o, H' b = some o → H b = some o ∨ w.heap.size ≤ b ∨ ∃ i, F i b := fun b o hb => by
      rcases h2.hn b o hb with h3 | h3
      · exact .inl h3
      · by_cases hlt : b < w.heap.size
        · exact .inr (.inr (Classical.byContradiction fun hn => h3 ⟨hlt, hn⟩))
        · exact .inr (.inl (by omega))
    have hmay : ∀ i b, F2 i b → w.heap.size ≤ b ∨ ∃ j, F j b := fun i b hb => by
      have := (h2.fp i b hb).2.2
      by_cases hlt : b < w.heap.size
      · exact .inr (Classical.byContradiction fun hn => this ⟨hlt, hn⟩)
      · exact .inl (by omega)
    rcases hR with hR | ⟨hnp, hrefs, hR⟩
    · refine ⟨s'.own, H', an', F2, rfl, hR, hwk, h2.h0, h2.mod, hnew, h2.al, h2.anc, h2.own, fun i b hb => ?_, h2.dj, hd.nrm2⟩
      obtain ⟨g1, g2, _⟩ := h2.fp i b hb
      exact ⟨h2.fl i b hb, g1, g2, hmay i b hb⟩
    · refine ⟨[], H', fun _ => none, fun _ _ => False, rfl, hR, hwk, h2.h0, h2.mod, hnew, ⟨fun i p hp => ?_⟩, by simp, by simp, by simp, by simp, (refsT_cut hd hrefs).nrm2⟩
      have := (hanc i).1 ⟨p, hp⟩
      have hnp' : pre.length = 0 := hnp
      omega
  rcases he with rfl | rfl <;> exact hleave

/-- A function of data. -/
theorem does_intro {P : Program} {gp : Heap} {f : FuncId} {fn : Func} {c : Code} {m : MC} {rs : List RV} {hs : List Nat} {args : List V} {res : V}
    (hc : callable P f = true) (hf : P.funcs[f]? = some fn) (hb : fn.body = some c) (ht : trC P hs c = some m) (hr : rsOf P fn.results.toList = some rs)
    (h : G ⟨P, gp, 0, rs, fun r c => r = res ∧ c = [], false⟩ [.code m, .fin] ⟨args ++ List.replicate (fn.ntmps - args.length) .un, []⟩) : Does P gp f args res := ⟨hc, tri_intro hf hb ht hr h⟩
end
end Go.Fw
