/- The framework, part 16: an operation's step in the model; regions in the text's order. -/
import Derived.Test.YtnampnnphgedhaaDoorFwO
set_option linter.all false
namespace Go.Fw
open Go

section
variable {S : Sx} {Y : Dyn} {s : St} {a : Act} {w w' : World} {H : Heap} {an : Anc} {F : Nat → Nat → Prop} {ms : List Nat} {o : Oper} {v : V}

theorem run_callFunc {P : Program} {f : FuncId} (h : callable P f = true) (args : Array Value) : (callFunc f args).run P w = .ok (.enter f args) w := by
  unfold callable at h
  cases hf : P.funcs[f]? with
  | none => simp [hf] at h
  | some fn =>
    simp [hf] at h
    have hb : fn.body.isNone = false := by cases e : fn.body <;> simp_all
    simp only [callFunc, Sem.run_bind, run_program, Result.andThen_ok, hf]
    simp [h.2, hb]

theorem evs_den (h : SatX S Y s a w H an F ms) : ∀ l : List Operand, All2 (DenV H an) (l.map fun x => evO s.fr (opdOf x)) (l.map a.eval)
  | [] => trivial
  | x :: l => ⟨h.ev x, evs_den h l⟩

theorem uponIn_goes {own' : List Ch} {next : Act → World → Prop} {Q : Exit → Act → World → Prop} {r : Result Next} (hg : Goes S Y s.fr own' a ms v r)
    (hn : ∀ a' w', Sat S Y ⟨putV s.fr o.dst v, own'⟩ a' w' → next a' w') : o.uponIn (fence Y.round) 0 S.P a next Q r := by
  obtain ⟨x, u, w', H', an', F', rfl, hx, hs, hd⟩ := hg
  have := hn _ _ ⟨H', an', F', ms, hs.put o.dst hd⟩
  rcases hx with rfl | ⟨rfl, rfl⟩ <;> exact this

theorem uponIn_call {f : FuncId} {args : List V} {vs : List Value} {next : Act → World → Prop} {Q : Exit → Act → World → Prop} (h : SatX S Y s a w H an F ms) (hc : CallV S f args s.own v) (ha : All2 (DenV H an) args vs)
    (hn : ∀ a' w', Sat S Y ⟨putV s.fr o.dst v, s.own⟩ a' w' → next a' w') : o.uponIn (fence Y.round) 0 S.P a next Q ((callFunc f vs.toArray).run S.P w) := by
  obtain ⟨hcal, hcalls⟩ := call_sound h hc ha
  rw [run_callFunc hcal, Oper.uponIn_enter]
  refine ⟨fun hd => by simp [fence, Fence.wide] at hd, trivial, fun cs _ => ?_⟩
  obtain ⟨e, w', fr, ⟨u, H', rfl, hs, hd⟩, h2, h3, h4⟩ := hcalls cs
  refine ⟨.returned u, w', fr, hn _ _ ⟨H', an, F, ms, hs.put o.dst hd⟩, ?_, h3, h4⟩
  exact (StepsIn.of_steps h2).mono fun m _ => (fenced_wide S.P m : Machine.fenced S.P Fence.wide m)

theorem uponIn_callm {f : FuncId} {args : List V} {vs : List Value} {j : Nat} {v0 : V} {c' : Ch} {next : Act → World → Prop} {Q : Exit → Act → World → Prop} (h : SatX S Y s a w H an F ms) (hc : CallM S f args s.own j v0 c') (ha : All2 (DenV H an) args vs)
    (hn : ∀ a' w', Sat S Y ⟨putV s.fr o.dst (backV j v0), setC s.own j c'⟩ a' w' → next a' w') : o.uponIn (fence Y.round) 0 S.P a next Q ((callFunc f vs.toArray).run S.P w) := by
  obtain ⟨hcal, hcalls⟩ := callm_sound h hc ha
  rw [run_callFunc hcal, Oper.uponIn_enter]
  refine ⟨fun hd => by simp [fence, Fence.wide] at hd, trivial, fun cs _ => ?_⟩
  obtain ⟨e, w', fr, ⟨u, H', an', F', rfl, hs, hd⟩, h2, h3, h4⟩ := hcalls cs
  refine ⟨.returned u, w', fr, hn _ _ ⟨H', an', F', ms, hs.put o.dst hd⟩, ?_, h3, h4⟩
  exact (StepsIn.of_steps h2).mono fun m _ => (fenced_wide S.P m : Machine.fenced S.P Fence.wide m)

theorem uponIn_calla {f : FuncId} {args : List V} {vs : List Value} {own1 : List Ch} {next : Act → World → Prop} {Q : Exit → Act → World → Prop} (h : SatX S Y s a w H an F ms) (hc : CallA S f args s.own v own1) (ha : All2 (DenV H an) args vs)
    (hn : ∀ a' w', Sat S Y ⟨putV s.fr o.dst v, own1 ++ [.dead]⟩ a' w' → next a' w') : o.uponIn (fence Y.round) 0 S.P a next Q ((callFunc f vs.toArray).run S.P w) := by
  obtain ⟨hcal, hcalls⟩ := calla_sound h hc ha
  rw [run_callFunc hcal, Oper.uponIn_enter]
  refine ⟨fun hd => by simp [fence, Fence.wide] at hd, trivial, fun cs _ => ?_⟩
  obtain ⟨e, w', fr, ⟨u, H', an', F', rfl, hs, hd⟩, h2, h3, h4⟩ := hcalls cs
  refine ⟨.returned u, w', fr, hn _ _ (Sat.add_dead (s := ⟨putV s.fr o.dst v, own1⟩) ⟨H', an', F', ms, hs.put o.dst hd⟩), ?_, h3, h4⟩
  exact (StepsIn.of_steps h2).mono fun m _ => (fenced_wide S.P m : Machine.fenced S.P Fence.wide m)

theorem setPs_den : ∀ (ps : List Nat) (fr args : List V) (tmps : Array Value) (vs : List Value), All2 (DenV H an) fr tmps.toList → All2 (DenV H an) args vs → args.length = ps.length →
    All2 (DenV H an) (setPs fr ps args) ((ps.zip vs).foldl (fun tmps (p : Nat × Value) => tmps.setIfInBounds p.1 p.2) tmps).toList
  | [], fr, args, tmps, vs, h, _, _ => by cases args <;> cases vs <;> exact h
  | p :: ps, fr, [], tmps, vs, _, _, hl => by simp at hl
  | p :: ps, fr, v :: args, tmps, [], _, h, _ => h.elim
  | p :: ps, fr, v :: args, tmps, u :: vs, h, ha, hl => by
    simp only [setPs, List.zip_cons_cons, List.foldl_cons]
    refine setPs_den ps _ args _ vs ?_ ha.2 (by simpa using hl)
    have := All2_setV fr tmps.toList p v u h ha.1
    simpa using this

/-- Yield is called: one round. -/
theorem uponIn_yield {l : Nat} {args : List V} {vs : List Value} {own1 : List Ch} {b : Bool} {next : Act → World → Prop} {Q : Exit → Act → World → Prop} (h : SatX S Y s a w H an F ms) (hr : RoundOK S l args s.own own1 b) (ha : All2 (DenV H an) args vs)
    (hn : ∀ a' w', Sat S Y ⟨putV s.fr o.dst (.one (.d (.bool b))), own1 ++ [.dead]⟩ a' w' → next a' w') : o.uponIn (fence Y.round) 0 S.P a next Q ((Instr.yield l vs.toArray).run S.P w) := by
  obtain ⟨i, fr, rc, hs, ma, mb, own2, jump, hc, hlen, hta, htb, hG, hd, rfl⟩ := hr
  have hi := getC_some hc (by simp)
  obtain ⟨p, hp, hF, hw, hfr⟩ := h.own i _ hi
  have hil := (List.getElem?_eq_some_iff.1 hi).1
  have hFl : F i l := (hF l).2 rfl
  obtain ⟨hlw, hHl, hUl⟩ := h.fp i l hFl
  rw [run_yield hw (by rw [List.size_toArray, ← ha.length, hlen]), Oper.uponIn_round]
  refine ⟨fun hd => by simp [fence, Fence.wide] at hd, roundIn_of_wpIn trivial ?_⟩
  -- the assignments
  let U : Nat → Prop := fun x => x < w.heap.size ∧ ¬ ∃ j, j ≠ i ∧ F j x
  have hU : U l := ⟨hlw, fun ⟨j, hj, hx⟩ => hj (h.dj j i l hx hFl)⟩
  let F3 : Nat → Nat → Prop := fun j x => j ≠ i ∧ F j x
  have hs3 : SatX (rndS S s.own.length) ⟨H, an, U, w, some l⟩ ⟨setPs fr rc.params.toList args, setC s.own i .dead⟩
      { tmps := (rc.params.zip vs.toArray).foldl (fun tmps (p : Nat × Value) => tmps.setIfInBounds p.1 p.2) rc.tmps, defers := [] } w H an F3 [] := by
    refine ⟨h.gp, Heap.Le.refl _, h.mod, ?_, ?_, ?_, ?_, ?_, ?_, fun x o hx => .inl hx, fun x hx => ⟨hx.1, rfl⟩, rfl, rfl, rfl, Nat.le_refl _, rfl, by simp, by simp, Anc.Le.refl _, fun j p hp => (h.anc j).1 ⟨p, hp⟩, .inl rfl⟩
    · have := setPs_den (H := H) (an := an) rc.params.toList fr args rc.tmps vs hfr ha (by simpa using hlen)
      have e : (rc.params.zip vs.toArray).foldl (fun tmps (p : Nat × Value) => tmps.setIfInBounds p.1 p.2) rc.tmps = (rc.params.toList.zip vs).foldl (fun tmps (p : Nat × Value) => tmps.setIfInBounds p.1 p.2) rc.tmps := by
        rw [← Array.foldl_toList, Array.toList_zip]
      rw [e]
      exact this
    · intro j; rw [setC_eq, List.length_set]; exact h.anc j
    · intro j c hc
      rw [setC_eq, List.getElem?_set] at hc
      split at hc
      · rename_i e
        subst e
        cases hc
        exact ⟨p, hp, fun x hx => hx.1 rfl⟩
      · rename_i e
        obtain ⟨q, hq, hsc⟩ := h.own j c hc
        refine ⟨q, hq, ?_⟩
        have : F3 j = F j := by funext x; simp [F3, Ne.symm e]
        rw [this]; exact hsc
    · intro j x hx; rw [setC_eq, List.length_set]; exact h.fl j x hx.2
    · intro j x hx
      obtain ⟨g1, g2, _⟩ := h.fp j x hx.2
      exact ⟨g1, g2, fun hu => hu.2 ⟨j, hx⟩⟩
    · intro j j' x hx hx'; exact h.dj j j' x hx.2 hx'.2
  have hA := hG ⟨H, an, U, w, some l⟩ _ w ⟨_, _, _, _, hs3⟩ hs rc.assign hta
  refine wpIn_mono hA ?_
  rintro e a1 w1 ⟨_, s1, ⟨H1, an1, F1, ms1, hs1⟩, rfl, hG2⟩
  -- the record is busy
  have hl1 : w1.heap[l]? = some (.loop { rc with state := .ready, pending := none }) := (hs1.ub l hU).2.trans hw
  have hl1s : l < w1.heap.size := (Array.getElem?_eq_some_iff.1 hl1).1
  have hH1 : H1 l = none := by
    cases e : H1 l with
    | none => rfl
    | some o =>
      rcases hs1.hn l o e with g | g
      · have g' : H l = some o := g
        rw [hHl] at g'; cases g'
      · exact absurd hU g
  refine ⟨_, run_beginRound hl1 rfl, ?_⟩
  generalize hw1' : w1.putObj l (.loop { ({ rc with state := .ready, pending := none } : Loop) with state := .busy }) = w1'
  have hoth : ∀ x, x ≠ l → w1'.heap[x]? = w1.heap[x]? := fun x hx => by rw [← hw1']; exact World.putObj_heap_other (fun e => hx e)
  have hsame : w1'.heap[l]? = some (.loop { ({ rc with state := .ready, pending := none } : Loop) with state := .busy }) := by rw [← hw1']; exact World.putObj_heap_same hl1s
  have hsz : w1'.heap.size = w1.heap.size := by rw [← hw1']; simp [World.putObj]
  have hk1 : WKeep w w1 (fun x => ¬ U x) := ⟨hs1.os, hs1.tape, hs1.output, hs1.size, fun x hx hn => (hs1.ub x (Classical.not_not.1 hn)).2⟩
  have hF1l : ∀ j x, F1 j x → x ≠ l := fun j x hx e => (hs1.fp j x hx).2.2 (e ▸ hU)
  have hs4 : SatX (rndS S s.own.length) ⟨H, an, U, w1', some l⟩ s1 a1 w1' H1 an1 F1 ms1 := by
    refine ⟨hs1.gp, hs1.h0, ?_, hs1.fr, hs1.anc, ?_, hs1.fl, ?_, hs1.dj, hs1.hn, ?_, rfl, rfl, rfl, Nat.le_refl _, hs1.df, ?_, hs1.nd, hs1.al, hs1.npl, .inl rfl⟩
    · intro x o hx
      have hxl : x ≠ l := fun e => by rw [e, hH1] at hx; cases hx
      rw [hoth x hxl]; exact hs1.mod x o hx
    · intro j c hc
      obtain ⟨q, hq, hsc⟩ := hs1.own j c hc
      exact ⟨q, hq, hsc.keep (Heap.Le.refl _) (Anc.Le.refl _) fun x hx => hoth x (hF1l j x hx)⟩
    · intro j x hx
      obtain ⟨g1, g2, g3⟩ := hs1.fp j x hx
      exact ⟨by rw [hsz]; exact g1, g2, g3⟩
    · intro x hx
      exact ⟨by show x < w1'.heap.size; rw [hsz]; exact Nat.lt_of_lt_of_le hx.1 hs1.size, rfl⟩
    · intro r hr
      obtain ⟨g1, g2, g3, g4⟩ := hs1.mks r hr
      have hrl : r ≠ l := fun e => by rw [e, hl1] at g1; cases g1
      exact ⟨by rw [hoth r hrl]; exact g1, g2, g3, g4⟩
  have hB := hG2 ⟨H, an, U, w1', some l⟩ a1 w1' ⟨_, _, _, _, hs4⟩ hs rc.body htb
  refine wpIn_mono hB ?_
  rintro e a2 w2 ⟨_, s2, ⟨H2, an2, F2, ms2, hs2⟩, hend, rfl⟩
  have hl2 : w2.heap[l]? = some (.loop { ({ rc with state := .ready, pending := none } : Loop) with state := .busy }) := (hs2.ub l hU).2.trans hsame
  have hl2s : l < w2.heap.size := (Array.getElem?_eq_some_iff.1 hl2).1
  have hH2 : H2 l = none := by
    cases e : H2 l with
    | none => rfl
    | some o =>
      rcases hs2.hn l o e with g | g
      · have g' : H l = some o := g
        rw [hHl] at g'; cases g'
      · exact absurd hU g
  have hF2l : ∀ j x, F2 j x → x ≠ l := fun j x hx e => (hs2.fp j x hx).2.2 (e ▸ hU)
  have fin : ∃ v w', (Instr.endRound l jump).run S.P w2 = .ok v w' ∧ next (a.put o.dst v) w' ∧ v = .bool b := by
    have hjb : b = jump.isNone := by
      cases e <;> first | exact hend.elim | (obtain ⟨rfl, rfl⟩ := hend; rfl)
    refine ⟨_, _, run_endRound jump hl2, ?_, by rw [hjb]⟩
    generalize hw3 : w2.putObj l (.loop { ({ ({ rc with state := .ready, pending := none } : Loop) with state := .busy } : Loop) with state := if jump.isNone then .ready else .done, pending := jump }) = w3
    have hoth3 : ∀ x, x ≠ l → w3.heap[x]? = w2.heap[x]? := fun x hx => by rw [← hw3]; exact World.putObj_heap_other (fun e => hx e)
    have hsame3 : w3.heap[l]? = some (.loop { rc with state := if jump.isNone then .ready else .done, pending := jump }) := by rw [← hw3]; exact World.putObj_heap_same hl2s
    have hsz3 : w3.heap.size = w2.heap.size := by rw [← hw3]; simp [World.putObj]
    have hle : w.heap.size ≤ w2.heap.size := Nat.le_trans hs1.size (by rw [← hsz]; exact hs2.size)
    have hi2 : i < s2.own.length := by
      obtain ⟨q, hq, _⟩ := hs2.al.same i p hp
      exact (hs2.anc i).1 ⟨q, hq⟩
    have hF2i : ∀ x, ¬ F2 i x := by
      have hget : ∀ (l : List Ch) (i : Nat), i < l.length → l[i]? = some (getC l i) := by
        intro l
        induction l with
        | nil => intro i hi; simp at hi
        | cons c l ih =>
          intro i hi
          cases i with
          | zero => rfl
          | succ i => simpa [getC] using ih i (by simpa using hi)
      have := hget _ _ hi2
      rw [hd] at this
      obtain ⟨_, _, g⟩ := hs2.own i _ this
      exact g
    have hev := h.evolve (own' := setC s2.own i (.lp l fr rc (if jump.isNone then .ready else .done) jump)) (w' := w3) (H' := H2) (an' := an2) (F' := fun j x => if j = i then x = l else F2 j x) (may := fun x => ∃ j, F j x)
      ⟨by rw [← hw3]; exact hs2.os.trans (by rw [← hw1']; exact hs1.os), by rw [← hw3]; exact hs2.tape.trans (by rw [← hw1']; exact hs1.tape), by rw [← hw3]; exact hs2.output.trans (by rw [← hw1']; exact hs1.output), by rw [hsz3]; exact hle, fun x hx hn => by
        have hxl : x ≠ l := fun e => hn ⟨i, e ▸ hFl⟩
        have hux : U x := ⟨hx, fun ⟨j, _, hj⟩ => hn ⟨j, hj⟩⟩
        rw [hoth3 x hxl, (hs2.ub x hux).2]
        show w1'.heap[x]? = _
        rw [hoth x hxl, (hs1.ub x hux).2]⟩
      (fun x hx => hx) hs2.h0 (fun x o hx => by
        have hxl : x ≠ l := fun e => by rw [e, hH2] at hx; cases hx
        rw [hoth3 x hxl]; exact hs2.mod x o hx) (fun x o hx => by
        rcases hs2.hn x o hx with g | g
        · exact .inl g
        · by_cases hlt : x < w.heap.size
          · refine .inr (.inr (Classical.byContradiction fun hn => g ⟨hlt, fun ⟨j, _, hj⟩ => hn ⟨j, hj⟩⟩))
          · exact .inr (.inl (by omega))) hs2.al (fun j => by rw [setC_eq, List.length_set]; exact hs2.anc j) (fun j c hc => by
        rw [setC_eq, List.getElem?_set] at hc
        split at hc
        · rename_i e
          subst e
          cases hc
          obtain ⟨q, hq⟩ := (hs2.anc i).2 hi2
          exact ⟨q, hq, fun x => by simp, hsame3, All2.mono (fun _ _ => DenV.mono hs2.h0 hs2.al) hfr⟩
        · rename_i e
          obtain ⟨q, hq, hsc⟩ := hs2.own j c hc
          refine ⟨q, hq, ?_⟩
          have := hsc.keep (w' := w3) (Heap.Le.refl _) (Anc.Le.refl _) fun x hx => hoth3 x (hF2l j x hx)
          simpa [Ne.symm e] using this) (fun j x hx => by
        rw [setC_eq, List.length_set]
        by_cases e : j = i
        · simp only [if_pos e] at hx
          subst hx
          exact ⟨by omega, by rw [hsz3]; exact hl2s, hH2, .inr ⟨i, hFl⟩⟩
        · simp only [if_neg e] at hx
          obtain ⟨g1, g2, g3⟩ := hs2.fp j x hx
          refine ⟨hs2.fl j x hx, by rw [hsz3]; exact g1, g2, ?_⟩
          by_cases hlt : x < w.heap.size
          · exact .inr (Classical.byContradiction fun hn => g3 ⟨hlt, fun ⟨j, _, hj⟩ => hn ⟨j, hj⟩⟩)
          · exact .inl (by omega)) (fun j j' x hx hx' => by
        by_cases e : j = i <;> by_cases e' : j' = i
        · omega
        · simp only [if_pos e] at hx; simp only [if_neg e'] at hx'
          exact absurd hx (hF2l j' x hx')
        · simp only [if_pos e'] at hx'; simp only [if_neg e] at hx
          exact absurd hx' (hF2l j x hx)
        · simp only [if_neg e] at hx; simp only [if_neg e'] at hx'
          exact hs2.dj j j' x hx hx')
    refine hn _ _ (Sat.add_dead (s := ⟨putV s.fr o.dst (.one (.d (.bool b))), _⟩) ⟨_, _, _, _, hev.put o.dst (v := .one (.d (.bool b))) (u := .bool jump.isNone) ?_⟩)
    rw [hjb]; exact Den.bool _
  obtain ⟨v, w', hrun, hnext, _⟩ := fin
  cases e with
  | normal => obtain ⟨_, rfl⟩ := hend; exact ⟨v, w', hrun, hnext⟩
  | ret => obtain ⟨_, rfl⟩ := hend; exact ⟨v, w', hrun, hnext⟩
  | exit id => obtain ⟨_, rfl⟩ := hend; exact ⟨v, w', hrun, hnext⟩
  | goto t => exact hend.elim
  | panic c => exact hend.elim
  | outgrown => exact hend.elim

/-- What a called value is. -/
theorem callee_den {g x : V} {u : Value} {args l : List V} {vs : List Value} {f : FuncId} (hg : DenV H an g u) (ha : All2 (DenV H an) args vs) (hl : calleeV g args = some (f, l)) :
    ∃ first caps us, u = .func (.func f) first caps ∧ (first ++ vs.toArray ++ caps) = us.toArray ∧ All2 (DenV H an) l us := by
  unfold calleeV at hl
  split at hl <;> cases hl
  · rename_i caps
    cases hg with
    | fn _ _ ws hlen hd =>
      refine ⟨#[], ws.toArray, vs ++ ws, rfl, by simp, ha.append ?_⟩
      refine All2.of_get (by simpa using hlen.symm) fun i x v hx hv => ?_
      simp only [List.getElem?_map, Option.map_eq_some_iff] at hx
      obtain ⟨y, hy, rfl⟩ := hx
      exact hd i y v hy hv
  · rename_i y
    cases hg with
    | mvV _ _ v hd => exact ⟨#[v], #[], v :: vs, rfl, by simp, hd, ha⟩
  · rename_i cs
    cases hg with
    | mvA _ _ ws hlen hd =>
      refine ⟨#[.agg ws.toArray], #[], .agg ws.toArray :: vs, rfl, by simp, ⟨ws, rfl, Dens.den_d (All2.of_get hlen.symm hd)⟩, ha⟩
  · rename_i caps
    obtain ⟨ws, rfl, hw⟩ := hg
    refine ⟨#[], ws.toArray, vs ++ ws, rfl, by simp, ha.append ?_⟩
    have := All2.map (R := DenV H an) (f := V.one) (g := id) (fun a b (hab : DenA0 H an a b) => by
      show DenA H an a b
      cases a <;> first | exact hab | exact hab.elim) hw
    simpa using this
  · rename_i y
    obtain ⟨w, rfl, hw⟩ := hg
    refine ⟨#[w], #[], w :: vs, rfl, by simp, ?_, ha⟩
    show DenA H an y w
    have := hw.1
    cases y <;> first | exact this | exact this.elim
  · rename_i cs
    obtain ⟨ws, rfl, hw⟩ := hg
    refine ⟨#[.agg ws.toArray], #[], .agg ws.toArray :: vs, rfl, by simp, ⟨ws, rfl, hw.mono fun a b hab => ?_⟩, ha⟩
    cases a <;> first | exact hab | exact hab.elim

/-- THE STEP. -/
theorem step_op {imm : Bool} {m : MOp} {own' : List Ch} {next : Act → World → Prop} {Q : Exit → Act → World → Prop} (h : Sat S Y s a w) (ht : trOp S.P imm o.op = some m) (hv : Ev S m (evO s.fr) s.own v own')
    (hn : ∀ a' w', Sat S Y ⟨putV s.fr o.dst v, own'⟩ a' w' → next a' w') : o.wpIn (fence Y.round) 0 S.P a w next Q := by
  refine ⟨fun _ _ => trivial, ?_⟩
  obtain ⟨H, an, F, ms, h⟩ := h
  have hnd : ∀ c, o.op ≠ .defer c := fun c e => by rw [e] at ht; simp [trOp, trOp0] at ht
  rw [Oper.semAt_eq _ _ _ hnd]
  generalize ho : o.op = op at ht
  unfold trOp at ht
  split at ht
  · rename_i f args tys
    cases ht
    have : (execOp a.eval o).run S.P w = (callFunc f (args.toList.map a.eval).toArray).run S.P w := by
      unfold execOp
      simp only [ho, resolve, Act.eval, Deferred.ofValue, Sem.run_bind, Sem.run_pure, Result.andThen_ok, invoke]
      congr 2
      apply Array.ext'
      simp
    rw [this]
    rcases hv with ⟨rfl, hc⟩ | ⟨j, v0, c', rfl, rfl, hc⟩ | ⟨own1, rfl, _, hc⟩
    · exact uponIn_call h hc (by rw [List.map_map]; exact evs_den h _) hn
    · exact uponIn_callm h hc (by rw [List.map_map]; exact evs_den h _) hn
    · exact uponIn_calla h hc (by rw [List.map_map]; exact evs_den h _) hn
  · rename_i g args tys hng
    cases ht
    rcases hv with ⟨f, l, hl, hv⟩ | ⟨l, own1, b, hg, rfl, hle, rfl, hr⟩
    case inr =>
      have hu : a.eval g = .func (.yield l) #[] #[] := by
        have this := h.ev g
        rw [hg] at this
        have this : Den H (.raw (.func (.yield l) #[] #[])) (a.eval g) := this
        generalize a.eval g = u at this
        cases this
        rfl
      have : (execOp a.eval o).run S.P w = (Instr.yield l (args.toList.map a.eval).toArray).run S.P w := by
        unfold execOp
        simp only [ho, resolve, hu, Deferred.ofValue, Sem.run_bind, Sem.run_pure, Result.andThen_ok, invoke]
        congr 2
        apply Array.ext'
        simp
      rw [this]
      exact uponIn_yield h hr (by rw [List.map_map]; exact evs_den h _) hn
    obtain ⟨first, caps, us, hu, hus, hd⟩ := callee_den (x := .un) (h.ev g) (by rw [List.map_map]; exact evs_den h args.toList) hl
    have : (execOp a.eval o).run S.P w = (callFunc f us.toArray).run S.P w := by
      unfold execOp
      simp only [ho, resolve, hu, Deferred.ofValue, Sem.run_bind, Sem.run_pure, Result.andThen_ok, invoke]
      rw [← hus]
      congr 3
      apply Array.ext'
      simp
    rw [this]
    rcases hv with ⟨rfl, hc⟩ | ⟨j, v0, c', rfl, rfl, _, hc⟩ | ⟨own1, rfl, _, hc⟩
    · exact uponIn_call h hc hd hn
    · exact uponIn_callm h hc hd hn
    · exact uponIn_calla h hc hd hn
  · rw [← ho] at ht
    exact uponIn_goes (goes_op h ht hv) hn
end
end Go.Fw
