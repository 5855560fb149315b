/- The framework, part 25: ranges over functions; empty slices, nil and not; frames by their live slots. -/
import Derived.Test.YtnampnnphgedhaaDoorFwX
set_option linter.all false
namespace Go.Fw
open Go

section
variable {S : Sx} {Y : Dyn} {k : List MI} {s : St} {a : Act} {w w' : World} {H : Heap} {an : Anc} {F : Nat → Nat → Prop} {ms : List Nat}

theorem set_at {α : Type} : ∀ {l : List α} {i : Nat} {x : α}, l[i]? = some x → l.set i x = l
  | [], _, _, h => by simp at h
  | _ :: _, 0, _, h => by simp at h; simp [h]
  | _ :: l, i + 1, x, h => by simpa using set_at (l := l) (i := i) (by simpa using h)

/-- A frame by its live slots. -/
def fr (n : Nat) : List (Nat × V) → List V
  | [] => List.replicate n .un
  | (i, v) :: l => setV (fr n l) i v

/-! ### A slice without elements: nil, or not -/
theorem G_sl0 (t : Nat) (ht : getV s.fr t = .one (.d (.sl []))) (h : ∀ (A : Option Addr) (c : Nat), G S k ⟨setV s.fr t (.one (.d (.raw (.slice A 0 c)))), s.own⟩) : G S k s := by
  rintro Y a w ⟨H, an, F, ms, hs⟩
  obtain ⟨u, hu, hd⟩ := hs.fr.get (getV_some _ _ _ ht (by simp))
  have hd : Den H (.sl []) u := hd
  have : ∃ A c, u = .slice A 0 c := by
    cases hd with
    | slE A c => exact ⟨A, c, rfl⟩
    | sl xs b o c sz cells T fz f => exact ⟨_, _, rfl⟩
  obtain ⟨A, c, rfl⟩ := this
  refine h A c Y a w ⟨H, an, F, ms, hs.reframe ?_⟩
  have := All2_setV s.fr a.tmps.toList t (.one (.d (.raw (.slice A 0 c)))) (.slice A 0 c) hs.fr (Den.raw (H := H) _ rfl)
  rwa [set_at hu] at this
/-- Back again. -/
theorem G_unraw (t : Nat) {A : Option Addr} {c : Nat} (ht : getV s.fr t = .one (.d (.raw (.slice A 0 c)))) (h : G S k ⟨setV s.fr t (.one (.d (.sl []))), s.own⟩) : G S k s := by
  rintro Y a w ⟨H, an, F, ms, hs⟩
  obtain ⟨u, hu, hd⟩ := hs.fr.get (getV_some _ _ _ ht (by simp))
  have hd : Den H (.raw (.slice A 0 c)) u := hd
  generalize hv : Value.slice A 0 c = v at hd
  cases hd
  refine h Y a w ⟨H, an, F, ms, hs.reframe ?_⟩
  have := All2_setV s.fr a.tmps.toList t (.one (.d (.sl []))) u hs.fr (by rw [← hv]; exact Den.slE (H := H) A c)
  rwa [set_at hu] at this

/-! ### A nil slice becomes an own row -/
theorem SatX.nil_row (h : SatX S Y s a w H an F ms) {u : Value} (hu : ∃ A, u = .slice A 0 0) (sz : Nat) (hsz : 0 < sz) :
    SatX S Y { s with own := s.own ++ [.row sz 0 []] } a w H (an.put s.own.length (0, u)) (fun j b => if j = s.own.length then False else F j b) ms := by
  obtain ⟨A, rfl⟩ := hu
  exact h.add_own (WKeep.refl w _) (fun _ hb => hb.elim) ⟨rfl, ⟨_, _, _, rfl⟩, hsz, by simp, by simp [lenMax], .inl ⟨rfl, ⟨_, rfl⟩, fun _ hb => hb⟩⟩
/-- In a slot. -/
theorem G_row0 (t sz : Nat) (hsz : 0 < sz) (ht : getV s.fr t = .one .nil) (h : G S k ⟨setV s.fr t (.one (.own s.own.length 0)), s.own ++ [.row sz 0 []]⟩) : G S k s := by
  rintro Y a w ⟨H, an, F, ms, hs⟩
  obtain ⟨u, hu, hd⟩ := hs.fr.get (getV_some _ _ _ ht (by simp))
  have hd : ∃ A, u = .slice A 0 0 := hd
  have h1 := hs.nil_row hd sz hsz
  refine h Y a w ⟨H, _, _, ms, h1.reframe ?_⟩
  have := All2_setV s.fr a.tmps.toList t (.one (.own s.own.length 0)) u h1.fr (by
    obtain ⟨A, rfl⟩ := hd
    exact ⟨rfl, (0, .slice A 0 0), by simp [Anc.put], Nat.le_refl _, fun _ => rfl⟩)
  rwa [set_at hu] at this
/-- In a box. -/
theorem G_row0c (i off sz : Nat) {cs : List A} (hsz : 0 < sz) (hc : getC s.own i = .cells cs) (ht : cs[off]? = some .nil)
    (h : G S k ⟨s.fr, setC s.own i (.cells (cs.set off (.own s.own.length 0))) ++ [.row sz 0 []]⟩) : G S k s := by
  rintro Y a w ⟨H, an, F, ms, hs⟩
  have hi := getC_some hc (by simp)
  have hil := (List.getElem?_eq_some_iff.1 hi).1
  obtain ⟨p, hp, h0, b, T, vs, h1, h2, h3, h4⟩ := hs.own i _ hi
  obtain ⟨u, hu, hd⟩ := h4.get ht
  have hd : ∃ A, u = .slice A 0 0 := hd
  have hx := hs.nil_row hd sz hsz
  have hle : Anc.Le an (an.put s.own.length (0, u)) := ⟨fun j q hq => by
    refine ⟨q, ?_, .inl rfl⟩
    unfold Anc.put
    rw [if_neg (by have := (hs.anc j).1 ⟨q, hq⟩; omega)]
    exact hq⟩
  have hxl : i < (s.own ++ [Ch.row sz 0 []]).length := by simp; omega
  have := hx.set_own (w' := w) (i := i) (b := b) (p := p) (c := .cells (cs.set off (.own s.own.length 0))) (by unfold Anc.put; rw [if_neg (by omega)]; exact hp)
    (fun x => by simp only [if_neg (show i ≠ s.own.length by omega)]; exact h2 x) (WKeep.refl w _) ⟨h0, b, T, vs, h1, fun x => by simp only [if_neg (show i ≠ s.own.length by omega)]; exact h2 x, h3, by
      have := All2.set off (All2.mono (fun _ _ => DenA.mono (Heap.Le.refl _) hle) h4) (a := A.own s.own.length 0) (b := u) (by
        obtain ⟨B, rfl⟩ := hd
        exact ⟨rfl, (0, .slice B 0 0), by simp [Anc.put], Nat.le_refl _, fun _ => rfl⟩)
      rwa [set_at hu] at this⟩
  have e : (s.own ++ [Ch.row sz 0 []]).set i (.cells (cs.set off (.own s.own.length 0))) = s.own.set i (.cells (cs.set off (.own s.own.length 0))) ++ [Ch.row sz 0 []] := by
    rw [List.set_append_left _ _ hil]
  rw [show (s.own ++ [Ch.row sz 0 []]).set i (.cells (cs.set off (.own s.own.length 0))) = _ from e, ← setC_eq] at this
  exact h Y a w ⟨H, _, _, ms, this⟩

/-! ### Rounds -/
/-- An exit that leaves a round. -/
def exitR (id : Nat) : List MI → Option (Exit → St → Prop)
  | .code _ :: k => exitR id k
  | .blk i :: k => if i = id then none else exitR id k
  | .again _ :: k => exitR id k
  | .rnd p :: _ => some p
  | _ => none
theorem exitR_spec {id : Nat} {p : Exit → St → Prop} : ∀ {k : List MI}, exitR id k = some p → ∀ Y a w, (∃ s, Sat S Y s a w ∧ p (.exit id) s) → Mx S Y k (.exit id) a w
  | .code _ :: k, h, Y, a, w, hm => exitR_spec (k := k) h Y a w hm
  | .again _ :: k, h, Y, a, w, hm => exitR_spec (k := k) h Y a w hm
  | .blk i :: k, h, Y, a, w, hm => by
    simp only [exitR] at h
    split at h
    · cases h
    · rename_i e
      simp only [Mx]
      rw [if_neg (fun e' => e e'.symm)]
      exact exitR_spec h Y a w hm
  | .rnd _ :: _, h, _, _, _, hm => by cases h; exact ⟨.inr (.inr ⟨_, rfl⟩), hm⟩
  | .fin :: _, h, _, _, _, _ => by cases h
  | [], h, _, _, _, _ => by cases h
theorem G_exit_rnd {id : Nat} {p : Exit → St → Prop} (he : exitR id k = some p) (h : p (.exit id) s) : G S (.code (.exit id) :: k) s := by
  intro Y a w hs hs' c hc
  rw [trC_exit hc]
  exact wpIn_exit (exitR_spec he Y a w ⟨s, hs, h⟩)

theorem trC_rf {P : Program} {hs : List Nat} {c : Code} {f : Opd} {ps : List Nat} {x y : MC} (h : trC P hs c = some (.rf f ps x y)) : ∃ t ps' a b, c = .rangeFunc t ps' a b ∧ opdOf t = f ∧ ps'.toList = ps ∧ trC P hs a = some x ∧ trC P hs b = some y := by
  cases c <;> simp [trC, Option.bind_eq_some_iff] at h
  obtain ⟨_, h1, _, h2, rfl, rfl, rfl, rfl⟩ := h
  exact ⟨_, _, _, _, rfl, rfl, rfl, h1, h2⟩

/-- A RANGE OVER A FUNCTION: the iterator is walked, the loop's record among the chunks; what it leaves; the rest. -/
theorem G_rf {g : Opd} {ps : List Nat} {asg body : MC} {f2 : FuncId} {caps : List V} (R2 : Option Code → List Ch → Prop) (hrd : S.rd = false)
    (hg : ∀ y, calleeV (evO s.fr g) [y] = some (f2, y :: caps)) (hcal : callable S.P f2 = true)
    (hI : ∀ (l : Nat) (rc : Loop), rc.params.toList = ps → (∃ hs, trC S.P hs rc.assign = some asg ∧ trC S.P hs rc.body = some body) →
      Tri S.P S.gp f2 (.one (.d (.raw (.func (.yield l) #[] #[]))) :: caps) (s.own ++ [.lp l s.fr rc .ready none]) fun _ post => ∃ st pd, getC post s.own.length = .lp l s.fr rc st pd ∧ st ≠ .busy ∧ R2 pd (setC post s.own.length .dead))
    (hk : ∀ own', R2 none own' → G S k ⟨s.fr, own'⟩) (hj : ∀ c own', R2 (some c) own' → ∃ m, trC S.P [] c = some m ∧ G S (.code m :: k) ⟨s.fr, own'⟩) : G S (.code (.rf g ps asg body) :: k) s := by
  rintro Y a w ⟨H, an, F, ms, h⟩ hs' c hc
  obtain ⟨t, ps', ca, cb, rfl, rfl, rfl, hta, htb⟩ := trC_rf hc
  have hro : Y.round = none := by
    rcases h.ro with h1 | h1
    · rw [hrd] at h1; cases h1
    · exact h1
  refine wpIn_rangeFunc fun fn _ => ?_
  rw [hro]
  generalize hrc : ({ state := .ready, pending := none, fn, tmps := a.tmps, params := ps', assign := ca, body := cb, defers := w.heap.size } : Loop) = rc
  generalize hW1 : (w.alloc (.deferred (some []))).alloc (.loop rc) = W1
  have hh1 : W1.heap = (w.heap.push (.deferred (some []))).push (.loop rc) := by rw [← hW1]; rfl
  have hs1 : W1.heap.size = w.heap.size + 2 := by rw [hh1]; simp
  have hold : ∀ b, b < w.heap.size → W1.heap[b]? = w.heap[b]? := fun b hb => by
    rw [hh1, Array.getElem?_push, if_neg (by simp; omega), Array.getElem?_push, if_neg (by omega)]
  have hD : W1.heap[w.heap.size]? = some (.deferred (some [])) := by
    rw [hh1, Array.getElem?_push, if_neg (by simp), Array.getElem?_push, if_pos rfl]
  have hL : W1.heap[w.heap.size + 1]? = some (.loop rc) := by
    rw [hh1, Array.getElem?_push, if_pos (by simp)]
  have hHn : ∀ b, w.heap.size ≤ b → H b = none := fun b hb => h.none_new hb
  -- the call
  obtain ⟨first, cs, us, hu, hus, hden⟩ := callee_den (an := an) (x := .un) (args := [.one (.d (.raw (.func (.yield (w.heap.size + 1)) #[] #[])))]) (vs := [.func (.yield (w.heap.size + 1)) #[] #[]]) (h.ev t) ⟨Den.raw (H := H) _ rfl, trivial⟩ (hg _)
  let an1 : Anc := an.put s.own.length (0, .nilFunc)
  let F1 : Nat → Nat → Prop := fun j b => if j = s.own.length then b = w.heap.size + 1 else F j b
  have hle : Anc.Le an an1 := ⟨fun j q hq => by
    refine ⟨q, ?_, .inl rfl⟩
    show Anc.put _ _ _ _ = _
    unfold Anc.put
    rw [if_neg (by have := (h.anc j).1 ⟨q, hq⟩; omega)]
    exact hq⟩
  have hrcs : rc = { rc with state := .ready, pending := none } := by rw [← hrc]
  have hT := hI (w.heap.size + 1) rc (by rw [← hrc]) ⟨hs', by rw [← hrc]; exact hta, by rw [← hrc]; exact htb⟩ H W1 an1 F1 us h.gp
    (fun b o hb => by
      have h1 := h.mod b o hb
      rw [hold b (Array.getElem?_eq_some_iff.1 h1).1]; exact h1)
    (fun i => by
      show (∃ p, Anc.put _ _ _ _ = _) ↔ _
      unfold Anc.put
      by_cases e : i = s.own.length
      · subst e; simp
      · rw [if_neg e, h.anc i]; simp; omega)
    (fun i c hc => by
      by_cases e : i = s.own.length
      · subst e
        rw [List.getElem?_append_right (Nat.le_refl _)] at hc
        simp at hc
        subst hc
        refine ⟨(0, .nilFunc), by simp [an1, Anc.put], fun x => by simp [F1], by rw [← hrcs]; exact hL, ?_⟩
        have : rc.tmps = a.tmps := by rw [← hrc]
        rw [this]
        exact All2.mono (fun _ _ => DenV.mono (Heap.Le.refl _) hle) h.fr
      · have hlt : i < s.own.length := by
          have := (List.getElem?_eq_some_iff.1 hc).1
          simp at this
          omega
        rw [List.getElem?_append_left hlt] at hc
        obtain ⟨q, hq, hsc⟩ := h.own i c hc
        refine ⟨q, by simp [an1, Anc.put, e, hq], ?_⟩
        have := hsc.keep (w' := W1) (Heap.Le.refl _) hle fun x hx => hold x (h.fp i x hx).1
        simpa [F1, e] using this)
    (fun i b hb => by
      by_cases e : i = s.own.length
      · simp only [F1, if_pos e] at hb
        subst hb
        exact ⟨by simp [e], by omega, hHn _ (by omega)⟩
      · simp only [F1, if_neg e] at hb
        obtain ⟨g1, g2, _⟩ := h.fp i b hb
        exact ⟨by have := h.fl i b hb; simp; omega, by omega, g2⟩)
    (fun i j b hi hj => by
      by_cases e : i = s.own.length <;> by_cases e' : j = s.own.length
      · omega
      · simp only [F1, if_pos e] at hi; simp only [F1, if_neg e'] at hj
        have := (h.fp j b hj).1; omega
      · simp only [F1, if_neg e] at hi; simp only [F1, if_pos e'] at hj
        have := (h.fp i b hi).1; omega
      · simp only [F1, if_neg e] at hi; simp only [F1, if_neg e'] at hj
        exact h.dj i j b hi hj)
    (All2.mono (fun _ _ => DenV.mono (Heap.Le.refl _) hle) hden)
  refine ⟨w.heap.size + 1, [{ target := .collected w.heap.size, args := #[] }], W1, { target := .fn (.func f2) cs, args := first ++ #[.func (.yield (w.heap.size + 1)) #[] #[]] }, W1, f2, us.toArray, W1, ?_, ?_, fun _ _ => trivial, ?_, fun hd => by simp [fence, Fence.wide] at hd, ?_⟩
  · rw [← hW1, ← hrc]; exact run_enterLoop_outer _ _ _ _ _
  · simp [resolve, hu, Deferred.ofValue]
    rfl
  · simp only [invoke]
    rw [← hus]
    exact run_callFunc hcal _
  · refine ⟨trivial, fun fs _ => ?_⟩
    obtain ⟨e, w3, frm, ⟨v, res, post, H', an', F', rfl, ⟨st, pd, hlp, hst, hR2⟩, hw, hH, hmod, hnew, hal, hanc, hown, hF', hdj, _⟩, g2, g3, g4⟩ := hT fs
    refine ⟨.returned v, w3, frm, ?_, (StepsIn.of_steps g2).mono fun m _ => (fenced_wide S.P m : Machine.fenced S.P Fence.wide m), g3, g4⟩
    have hpi := getC_some hlp (by simp)
    have hpl := (List.getElem?_eq_some_iff.1 hpi).1
    obtain ⟨q, hq, hql, hqh, hqf⟩ := hown _ _ hpi
    have hFl : F' s.own.length (w.heap.size + 1) := (hql _).2 rfl
    have h3s : w.heap.size + 1 < w3.heap.size := (Array.getElem?_eq_some_iff.1 hqh).1
    have hH'l : H' (w.heap.size + 1) = none := (hF' _ _ hFl).2.2.1
    refine ⟨pd, _, run_endLoop hqh hst, ?_⟩
    generalize hw4 : w3.putObj (w.heap.size + 1) (.loop { ({ rc with state := st, pending := pd } : Loop) with state := .exhausted }) = w4
    have hoth : ∀ x, x ≠ w.heap.size + 1 → w4.heap[x]? = w3.heap[x]? := fun x hx => by rw [← hw4]; exact World.putObj_heap_other (fun e => hx e)
    have hsz4 : w4.heap.size = w3.heap.size := by rw [← hw4]; simp [World.putObj]
    have hFD : ∀ j, ¬ F' j w.heap.size := fun j hj => by
      rcases (hF' j _ hj).2.2.2 with g | ⟨i, g⟩
      · omega
      · by_cases e : i = s.own.length
        · simp only [F1, if_pos e] at g; omega
        · simp only [F1, if_neg e] at g
          have := (h.fp i _ g).1; omega
    have hev := h.evolve (own' := setC post s.own.length .dead) (w' := w4) (H' := H') (an' := an') (F' := fun j x => j ≠ s.own.length ∧ F' j x) (may := fun x => ∃ j, F j x)
      ⟨by rw [← hw4]; exact hw.os.trans (by rw [← hW1]; rfl), by rw [← hw4]; exact hw.tape.trans (by rw [← hW1]; rfl), by rw [← hw4]; exact hw.output.trans (by rw [← hW1]; rfl), by have := hw.size; omega, fun x hx hn => by
        rw [hoth x (by omega), hw.block x (by omega) (fun ⟨i, hi⟩ => by
          by_cases e : i = s.own.length
          · simp only [F1, if_pos e] at hi; omega
          · simp only [F1, if_neg e] at hi; exact hn ⟨i, hi⟩), hold x hx]⟩
      (fun x hx => hx) hH (fun x o hx => by
        rw [hoth x (fun e => by rw [e, hH'l] at hx; cases hx)]; exact hmod x o hx) (fun x o hx => by
        rcases hnew x o hx with g | g | ⟨i, g⟩
        · exact .inl g
        · exact .inr (.inl (by omega))
        · by_cases e : i = s.own.length
          · simp only [F1, if_pos e] at g; exact .inr (.inl (by omega))
          · simp only [F1, if_neg e] at g; exact .inr (.inr ⟨i, g⟩)) (hle.trans hal) (fun j => by rw [setC_eq, List.length_set]; exact hanc j) (fun j c hc => by
        rw [setC_eq, List.getElem?_set] at hc
        by_cases e : s.own.length = j
        · subst e
          simp only [if_true, if_pos hpl] at hc
          cases hc
          exact ⟨q, hq, fun x hx => hx.1 rfl⟩
        · rw [if_neg e] at hc
          obtain ⟨r, hr, hsc⟩ := hown j c hc
          refine ⟨r, hr, ?_⟩
          have e2 : (fun x => j ≠ s.own.length ∧ F' j x) = F' j := by funext x; simp [Ne.symm e]
          rw [e2]
          exact hsc.keep (Heap.Le.refl _) (Anc.Le.refl _) fun x hx => hoth x (fun e3 => e (hdj _ _ _ hFl (e3 ▸ hx)))) (fun j x hx => by
        rw [setC_eq, List.length_set]
        obtain ⟨g1, g2, g3, g4⟩ := hF' j x hx.2
        refine ⟨g1, by omega, g3, ?_⟩
        rcases g4 with g | ⟨i, g⟩
        · exact .inl (by omega)
        · by_cases e : i = s.own.length
          · simp only [F1, if_pos e] at g; exact .inl (by omega)
          · simp only [F1, if_neg e] at g; exact .inr ⟨i, g⟩) (fun j j' x hx hx' => hdj j j' x hx.2 hx'.2)
    have hsat : Sat S Y ⟨s.fr, setC post s.own.length .dead⟩ { a with defers := [{ target := .collected w.heap.size, args := #[] }] ++ a.defers } w4 := by
      refine ⟨H', an', _, w.heap.size :: ms, hev.gp, hev.h0, hev.mod, hev.fr, hev.anc, hev.own, hev.fl, hev.fp, hev.dj, hev.hn, hev.ub, hev.os, hev.tape, hev.output, hev.size, ?_, ?_, ?_, hev.al, hev.npl, hev.ro⟩
      · show _ :: a.defers = _
        rw [h.df]; rfl
      · intro r hr
        rcases List.mem_cons.1 hr with rfl | hr
        · refine ⟨?_, ?_, ?_, fun i hi => hFD i hi.2⟩
          · rw [hoth _ (by omega), hw.block _ (by omega) (fun ⟨i, hi⟩ => by
              by_cases e : i = s.own.length
              · simp only [F1, if_pos e] at hi; omega
              · simp only [F1, if_neg e] at hi; have := (h.fp i _ hi).1; omega)]
            exact hD
          · cases e : H' w.heap.size with
            | none => rfl
            | some o =>
              rcases hnew _ o e with g | g | ⟨i, g⟩
              · rw [hHn _ (Nat.le_refl _)] at g; cases g
              · omega
              · by_cases e : i = s.own.length
                · simp only [F1, if_pos e] at g; omega
                · simp only [F1, if_neg e] at g; have := (h.fp i _ g).1; omega
          · intro hu
            have := (h.ub _ hu).1; have := h.size; omega
        · exact hev.mks r hr
      · refine List.nodup_cons.2 ⟨fun hm => ?_, h.nd⟩
        have := (Array.getElem?_eq_some_iff.1 (h.mks _ hm).1).1
        omega
    cases pd with
    | none => exact hk _ hR2 Y _ w4 hsat
    | some c =>
      obtain ⟨m, hm, hG⟩ := hj c _ hR2
      have := hG Y _ w4 hsat [] c hm
      rw [hro] at this
      exact this
end
namespace Sq
/-! Lean's own small laws, under names that can be opened. -/
theorem true_and (p : Prop) : (True ∧ p) = p := _root_.true_and p
theorem and_true (p : Prop) : (p ∧ True) = p := _root_.and_true p
theorem and_false (p : Prop) : (p ∧ False) = False := _root_.and_false p
theorem false_and (p : Prop) : (False ∧ p) = False := _root_.false_and p
theorem or_true (p : Prop) : (p ∨ True) = True := _root_.or_true p
theorem true_or (p : Prop) : (True ∨ p) = True := _root_.true_or p
theorem false_or (p : Prop) : (False ∨ p) = p := _root_.false_or p
theorem or_false (p : Prop) : (p ∨ False) = p := _root_.or_false p
theorem and_self (p : Prop) : (p ∧ p) = p := _root_.and_self p
theorem or_self (p : Prop) : (p ∨ p) = p := _root_.or_self p
theorem not_true_eq_false : (¬True) = False := _root_.not_true_eq_false
theorem not_false_eq_true : (¬False) = True := _root_.not_false_eq_true
theorem ne_eq {α : Sort _} (a b : α) : (a ≠ b) = ¬(a = b) := _root_.ne_eq a b
theorem if_true {α : Sort _} {h : Decidable True} (t e : α) : (@ite α True h t e) = t := _root_.if_true t e
theorem if_false {α : Sort _} {h : Decidable False} (t e : α) : (@ite α False h t e) = e := _root_.if_false t e
theorem false_implies (p : Prop) : (False → p) = True := _root_.false_implies p
theorem implies_true (α : Sort _) : (α → True) = True := _root_.implies_true α
theorem true_implies (p : Prop) : (True → p) = p := _root_.true_implies p
theorem forall_const {b : Prop} (α : Sort _) [i : Nonempty α] : (α → b) ↔ b := _root_.forall_const α
theorem and_imp {a b c : Prop} : (a ∧ b → c) ↔ (a → b → c) := _root_.and_imp
theorem eq_self {α : Sort _} (a : α) : (a = a) = True := _root_.eq_self a
theorem decide_true (h : Decidable True) : @decide True h = true := _root_.decide_true h
theorem decide_false (h : Decidable False) : @decide False h = false := _root_.decide_false h
theorem decide_eq_true_eq {p : Prop} [Decidable p] : (decide p = true) = p := _root_.decide_eq_true_eq
theorem decide_eq_false_iff_not {p : Prop} {h : Decidable p} : (decide p = false) ↔ ¬p := _root_.decide_eq_false_iff_not
end Sq
end Go.Fw
