/- The framework, part 28: from a function's contract to its row: whatever the arguments, 'true', and the arguments read as they did. -/
import Derived.Test.YtnampnnphgedhaaDoorFwZa
import Derived.RowKit
import Derived.Carry
import Derived.ChangeOld
set_option linter.all false
namespace Go.Fw
open Go Go.RowKit Go.ChangeShapes

section
variable (P : Program)
/-- An argument, by its type. -/
def valOf (t : TypeId) (ds : List D) : V := match P.underlying t with
  | some (.struct _) => .agg (ds.map .d)
  | _ => match ds with
    | [d] => .one (.d d)
    | _ => .un
def valsOf : List TypeId → List (List D) → List V
  | t :: ts, ds :: r => valOf P t ds :: valsOf ts r
  | _, _ => []
end

variable {P : Program} {H : Type} {enc : TypeId × Value → H} {W : World}

theorem dens_lift {K : Heap} {an : Anc} : ∀ {ds : List D} {vs : List Value}, Dens K ds vs → DenAs K an (ds.map .d) vs
  | [], [], _ => trivial
  | _ :: _, _ :: _, h => ⟨h.1, dens_lift h.2⟩

theorem arg_den {an : Anc} {r : Reach} {b0 : Nat} {base : Nat} {sp : Nat → Bool} {held : Bool} {t : TypeId} {v : Value} {d : DataW H} {ps : List MemPlace} (n : Nat) (hp : plainT P (n + 1) t = true)
    (hval : Value.okWide P W r b0 t v) (h : DataW.Trod enc P W base sp held t v d ps) (hw : ∀ k ∈ d.weights P t, k ≤ reachBytes) :
    ∃ ds, Shape P (n + 1) t ds ∧ DenV (allKnown W) an (valOf P t ds) v := by
  obtain ⟨ds, h1, h2⟩ := open_arg (n + 1) hp h hw
  refine ⟨ds, h2, ?_⟩
  unfold Value.okWide at hval
  unfold valOf
  unfold Shape at h2
  unfold plainT at hp
  cases ht : P.underlying t with
  | none => rw [ht] at hp; cases hp
  | some k =>
    rw [ht] at hp h2 hval
    have one : ∀ d : D, ds = [d] → Cell.okWide P W r b0 t v → (∀ cs, ¬ Cell.okWide P W r b0 t (.agg cs)) → DenV1 (allKnown W) an (.one (.d d)) v := by
      intro d e hc hn
      subst e
      cases v <;> first | exact h1.1 | exact absurd hc (hn _)
    have na : ∀ cs, (match some k with | some (.struct _) => False | some (.array ..) => False | _ => True) → ¬ Cell.okWide P W r b0 t (.agg cs) := by
      intro cs hk hc
      unfold Cell.okWide Cell.ok at hc
      rw [ht] at hc
      cases k <;> simp at hc
    cases k <;> simp only at hp <;> first | (cases hp; done) | skip
    case bool => obtain ⟨b, rfl⟩ := h2; exact one _ rfl hval fun cs => na cs trivial
    case int => obtain ⟨b, rfl⟩ := h2; exact one _ rfl hval fun cs => na cs trivial
    case string => obtain ⟨b, rfl⟩ := h2; exact one _ rfl hval fun cs => na cs trivial
    case slice => obtain ⟨b, rfl, _⟩ := h2; exact one _ rfl hval fun cs => na cs trivial
    case struct =>
      obtain ⟨cs, rfl, _⟩ := hval
      exact ⟨cs.toList, by simp, dens_lift h1⟩

theorem args_den {an : Anc} {r : Reach} {b0 : Nat} {base : Nat} {sp : Nat → Bool} {held : Bool} (n : Nat) :
    ∀ {ts : List TypeId} {vs : List Value} {ds : List (DataW H)} {ps : List MemPlace}, (ts.all fun t => plainT P (n + 1) t) = true →
      (∀ (j : Nat) t v, ts[j]? = some t → vs[j]? = some v → Value.okWide P W r b0 t v) → DataW.TrodAll enc P W base sp held ts vs ds ps → (∀ k ∈ DataW.weightsEach P ts ds, k ≤ reachBytes) →
      ∃ dss, All2 (Shape P (n + 1)) ts dss ∧ All2 (DenV (allKnown W) an) (valsOf P ts dss) vs
  | [], [], [], _, _, _, _, _ => ⟨[], trivial, trivial⟩
  | t :: ts, v :: vs, d :: ds, ps, hp, hval, h, hw => by
    obtain ⟨p, q, h1, h2, rfl⟩ := h
    simp only [List.all_cons, Bool.and_eq_true] at hp
    simp only [DataW.weightsEach, List.mem_append] at hw
    obtain ⟨d1, a1, b1⟩ := arg_den (an := an) n hp.1 (hval 0 t v rfl rfl) h1 fun k hk => hw k (.inl hk)
    obtain ⟨d2, a2, b2⟩ := args_den (an := an) n hp.2 (fun j t' v' e1 e2 => hval (j + 1) t' v' e1 e2) h2 fun k hk => hw k (.inr hk)
    exact ⟨d1 :: d2, ⟨a1, a2⟩, b1, b2⟩
  | [], _ :: _, _, _, _, _, h, _ => h.elim
  | [], [], _ :: _, _, _, _, h, _ => h.elim
  | _ :: _, [], _, _, _, _, h, _ => h.elim
  | _ :: _, _ :: _, [], _, _, _, h, _ => h.elim

theorem below_of_keep {w w' : World} {may : Nat → Prop} (h : WKeep w w' may) (hm : ∀ b, ¬ may b) : Below w.heap.size w w' :=
  ⟨h.os, h.tape, h.output, h.size, fun k hk => h.block k hk (hm k)⟩

theorem trodAll_stays (hl : laidOutB P = true) {W W' : World} (hb : Below W.heap.size W W') :
    ∀ {ts : List TypeId} {vs : List Value} {ds : List (DataW H)} {ps : List MemPlace}, (ts.all fun t => P.readableRec t && decide (t < P.types.size)) = true →
      DataW.TrodAll enc P W 0 (fun _ => true) true ts vs ds ps → (∀ x ∈ ps, x.block < W.heap.size) → DataW.TrodAll enc P W' 0 (fun b => decide (b < W.heap.size)) true ts vs ds ps
  | [], [], [], _, _, h, _ => h
  | t :: ts, v :: vs, d :: ds, ps, hp, h, hlt => by
    obtain ⟨p, q, h1, h2, rfl⟩ := h
    simp only [List.all_cons, Bool.and_eq_true, decide_eq_true_eq] at hp
    exact ⟨p, q, Below.trod hl hp.1.1 hp.1.2 h1 hb (fun x hx => hlt x (by simp [hx])), trodAll_stays hl hb hp.2 h2 (fun x hx => hlt x (by simp [hx])), rfl⟩
  | [], _ :: _, _, _, _, h, _ => h.elim
  | [], [], _ :: _, _, _, h, _ => h.elim
  | _ :: _, [], _, _, _, h, _ => h.elim
  | _ :: _, _ :: _, [], _, _, h, _ => h.elim

def noAnc : Anc := fun _ => none

/-- The call of a law, and what the row asks behind it. -/
theorem calls_true {f : FuncId} {fn : Func} {s : ChangeSpec} {apart : Bool} {args : Array Value} {ds gs : List (DataW H)} {before : List MemPlace} {tb : TypeId}
    (hl : laidOutB P = true) (hv : s.vars = []) (hr : fn.resultTypes = #[tb]) (htb : P.underlying tb = some .bool)
    (hp : (fn.params.toList.all fun t => P.readableRec t && decide (t < P.types.size)) = true)
    (hs : s.fn H (ds ++ gs) = { results := [.lit (.bool true)], args := ds })
    (hW : DataW.Whole enc P fn.params.toList s.vars apart W args.toList ds gs before)
    (V : List V) (hV : All2 (DenV (allKnown W) noAnc) V args.toList)
    (h : Does P (allKnown W) f V (.one (.d (.bool true)))) :
    Calls P f args W fun e W' => ∃ v, e = .returned v ∧ s.post enc P fn apart true false false W args v W' := by
  have hlt := hW.lt
  have h2 := h.2 (allKnown W) W noAnc (fun _ _ => False) args.toList (Heap.Le.refl _) (fun _ _ h => h) (fun i => ⟨fun ⟨p, hp⟩ => absurd hp (by simp [noAnc]), fun hi => absurd hi (by simp)⟩)
    (fun i c hc => absurd hc (by simp)) (fun _ _ h => h.elim) (fun _ _ _ h => h.elim) hV
  rw [Array.toArray_toList] at h2
  refine h2.mono fun e W' ⟨v, res, post, H', an', F', he, ⟨hR, hpost⟩, hk, _, _, _, _, _, _, _, _, hden⟩ => ?_
  subst he; subst hR; subst hpost
  have hb : Below W.heap.size W W' := below_of_keep hk fun b ⟨_, h⟩ => h
  have hv' : v = .bool true := by cases hden; rfl
  subst hv'
  refine ⟨_, rfl, ds, gs, before, [], before, [], hW, ?_, ?_, ?_, hb.frame _, fun h => by cases h⟩
  · rw [hs, hr]
    exact trodAll_mk1 (shut_bool htb true)
  · rw [hs]
    obtain ⟨p, q, hA, hV0, rfl, _⟩ := hW
    rw [hv] at hV0
    have : q = [] := by
      cases gs with
      | nil => exact hV0
      | cons g r => exact hV0.elim
    subst this
    rw [List.append_nil]
    exact trodAll_stays hl hb hp hA fun x hx => hlt x (by simp [hx])
  · rw [hs, hv]
    rfl

/-! ### What a type's data are -/
def fieldsOf (P : Program) (t : TypeId) : Option (List TypeId) := match P.underlying t with
  | some (.struct fs) => some (fs.toList.map (·.type))
  | _ => none
def CatT (R : TypeId → List D → Prop) : List TypeId → List D → Prop
  | [], ds => ds = []
  | t :: l, ds => ∃ a b, ds = a ++ b ∧ R t a ∧ CatT R l b
theorem cat_map {R : TypeId → List D → Prop} : ∀ {fs : List Field} {ds : List D}, Cat (fun f d => R f.type d) fs ds → CatT R (fs.map (·.type)) ds
  | [], _, h => h
  | _ :: _, _, ⟨a, b, e, h1, h2⟩ => ⟨a, b, e, h1, cat_map h2⟩
theorem shape_struct {n : Nat} {t : TypeId} {ts : List TypeId} {ds : List D} (hf : fieldsOf P t = some ts) (h : Shape P (n + 1) t ds) : CatT (Shape P n) ts ds := by
  unfold fieldsOf at hf
  unfold Shape at h
  split at hf
  · rename_i fs e
    rw [e] at h
    cases hf
    exact cat_map h
  · cases hf
theorem shape_int {n : Nat} {t : TypeId} {k : IntKind} {ds : List D} (hf : P.underlying t = some (.int k)) (h : Shape P (n + 1) t ds) : ∃ m, ds = [.int k m] := by
  unfold Shape at h; rw [hf] at h; exact h
theorem shape_bool {n : Nat} {t : TypeId} {ds : List D} (hf : P.underlying t = some .bool) (h : Shape P (n + 1) t ds) : ∃ m, ds = [.bool m] := by
  unfold Shape at h; rw [hf] at h; exact h
theorem shape_str {n : Nat} {t : TypeId} {ds : List D} (hf : P.underlying t = some .string) (h : Shape P (n + 1) t ds) : ∃ m, ds = [.str m] := by
  unfold Shape at h; rw [hf] at h; exact h
theorem shape_slice {n : Nat} {t e : TypeId} {ds : List D} (hf : P.underlying t = some (.slice e)) (h : Shape P (n + 1) t ds) : ∃ xs, ds = [.sl xs] ∧ ∀ x ∈ xs, Shape P n e x := by
  unfold Shape at h; rw [hf] at h; exact h
theorem list_of {α : Type} {f : α → List D} {R : List D → Prop} (h : ∀ x, R x → ∃ a, x = f a) : ∀ {xs : List (List D)}, (∀ x ∈ xs, R x) → ∃ l : List α, xs = l.map f
  | [], _ => ⟨[], rfl⟩
  | x :: xs, k => by
    obtain ⟨a, rfl⟩ := h x (k x (by simp))
    obtain ⟨l, rfl⟩ := list_of h (xs := xs) fun y hy => k y (by simp [hy])
    exact ⟨a :: l, rfl⟩
end Go.Fw
