/- The framework, part 29: a law's row. -/
import Derived.Test.YtnampnnphgedhaaDoorFwZb
import Derived.Handed
import Derived.JoinedOf
set_option linter.all false
namespace Go.Fw
open Go Go.RowKit

theorem trodAll_len {H : Type} {enc : TypeId × Value → H} {P : Program} {w : World} {base : Nat} {sp : Nat → Bool} {held : Bool} : ∀ {ts : List TypeId} {vs : List Value} {ds : List (DataW H)} {ps : List MemPlace},
    DataW.TrodAll enc P w base sp held ts vs ds ps → ds.length = ts.length
  | [], [], [], _, _ => rfl
  | _ :: _, _ :: _, _ :: _, _, ⟨_, _, _, h, _⟩ => by simp [trodAll_len h]
  | [], _ :: _, _, _, h => h.elim
  | [], [], _ :: _, _, h => h.elim
  | _ :: _, [], _, _, h => h.elim
  | _ :: _, _ :: _, [], _, h => h.elim

/-- A law whose contract is 'true, whatever the arguments' has its row. -/
theorem row_true {H : Type} {enc : TypeId × Value → H} {C : Checked} {os : Os} {f : FuncId} {fn : Func} {s : ChangeSpec} {apart : Bool} {X : World → Prop} {tb : TypeId} (n : Nat)
    (hX : ∀ (w w' : World), w.heap = w'.heap → X w → X w')
    (own : ownKnob C.prog.godebug = none) (started : os.Started) (noInit : C.prog.inits.idxOf? f = none) (hfn : C.prog.funcs[f]? = some fn)
    (witness : ∃ (w : World) (tape : Tape) (i : Input), w.os = os ∧ (w.forCall tape i).Shaped C.prog ∧ i.vars = [] ∧ Input.okWide C.prog (w.forCall tape i) .any w.heap.size f i ∧
      ((s.pre enc C.prog fn [] apart (w.forCall tape i).memory i.args ∧ X (w.forCall tape i).memory) ∧ sizedMet enc C.prog fn (OpenSpec.ofChange s) apart (w.forCall tape i).memory i.args) ∧ ({} : Assume).holds C.prog (lone (Frame.enter C.prog f i.args .normal) [] (w.forCall tape i)))
    (hl : laidOutB C.prog = true) (hv : s.vars = []) (hr : fn.resultTypes = #[tb]) (htb : C.prog.underlying tb = some .bool)
    (hpl : (fn.params.toList.all fun t => plainT C.prog (n + 1) t) = true)
    (hp : (fn.params.toList.all fun t => C.prog.readableRec t && decide (t < C.prog.types.size)) = true)
    (hs : ∀ ds : List (DataW H), ds.length = fn.params.toList.length → s.fn H ds = { results := [.lit (.bool true)], args := ds })
    (law : ∀ (W : World) (dss : List (List D)), X W → All2 (Shape C.prog (n + 1)) fn.params.toList dss → Does C.prog (allKnown W) f (valsOf C.prog fn.params.toList dss) (.one (.d (.bool true)))) :
    ReturnsInHanded {} C os f .any (fun w args => (s.pre enc C.prog fn [] apart w args ∧ X w) ∧ sizedMet enc C.prog fn (OpenSpec.ofChange s) apart w args) (s.post enc C.prog fn apart true false false) := by
  refine returnsInHanded_of_change_and (C := C) (X := fun w _ => X w) (fun w w' _ hh h => hX w w' hh h) own started noInit hfn witness ?_
  intro W base args ds gs before hval hW _ hsz hL _
  obtain ⟨p, q, hA, hV, hpq, _⟩ := id hW
  have hg : gs = [] := by
    rw [hv] at hV
    cases gs with
    | nil => rfl
    | cons g r => exact hV.elim
  subst hg
  have hvt : s.plain.varTypes C.prog = [] := by
    simp [DataSpec.varTypes, ChangeSpec.plain, hv]
  rw [hvt, List.append_nil, List.append_nil] at hsz
  obtain ⟨dss, hsh, hden⟩ := args_den (an := noAnc) n hpl (fun j t v h1 h2 => hval j t v (by simpa using h1) (by simpa using h2)) hA (fun k hk => by simpa using List.all_eq_true.1 hsz k hk)
  exact calls_true hl hv hr htb hp (by rw [List.append_nil]; exact hs ds (trodAll_len hA)) hW _ hden (law W dss hL hsh)

theorem all2_one {α β : Type} {R : α → β → Prop} {a : α} {l : List β} (h : All2 R [a] l) : ∃ x, l = [x] ∧ R a x := by
  match l, h with
  | [x], h => exact ⟨x, rfl, h.1⟩
theorem all2_two {α β : Type} {R : α → β → Prop} {a b : α} {l : List β} (h : All2 R [a, b] l) : ∃ x y, l = [x, y] ∧ R a x ∧ R b y := by
  match l, h with
  | [x, y], h => exact ⟨x, y, rfl, h.1, h.2.1⟩
theorem all2_three {α β : Type} {R : α → β → Prop} {a b c : α} {l : List β} (h : All2 R [a, b, c] l) : ∃ x y z, l = [x, y, z] ∧ R a x ∧ R b y ∧ R c z := by
  match l, h with
  | [x, y, z], h => exact ⟨x, y, z, rfl, h.1, h.2.1, h.2.2.1⟩
theorem all2_four {α β : Type} {R : α → β → Prop} {a b c d : α} {l : List β} (h : All2 R [a, b, c, d] l) : ∃ x y z u, l = [x, y, z, u] ∧ R a x ∧ R b y ∧ R c z ∧ R d u := by
  match l, h with
  | [x, y, z, u], h => exact ⟨x, y, z, u, rfl, h.1, h.2.1, h.2.2.1, h.2.2.2.1⟩
end Go.Fw
