/- The framework, part 26: lengths are bounded. -/
import Derived.Test.YtnampnnphgedhaaDoorFwY
set_option linter.all false
namespace Go.Fw
open Go

section
variable {S : Sx} {Y : Dyn} {k : List MI} {s : St} {a : Act} {w w' : World} {H : Heap} {an : Anc} {F : Nat → Nat → Prop} {ms : List Nat}

theorem den_len {xs : List (List D)} {v : Value} (h : Den H (.sl xs) v) : xs.length < lenMax := by
  cases h with
  | slE A c => simp [lenMax]
  | sl => assumption

theorem G_len (t : Nat) {xs : List (List D)} (ht : getV s.fr t = .one (.d (.sl xs))) (h : xs.length < lenMax → G S k s) : G S k s := by
  rintro Y a w ⟨H, an, F, ms, hs⟩
  obtain ⟨u, hu, hd⟩ := hs.fr.get (getV_some _ _ _ ht (by simp))
  have hd : Den H (.sl xs) u := hd
  exact h (den_len hd) Y a w ⟨H, an, F, ms, hs⟩
theorem G_lenA (t i : Nat) {cs : List A} {xs : List (List D)} (ht : getV s.fr t = .agg cs) (hi : cs[i]? = some (.d (.sl xs))) (h : xs.length < lenMax → G S k s) : G S k s := by
  rintro Y a w ⟨H, an, F, ms, hs⟩
  obtain ⟨u, hu, hd⟩ := hs.fr.get (getV_some _ _ _ ht (by simp))
  obtain ⟨us, _, hd⟩ := hd
  obtain ⟨v, _, hd⟩ := hd.get hi
  have hd : Den H (.sl xs) v := hd
  exact h (den_len hd) Y a w ⟨H, an, F, ms, hs⟩
theorem G_lenB (t i : Nat) {cs : List D} {xs : List (List D)} (ht : getV s.fr t = .one (.d (.bx cs))) (hi : cs[i]? = some (.sl xs)) (h : xs.length < lenMax → G S k s) : G S k s := by
  rintro Y a w ⟨H, an, F, ms, hs⟩
  obtain ⟨u, hu, hd⟩ := hs.fr.get (getV_some _ _ _ ht (by simp))
  have hd : Den H (.bx cs) u := hd
  cases hd with
  | bx => rename_i h3; exact h (den_len (h3 _ _ hi)) Y a w ⟨H, an, F, ms, hs⟩
theorem G_lenC (j : Nat) {sz ver : Nat} {xs : List (List D)} (hj : getC s.own j = .row sz ver xs) (h : xs.length < lenMax → G S k s) : G S k s := by
  rintro Y a w ⟨H, an, F, ms, hs⟩
  obtain ⟨p, _, hsc⟩ := hs.own j _ (getC_some hj (by simp))
  exact h hsc.2.2.2.2.1 Y a w ⟨H, an, F, ms, hs⟩
end
theorem inK_nat {i n : Nat} (h : i < n) (hn : n < lenMax) : inK .i64 ((i : Int) + 1) := by
  unfold inK lenMax at *
  simp [IntKind.min, IntKind.max, IntKind.signed, IntKind.bits]
  omega
theorem inK_dec {i : Nat} (hn : i < lenMax) : inK .i64 ((i : Int) - 1) := by
  unfold inK lenMax at *
  simp [IntKind.min, IntKind.max, IntKind.signed, IntKind.bits]
  omega
section
variable {S : Sx} {Y : Dyn} {k : List MI} {s : St}
/-- A loop that is left in its first round. -/
theorem G_loop1 {x : MC} (h : G S (.code x :: .again (fun _ => False) :: k) s) : G S (.code (.loop x) :: k) s := by
  intro Y a w hs hs' c hc
  obtain ⟨b, rfl, hb⟩ := trC_loop hc
  refine wpIn_loop (fun a w => Sat S Y s a w) (fun _ _ => 0) hs fun a w hJ => ?_
  refine wpIn_mono (h Y a w hJ hs' b hb) ?_
  intro e a' w' hm
  cases e with
  | normal => obtain ⟨_, _, hf⟩ := hm; exact hf.elim
  | _ => exact hm
end
end Go.Fw
