/- The framework, part 22: control. -/
import Derived.Test.YtnampnnphgedhaaDoorFwU
set_option linter.all false
namespace Go.Fw
open Go

section
variable {S : Sx} {Y : Dyn} {k : List MI} {s : St} {a : Act} {w : World} {m m' : MC} {P : Program} {hs : List Nat} {c : Code}

/-! ### Which code a small code is of -/
theorem trC_reg {d : Bool} {l : List MO} (h : trC P hs c = some (.reg d l)) : ∃ id ops, c = .region id ops d ∧ trR P hs ops d = some l := by
  cases c <;> simp [trC, Option.bind_eq_some_iff] at h
  obtain ⟨h1, rfl⟩ := h
  exact ⟨_, _, rfl, h1⟩
theorem trC_seq {x y : MC} (h : trC P hs c = some (.seq x y)) : ∃ a b, c = .seq a b ∧ trC P hs a = some x ∧ trC P hs b = some y := by
  cases c <;> simp [trC, Option.bind_eq_some_iff] at h
  exact ⟨_, _, rfl, h.1, h.2⟩
theorem trC_cond {o : Opd} {x y : MC} (h : trC P hs c = some (.cond o x y)) : ∃ t a b, c = .cond t a b ∧ opdOf t = o ∧ trC P hs a = some x ∧ trC P hs b = some y := by
  cases c <;> simp [trC, Option.bind_eq_some_iff] at h
  obtain ⟨_, h1, _, h2, h3, rfl, rfl⟩ := h
  exact ⟨_, _, _, rfl, h3, h1, h2⟩
theorem trC_blk {id : Nat} {x : MC} (h : trC P hs c = some (.blk id x)) : ∃ b, c = .block id b ∧ trC P hs b = some x := by
  cases c <;> simp [trC, Option.bind_eq_some_iff] at h
  obtain ⟨h1, rfl⟩ := h
  exact ⟨_, rfl, h1⟩
theorem trC_loop {x : MC} (h : trC P hs c = some (.loop x)) : ∃ b, c = .loop b ∧ trC P hs b = some x := by
  cases c <;> simp [trC, Option.bind_eq_some_iff] at h
  exact ⟨_, rfl, h⟩
theorem trC_scope {x : MC} (h : trC P hs c = some (.scope x)) : ∃ b, c = .scope b ∧ trC P hs b = some x := by
  cases c <;> simp [trC, Option.bind_eq_some_iff] at h
  exact ⟨_, rfl, h⟩
theorem trC_exit {id : Nat} (h : trC P hs c = some (.exit id)) : c = .exit id := by
  cases c <;> simp [trC, Option.bind_eq_some_iff] at h
  rw [h]
theorem trC_ret (h : trC P hs c = some .ret) : c = .ret := by
  cases c <;> simp [trC, Option.bind_eq_some_iff] at h
  rfl
theorem trC_skip (h : trC P hs c = some .skip) : c = .skip ∨ ∃ l, c = .label l := by
  cases c <;> simp [trC, Option.bind_eq_some_iff] at h
  · exact .inl rfl
  · exact .inr ⟨_, rfl⟩

theorem Mx_then {x : MC} {Q : Exit → Act → World → Prop} {P' : Act → World → Prop} (hP : ∀ a w, Mx S Y (.code x :: k) .normal a w → P' a w) (hQ : ∀ e a w, e ≠ .normal → Mx S Y k e a w → Q e a w) :
    ∀ e a w, Mx S Y (.code x :: k) e a w → Exit.then P' Q e a w := by
  intro e a w h
  cases e with
  | normal => exact hP a w h
  | _ => exact hQ _ a w (by simp) h

/-- A REGION: it is enough to work out 'VO'. -/
theorem G_reg {d : Bool} {l : List MO} (h : VO S d k l s) : G S (.code (.reg d l) :: k) s := by
  intro Y a w hs hs' c hc
  obtain ⟨id, ops, rfl, hr⟩ := trC_reg hc
  cases d with
  | false =>
    simp only [trR, Option.map_eq_some_iff] at hr
    obtain ⟨rs, ht, rfl⟩ := hr
    refine wpIn_region ?_
    have := ops_text (Q := Mx S Y k) (ops := ops) (K := G S k) (fun s a w hs hk => hk Y a w hs) ops.toList 0 rs s a w (by simp) ht (vc_runs h) hs
    rwa [Array.length_toList, ← List.range_eq_range'] at this
  | true =>
    simp only [trR, Option.bind_eq_some_iff] at hr
    obtain ⟨rs, ht, hr⟩ := hr
    split at hr
    · rename_i hchk
      cases hr
      simp only [Bool.and_eq_true] at hchk
      obtain ⟨⟨hm, he⟩, hd⟩ := hchk
      refine wpIn_region_any hm ?_
      obtain ⟨vs, os, h0, hK, hst⟩ := (vc_runs h).trace
      obtain ⟨H, an, F, ms, hsx⟩ := hs
      have hD : ∀ i, (Array.replicate ops.size false).getD i false = false := fun i => by
        simp only [Array.getD_eq_getD_getElem?, Array.getElem?_replicate]
        split <;> rfl
      refine region_any he hd ht hst (fun a w hs => hK Y a w hs) ops.size _ 0 a _ (by simp) (by simp) ⟨fun k i hk => (by simp only [hD] at hk; cases hk), fun i r _ _ => (by simp only [hD]; simp), Nat.zero_le _⟩ ?_
      rw [frD_none _ _ _ _ hD, h0]
      exact ⟨H, an, F, ms, hsx.drawn _⟩
    · cases hr

theorem G_seq {x y : MC} (h : G S (.code x :: .code y :: k) s) : G S (.code (.seq x y) :: k) s := by
  intro Y a w hs hs' c hc
  obtain ⟨c1, c2, rfl, h1, h2⟩ := trC_seq hc
  refine wpIn_seq (wpIn_mono (h Y a w hs hs' c1 h1) ?_)
  exact Mx_then (fun a w hm => hm hs' c2 h2) (fun _ _ _ _ h => h)

theorem G_cond {o : Opd} {x y : MC} (h : match evO s.fr o with
    | .one (.d (.bool t)) => (t = true → G S (.code x :: k) s) ∧ (t = false → G S (.code y :: k) s)
    | _ => False) : G S (.code (.cond o x y) :: k) s := by
  intro Y a w hs hs' c hc
  obtain ⟨t, c1, c2, rfl, rfl, h1, h2⟩ := trC_cond hc
  split at h
  · rename_i b e
    obtain ⟨H, an, F, ms, hx⟩ := hs
    have hb := den_bool (e ▸ hx.ev t)
    refine wpIn_cond_split hb (fun hb => ?_) (fun hb => ?_)
    · exact h.1 hb Y a w ⟨H, an, F, ms, hx⟩ hs' c1 h1
    · exact h.2 hb Y a w ⟨H, an, F, ms, hx⟩ hs' c2 h2
  · exact h.elim

theorem G_blk {id : Nat} {x : MC} (h : G S (.code x :: .blk id :: k) s) : G S (.code (.blk id x) :: k) s := by
  intro Y a w hs hs' c hc
  obtain ⟨c1, rfl, h1⟩ := trC_blk hc
  refine wpIn_block (wpIn_mono (h Y a w hs hs' c1 h1) ?_)
  intro e a w hm
  cases e <;> exact hm
theorem G_blk_end {id : Nat} (h : G S k s) : G S (.blk id :: k) s := fun Y a w hs => h Y a w hs
theorem G_skip (h : G S k s) : G S (.code .skip :: k) s := by
  intro Y a w hs hs' c hc
  rcases trC_skip hc with rfl | ⟨l, rfl⟩
  · exact wpIn_skip (h Y a w hs)
  · exact wpIn_label (h Y a w hs)

/-- Where an exit leads. -/
def exitK (id : Nat) : List MI → Option (List MI)
  | .code _ :: k => exitK id k
  | .blk i :: k => if i = id then some k else exitK id k
  | .again _ :: k => exitK id k
  | _ => none
theorem exitK_spec {id : Nat} : ∀ {k k' : List MI}, exitK id k = some k' → ∀ Y a w, Mx S Y k' .normal a w → Mx S Y k (.exit id) a w
  | .code _ :: k, k', h, Y, a, w, hm => exitK_spec (k := k) h Y a w hm
  | .again _ :: k, k', h, Y, a, w, hm => exitK_spec (k := k) h Y a w hm
  | .blk i :: k, k', h, Y, a, w, hm => by
    simp only [exitK] at h
    split at h
    · rename_i e
      cases h
      subst e
      simpa [Mx] using hm
    · rename_i e
      simp only [Mx]
      rw [if_neg (fun e' => e e'.symm)]
      exact exitK_spec h Y a w hm
  | .rnd _ :: _, _, h, _, _, _, _ => by cases h
  | .fin :: _, _, h, _, _, _, _ => by cases h
  | [], _, h, _, _, _, _ => by cases h
theorem G_exit {id : Nat} {k' : List MI} (he : exitK id k = some k') (h : G S k' s) : G S (.code (.exit id) :: k) s := by
  intro Y a w hs hs' c hc
  rw [trC_exit hc]
  exact wpIn_exit (exitK_spec he Y a w (h Y a w hs))

/-- Is there the function's end, or a round's? -/
def retK : List MI → Option (List MI)
  | .code _ :: k => retK k
  | .blk _ :: k => retK k
  | .again _ :: k => retK k
  | .fin :: k => some (.fin :: k)
  | .rnd p :: k => some (.rnd p :: k)
  | [] => none
theorem retK_spec : ∀ {k k' : List MI}, retK k = some k' → ∀ Y a w, Mx S Y k' .ret a w → Mx S Y k .ret a w
  | .code _ :: k, k', h, Y, a, w, hm => retK_spec (k := k) h Y a w hm
  | .again _ :: k, k', h, Y, a, w, hm => retK_spec (k := k) h Y a w hm
  | .blk i :: k, k', h, Y, a, w, hm => retK_spec (k := k) h Y a w hm
  | .rnd _ :: _, _, h, _, _, _, hm => by cases h; exact hm
  | .fin :: _, _, h, _, _, _, hm => by cases h; exact hm
  | [], _, h, _, _, _, _ => by cases h
/-- The end of a function: what the results are. -/
def FinS (S : Sx) (s : St) : Prop := match resVs s S.rs with
  | some res => S.R res.nrm2 s.own ∨ (S.np = 0 ∧ res.refsT = [] ∧ S.R res.nrm2 [])
  | none => False
theorem FinS.x {e : Exit} (h : FinS S s) (he : e = .normal ∨ e = .ret) {Y : Dyn} {a : Act} {w : World} (hs : Sat S Y s a w) : Mx S Y (.fin :: k) e a w := by
  unfold FinS at h
  split at h
  · rename_i res hr; exact ⟨he, s, res, hs, hr, h⟩
  · exact h.elim
theorem G_ret {k' : List MI} (he : retK k = some (.fin :: k')) (h : FinS S s) : G S (.code .ret :: k) s := by
  intro Y a w hs hs' c hc
  rw [trC_ret hc]
  exact wpIn_ret (retK_spec he Y a w (h.x (.inr rfl) hs))
theorem G_fin (h : FinS S s) : G S (.fin :: k) s := fun _ _ _ hs => h.x (.inl rfl) hs
theorem G_rnd {p : Exit → St → Prop} (h : p .normal s) : G S (.rnd p :: k) s := fun _ _ _ hs => ⟨.inl rfl, s, hs, h⟩
theorem G_ret_rnd {p : Exit → St → Prop} {k' : List MI} (he : retK k = some (.rnd p :: k')) (h : p .ret s) : G S (.code .ret :: k) s := by
  intro Y a w hs hs' c hc
  rw [trC_ret hc]
  exact wpIn_ret (retK_spec he Y a w ⟨.inr (.inl rfl), s, hs, h⟩)
theorem G_again {p : St → Prop} (h : p s) : G S (.again p :: k) s := fun _ _ _ hs => ⟨s, hs, h⟩

theorem exists_least {p : Nat → Prop} (h : ∃ n, p n) : ∃ n, p n ∧ ∀ m, p m → n ≤ m := by
  obtain ⟨n, hn⟩ := h
  induction n using Nat.strongRecOn with
  | _ n ih =>
    by_cases hx : ∃ m, m < n ∧ p m
    · obtain ⟨m, hm, hp⟩ := hx; exact ih m hm hp
    · exact ⟨n, hn, fun m hm => by
        rcases Nat.lt_or_ge m n with h | h
        · exact absurd ⟨m, h, hm⟩ hx
        · exact h⟩
open Classical in
/-- A LOOP: an invariant, with a number that falls. -/
theorem G_loop {x : MC} (I : Nat → St → Prop) (n : Nat) (h0 : I n s) (h : ∀ n s, I n s → G S (.code x :: .again (fun s' => ∃ n', n' < n ∧ I n' s') :: k) s) : G S (.code (.loop x) :: k) s := by
  intro Y a w hs hs' c hc
  obtain ⟨b, rfl, hb⟩ := trC_loop hc
  let J : Act → World → Prop := fun a w => ∃ n s, I n s ∧ Sat S Y s a w
  let μ : Act → World → Nat := fun a w => if h : ∃ n s, I n s ∧ Sat S Y s a w then Classical.choose (exists_least h) else 0
  refine wpIn_loop J μ ⟨n, s, h0, hs⟩ fun a w hJ => ?_
  have hμ : μ a w = Classical.choose (exists_least hJ) := dif_pos hJ
  obtain ⟨⟨s1, hI, hs1⟩, _⟩ := Classical.choose_spec (exists_least hJ)
  refine wpIn_mono (h _ s1 hI Y a w hs1 hs' b hb) ?_
  intro e a' w' hm
  cases e with
  | normal =>
    obtain ⟨s2, hs2, n', hlt, hI2⟩ := hm
    have hJ' : J a' w' := ⟨n', s2, hI2, hs2⟩
    refine ⟨hJ', ?_⟩
    have hμ' : μ a' w' = Classical.choose (exists_least hJ') := dif_pos hJ'
    rw [hμ, hμ']
    exact Nat.lt_of_le_of_lt ((Classical.choose_spec (exists_least hJ')).2 _ ⟨s2, hI2, hs2⟩) hlt
  | _ => exact hm
end
end Go.Fw
