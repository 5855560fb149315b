/- The framework, part 14: whatever operation it is, it does what 'Ev' says. -/
import Derived.Test.YtnampnnphgedhaaDoorFwM
set_option linter.all false
namespace Go.Fw
open Go

section
variable {S : Sx} {Y : Dyn} {s : St} {a : Act} {w w' : World} {H : Heap} {an : Anc} {F : Nat → Nat → Prop} {ms : List Nat} {o : Oper} {v : V}

/-- Is an operation a call of a function? -/
def isCall : MOp → Bool
  | .call .. => true
  | .callv .. => true
  | _ => false

theorem toList_one {α : Type} {xs : Array α} {x : α} (h : xs.toList = [x]) : xs = #[x] := Array.ext' (by simpa using h)
theorem toList_two {α : Type} {xs : Array α} {x y : α} (h : xs.toList = [x, y]) : xs = #[x, y] := Array.ext' (by simpa using h)

theorem goes_op {imm : Bool} {m : MOp} {own' : List Ch} (h : SatX S Y s a w H an F ms) (ht : trOp0 S.P imm o.op = some m) (hv : Ev S m (evO s.fr) s.own v own') :
    Goes S Y s.fr own' a ms v ((execOp a.eval o).run S.P w) := by
  generalize ho : o.op = op at ht
  unfold trOp0 at ht
  split at ht
  case h_1 x => cases ht; obtain ⟨rfl, rfl⟩ := hv; exact goes_move h (.inl ho) rfl
  case h_2 x => cases ht; obtain ⟨rfl, rfl⟩ := hv; exact goes_move h (.inr ho) rfl
  case h_3 c x y => cases ht; obtain ⟨rfl, hv⟩ := hv; exact goes_pick h ho hv
  case h_4 e =>
    cases hz : zeroOf S.P e with
    | none => simp [hz] at ht
    | some z => simp [hz] at ht; subst ht; exact goes_alloc h ho hz hv
  case h_5 e x =>
    cases imm with
    | true => simp at ht; subst ht; obtain ⟨h1, rfl, h2⟩ := hv; exact goes_ibox h ho ⟨h1, h2⟩
    | false => simp at ht; subst ht; exact goes_box h ho hv
  case h_6 t ps =>
    split at ht
    · rename_i hf
      cases hz : zeroOf S.P t with
      | none => simp [hz] at ht
      | some z =>
        cases hq : partsOf S.P t ps.toList with
        | none => simp [hz, hq] at ht
        | some q => simp [hz, hq] at ht; subst ht; obtain ⟨rfl, hv⟩ := hv; exact goes_build h ho hf hz hq hv
    · cases ht
  case h_7 t len ps =>
    split at ht
    · rename_i e he
      cases hn : szOf S.P e with
      | none => simp [hn] at ht
      | some n =>
        cases hz : zeroOf S.P e with
        | none => simp [hn, hz] at ht
        | some z =>
          simp only [hn, hz, Option.bind_some, Option.map_some, Option.some.injEq] at ht
          split at ht
          · subst ht; exact goes_bslO h ho he hn hz hv
          · subst ht; obtain ⟨rfl, hv⟩ := hv; exact goes_bslice h ho he hn hz hv
    · cases ht
  case h_8 t x =>
    cases hn : szOf S.P t with
    | none => simp [hn] at ht
    | some n => simp [hn] at ht; subst ht; obtain ⟨rfl, hv⟩ := hv; exact goes_load h ho hn hv
  case h_9 t x y =>
    cases hn : szOf S.P t with
    | none => simp [hn] at ht
    | some n => simp [hn] at ht; subst ht; exact goes_store h ho hn hv
  case h_10 t x f =>
    split at ht
    · rename_i fs hfs
      cases hg : fs[f]? with
      | none => simp [hg] at ht
      | some g =>
        cases hn : szOf S.P g.type with
        | none => simp [hg, hn] at ht
        | some n =>
          simp [hg, hn] at ht
          obtain ⟨hn0, rfl⟩ := ht
          obtain ⟨rfl, hv⟩ := hv
          exact goes_fad h ho hfs hg hn hn0 hv
    · cases ht
  case h_11 t x i =>
    split at ht
    · rename_i e he
      cases hn : szOf S.P e with
      | none => simp [hn] at ht
      | some n => simp [hn] at ht; subst ht; obtain ⟨rfl, hv⟩ := hv; exact goes_iad h ho he hn hv
    · rename_i len e he
      cases hn : szOf S.P e with
      | none => simp [hn] at ht
      | some n => simp [hn] at ht; subst ht; obtain ⟨rfl, hv⟩ := hv; exact goes_iadA h ho he hn hv
    · cases ht
  case h_12 t x i =>
    split at ht
    · rename_i he; cases ht; obtain ⟨rfl, hv⟩ := hv; exact goes_idxS h ho he hv
    · cases ht
  case h_13 op t x y t2 =>
    split at ht
    · rename_i fs hfs
      cases hk : flatOf S.P t with
      | none => simp [hk] at ht
      | some ks =>
        simp only [hk, Option.bind_some] at ht
        split at ht
        · cases ht; obtain ⟨rfl, hv⟩ := hv; exact goes_eqs (neg := false) h ho hk hv
        · cases ht; obtain ⟨rfl, hv⟩ := hv; exact goes_eqs (neg := true) h ho hk hv
        · cases ht
    · cases ht; obtain ⟨rfl, hv⟩ := hv; exact goes_bin (kd := .i) h ho trivial hv
    · cases ht; obtain ⟨rfl, hv⟩ := hv; exact goes_bin (kd := .s) h ho trivial hv
    · rename_i hb; cases ht; obtain ⟨rfl, hv⟩ := hv; exact goes_bin (kd := .b) h ho hb hv
    · rename_i d _ _ _ _ hd
      cases hk : nkOf d with
      | none => simp [hk] at ht
      | some kd =>
        simp only [hk, Option.bind_some] at ht
        split at ht
        · rename_i hn
          split at ht
          · cases ht; obtain ⟨rfl, hv⟩ := hv; exact goes_nilq (neg := false) h ho hd hk hn hv
          · cases ht; obtain ⟨rfl, hv⟩ := hv; exact goes_nilq (neg := true) h ho hd hk hn hv
          · cases ht
        · cases ht
    · cases ht
  case h_14 t x => cases ht; obtain ⟨rfl, hv⟩ := hv; exact goes_not h ho hv
  case h_15 t t2 x =>
    split at ht
    · rename_i h1 h2; cases ht; obtain ⟨rfl, hv⟩ := hv; exact goes_conv h ho h1 h2 hv
    · cases ht
  case h_16 t x =>
    split at ht
    · cases ht
    · cases ht
    · rename_i hni hnn
      cases ht
      obtain ⟨rfl, hv⟩ := hv
      cases hd : S.P.underlying t with
      | none => exact absurd hd hnn
      | some d => exact goes_mkI h ho hd (fun m e => hni m (by rw [hd, e])) hv
  case h_17 f first caps =>
    split at ht
    · rename_i hf; cases ht; obtain ⟨rfl, hv⟩ := hv; exact goes_mkF h ho hf hv
    · rename_i x hf
      split at ht
      · rename_i hcs; cases ht; obtain ⟨rfl, hv⟩ := hv; exact goes_mkMv h ho hf hcs hv
      · cases ht
    · cases ht
  case h_18 t => cases ht; exact goes_mkM h ho hv
  case h_19 t m k ok =>
    split at ht
    · rename_i kt e he
      cases hq : keyOf S.P kt with
      | none => simp [hq] at ht
      | some q =>
        cases hz : zeroVOf S.P e with
        | none => simp [hq, hz] at ht
        | some z => simp [hq, hz] at ht; subst ht; obtain ⟨rfl, hv⟩ := hv; exact goes_lkp h ho he hq hz hv
    · cases ht
  case h_20 t m k x =>
    split at ht
    · rename_i kt e he
      cases hq : keyOf S.P kt with
      | none => simp [hq] at ht
      | some q => simp [hq] at ht; subst ht; exact goes_mupd h (.inl ho) he hq hv
    · cases ht
  case h_21 t m k x =>
    split at ht
    · rename_i kt e he
      cases hq : keyOf S.P kt with
      | none => simp [hq] at ht
      | some q => simp [hq] at ht; subst ht; exact goes_mupd h (.inr ho) he hq hv
    · cases ht
  case h_22 t l c =>
    split at ht
    · rename_i e he
      split at ht
      · rename_i p q
        split at ht
        · rename_i hpq
          cases hn : szOf S.P e with
          | none => simp [hn] at ht
          | some n =>
            cases hb : bytesAt S.P e with
            | none => simp [hn, hb] at ht
            | some b =>
              cases hz : zeroOf S.P e with
              | none => simp [hn, hb, hz] at ht
              | some z => simp [hn, hb, hz] at ht; subst ht; exact goes_mkS h ho he (.inl (by rw [hpq])) hn hb hz hv
        · cases ht
      · rename_i k p k' q
        split at ht
        · rename_i hpq
          cases hn : szOf S.P e with
          | none => simp [hn] at ht
          | some n =>
            cases hb : bytesAt S.P e with
            | none => simp [hn, hb] at ht
            | some b =>
              cases hz : zeroOf S.P e with
              | none => simp [hn, hb, hz] at ht
              | some z => simp [hn, hb, hz] at ht; subst ht; exact goes_mkS h ho he (.inr ⟨k, k', p, rfl, by rw [hpq]; rfl⟩) hn hb hz hv
        · cases ht
      · cases ht
    · cases ht
  case h_23 t x lo hi =>
    split at ht
    · rename_i he; cases ht; obtain ⟨rfl, hv⟩ := hv; exact goes_slcS h ho he hv
    · rename_i e he
      cases hn : szOf S.P e with
      | none => simp [hn] at ht
      | some n => simp [hn] at ht; subst ht; exact goes_slc h ho he hn hv
    · cases ht
  case h_24 x i => cases ht; obtain ⟨rfl, hv⟩ := hv; exact goes_ext h ho hv
  case h_25 args tys =>
    split at ht
    · rename_i x t hx hts
      have e1 := toList_one hx
      have e2 := toList_one hts
      subst e1 e2
      split at ht
      · rename_i he; cases ht; obtain ⟨rfl, hv⟩ := hv; exact goes_len h ho (.inl ⟨rfl, he⟩) hv
      · rename_i e he; cases ht; obtain ⟨rfl, hv⟩ := hv; exact goes_len h ho (.inr (.inl ⟨rfl, e, he⟩)) hv
      · rename_i k e he; cases ht; obtain ⟨rfl, hv⟩ := hv; exact goes_len h ho (.inr (.inr ⟨rfl, k, e, he⟩)) hv
      · cases ht
    · cases ht
  case h_26 args tys =>
    split at ht
    · rename_i x y t t' hx hts
      have e1 := toList_two hx
      have e2 := toList_two hts
      subst e1 e2
      split at ht
      · rename_i htt
        subst htt
        split at ht
        · rename_i e he
          cases hn : szOf S.P e with
          | none => simp [hn] at ht
          | some n =>
            cases hb : bytesAt S.P e with
            | none => simp [hn, hb] at ht
            | some b =>
              cases hz : zeroOf S.P e with
              | none => simp [hn, hb, hz] at ht
              | some z =>
                simp only [hn, hb, hz, Option.bind_some] at ht
                split at ht
                · cases ht
                · rename_i hnz
                  cases ht
                  simp at hnz
                  exact goes_app (ty := 0) h ho he hn hb hz hnz.1 hnz.2 hv
        · cases ht
      · cases ht
    · cases ht
  case h_27 args tys _ =>
    split at ht
    · rename_i x y hx
      have e1 := toList_two hx
      subst e1
      cases ht; obtain ⟨rfl, hv⟩ := hv; exact goes_min (mx := false) h ho hv
    · cases ht
  case h_28 args tys _ =>
    split at ht
    · rename_i x y hx
      have e1 := toList_two hx
      subst e1
      cases ht; obtain ⟨rfl, hv⟩ := hv; exact goes_min (mx := true) h ho hv
    · cases ht
  case h_29 t x =>
    split at ht
    · rename_i he; cases ht; exact goes_rng h ho he hv
    · cases ht
  case h_30 x => cases ht; exact goes_nxt h ho hv
  case h_31 x xt t ok =>
    split at ht
    · cases ht
    · cases ht
    · rename_i hni hnn
      cases hz : zeroVOf S.P t with
      | none => simp [hz] at ht
      | some z =>
        simp [hz] at ht; subst ht; obtain ⟨rfl, hv⟩ := hv
        cases hd : S.P.underlying t with
        | none => exact absurd hd hnn
        | some d => exact goes_tas h ho hd (fun m e => hni m (by rw [hd, e])) hz hv
  case h_32 => cases ht
end
end Go.Fw
