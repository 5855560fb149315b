/- Chapter 7,part 14: keys in order: plain laws. -/
import Derived.Test.YtejnfjophhnaeaaGreatDoorL07O
import Derived.Lib.MinMaxS
set_option linter.all false
namespace Go.Fw.L07
open Go Go.Fw
set_option maxRecDepth 4000
def ltL (a b : List UInt8) : Prop := Op.bytesLess a b = true
theorem X6h : ∀ a : List UInt8,¬ ltL a a
 | [] => by simp [ltL,Op.bytesLess]
 | a :: l => by
  have := X6h l
  simp only [ltL] at this ⊢
  simp [Op.bytesLess,this]
theorem Xpi : ∀ {a b c : List UInt8},ltL a b -> ltL b c -> ltL a c
 | [],[],_,h,_ => absurd h (by simp [ltL,Op.bytesLess])
 | [],_ :: _,[],_,h => absurd h (by simp [ltL,Op.bytesLess])
 | [],_ :: _,_ :: _,_,_ => by simp [ltL,Op.bytesLess]
 | _ :: _,[],_,h,_ => absurd h (by simp [ltL,Op.bytesLess])
 | _ :: _,_ :: _,[],_,h => absurd h (by simp [ltL,Op.bytesLess])
 | a :: x,b :: y,c :: z,h,k => by
  simp only [ltL,Op.bytesLess,Bool.or_eq_true,decide_eq_true_eq,Bool.and_eq_true,beq_iff_eq] at h k ⊢
  rcases h with h | ⟨rfl,h⟩
  ·rcases k with k | ⟨rfl,_⟩
   ·exact .inl (UInt8.lt_trans h k)
   ·exact .inl h
  ·rcases k with k | ⟨rfl,k⟩
   ·exact .inl k
   ·exact .inr ⟨rfl,Xpi (a := x) h k⟩
theorem X6i : ∀ a b : List UInt8,ltL a b \/ a = b \/ ltL b a
 | [],[] => .inr (.inl rfl)
 | [],_ :: _ => .inl (by simp [ltL,Op.bytesLess])
 | _ :: _,[] => .inr (.inr (by simp [ltL,Op.bytesLess]))
 | a :: x,b :: y => by
  simp only [ltL,Op.bytesLess,Bool.or_eq_true,decide_eq_true_eq,Bool.and_eq_true,beq_iff_eq]
  rcases UInt8.lt_or_lt_of_ne (a := a) (b := b) |> (fun f => if h : a = b then Or.inr h else Or.inl (f h)) with h | rfl
  ·rcases h with h | h
   ·exact .inl (.inl h)
   ·exact .inr (.inr (.inl h))
  ·rcases X6i x y with h | rfl | h
   ·exact .inl (.inr ⟨rfl,h⟩)
   ·exact .inr (.inl rfl)
   ·exact .inr (.inr (.inr ⟨rfl,h⟩))
theorem toList_inj {a b : ByteArray} (h : a.toList = b.toList) : a = b := by
 rw [Lib.toList_data,Lib.toList_data] at h
 cases a; cases b
 simp only [ByteArray.mk.injEq]
 exact Array.toList_inj.1 h
def lex (x y : Sc) : Prop := x.k < y.k \/ (x.k = y.k /\ (x.n < y.n \/ (x.n = y.n /\ ltL x.s.toList y.s.toList)))
theorem Xnj (x : Sc) : ¬ lex x x := by
 have := X6h x.s.toList
 unfold lex; simp only [true_and,not_or,Int.lt_irrefl,not_false_eq_true]; exact this
theorem Xk4 {x y z : Sc} (h : lex x y) (k : lex y z) : lex x z := by
 unfold lex at *
 rcases h with h | ⟨h1,h | ⟨h2,h⟩⟩ <;> rcases k with k | ⟨k1,k | ⟨k2,k⟩⟩
 all_goals first
  | exact .inl (by omega)
  | exact .inr ⟨by omega,.inl (by omega)⟩
  | exact .inr ⟨by omega,.inr ⟨by omega,Xpi h k⟩⟩
theorem X6j (x y : Sc) : lex x y \/ x = y \/ lex y x := by
 unfold lex
 rcases Int.lt_trichotomy x.k y.k with h | h | h
 ·exact .inl (.inl h)
 ·rcases Int.lt_trichotomy x.n y.n with h2 | h2 | h2
  ·exact .inl (.inr ⟨h,.inl h2⟩)
  ·rcases X6i x.s.toList y.s.toList with h3 | h3 | h3
   ·exact .inl (.inr ⟨h,.inr ⟨h2,h3⟩⟩)
   ·refine .inr (.inl ?_)
    have := toList_inj h3
    cases x; cases y
    simp_all
   ·exact .inr (.inr (.inr ⟨h.symm,.inr ⟨h2.symm,h3⟩⟩))
  ·exact .inr (.inr (.inr ⟨h.symm,.inl h2⟩))
 ·exact .inr (.inr (.inl h))
theorem Xvi (a b : Int) : cmpI a b < 0 ↔ a < b := by unfold cmpI; grind
theorem Xpj (a b : Int) : cmpI a b = 0 ↔ a = b := by unfold cmpI; grind
theorem Ygw (a b : ByteArray) : cmpS a b < 0 ↔ ltL a.toList b.toList := by unfold cmpS ltL; grind
theorem X6k (a b c : Int) : orI [a,b,c] = if a = 0 then (if b = 0 then c else b) else a := by
 unfold orI
 cases ea : (a == (0 : Int)) <;> cases eb : (b == (0 : Int)) <;> cases ec : (c == (0 : Int)) <;> simp only [List.find?,bne,ea,eb,ec,Bool.not_true,Bool.not_false,Option.getD_some,Option.getD_none] <;> simp only [beq_eq_false_iff_ne,beq_iff_eq,ne_eq] at ea eb ec <;> simp [ea,eb,ec]
theorem Xk5 (x y : Sc) : Xq6 x y < 0 ↔ lex x y := by
 unfold Xq6
 split
 ·rename_i h; subst h
  exact ⟨fun h => absurd h (by decide),fun h => absurd h (Xnj x)⟩
 ·rw [X6k]
  have k1 := Xvi x.k y.k
  have k2 := Xpj x.k y.k
  have n1 := Xvi x.n y.n
  have n2 := Xpj x.n y.n
  have s1 := Ygw x.s y.s
  unfold lex
  split
  ·rename_i h; have hk := k2.1 h
   split
   ·rename_i h2; have hn := n2.1 h2
    rw [s1]
    exact ⟨fun h => .inr ⟨hk,.inr ⟨hn,h⟩⟩,fun h => by rcases h with h | ⟨_,h | ⟨_,h⟩⟩ <;> first | omega | exact h⟩
   ·rename_i h2
    rw [n1]
    exact ⟨fun h => .inr ⟨hk,.inl h⟩,fun h => by rcases h with h | ⟨_,h | ⟨h,_⟩⟩ <;> first | omega | exact absurd (n2.2 h) h2⟩
  ·rename_i h
   rw [k1]
   exact ⟨fun h => .inl h,fun h1 => by rcases h1 with h1 | ⟨h1,_⟩ <;> first | exact h1 | exact absurd (k2.2 h1) h⟩
abbrev le1 (a b : Pr) : Prop := ¬ lex b.key a.key
theorem X6l {a b c : Pr} (h : le1 a b) (k : le1 b c) : le1 a c := by
 intro hl
 rcases X6j b.key a.key with e | e | e
 ·exact h e
 ·exact k (e ▸ hl)
 ·exact k (Xk4 hl e)
theorem Xpk (x : Pr) (p : List Pr) : ∀ j,j <= p.length -> ∃ i,i <= j /\ insJ Xgd x p j = p.take i ++ x :: p.drop i /\ (∀ y,y ∈ (p.take j).drop i -> lex x.key y.key) /\ (∀ m y,i = m + 1 -> p[m]? = some y -> ¬ lex x.key y.key)
 | 0,_ => ⟨0,Nat.le_refl _,by simp [insJ],by simp,fun m y h => by omega⟩
 | j + 1,h => by
  obtain ⟨y,hy⟩ := Xak (l := p) (i := j) (by omega)
  by_cases hc : Xgd x y < 0
  ·obtain ⟨i,h1,h2,h3,h4⟩ := Xpk x p j (by omega)
   refine ⟨i,by omega,by rw [X34 hy hc,h2],fun z hz => ?_,h4⟩
   rw [List.take_succ,hy] at hz
   simp only [Option.toList_some] at hz
   rw [List.drop_append_of_le_length (by simp; omega)] at hz
   rcases List.mem_append.1 hz with hz | hz
   ·exact h3 z hz
   ·simp only [List.mem_singleton] at hz
    subst hz
    exact (Xk5 _ _).1 hc
  ·refine ⟨j + 1,Nat.le_refl _,Xpd hy hc,fun z hz => ?_,fun m z hm hz => ?_⟩
   ·rw [List.drop_take_self] at hz
    cases hz
   ·obtain rfl : m = j := by omega
    rw [hy] at hz; cases hz
    exact fun k => hc ((Xk5 _ _).2 k)
theorem Xxn {x : Pr} {p : List Pr} (hp : p.Pairwise le1) : (insJ Xgd x p p.length).Pairwise le1 /\ (insJ Xgd x p p.length).Perm (x :: p) := by
 obtain ⟨i,h1,h2,h3,h4⟩ := Xpk x p p.length (Nat.le_refl _)
 rw [List.take_of_length_le (Nat.le_refl _)] at h3
 rw [h2]
 have hsplit : p = p.take i ++ p.drop i := (List.take_append_drop i p).symm
 have hpp := hp
 rw [hsplit,List.pairwise_append] at hpp
 obtain ⟨q1,q2,q3⟩ := hpp
 constructor
 ·rw [List.pairwise_append]
  refine ⟨q1,List.pairwise_cons.2 ⟨fun y hy => fun k => Xnj _ (Xk4 k (h3 y hy)),q2⟩,fun a ha b hb => ?_⟩
  have hax : le1 a x := by
   cases i with
   | zero => simp at ha
   | succ m =>
    obtain ⟨y,hy⟩ := Xak (l := p) (i := m) (by omega)
    have hyx : le1 y x := h4 m y rfl hy
    obtain ⟨k,hk⟩ := List.mem_iff_getElem?.1 ha
    rw [List.getElem?_take] at hk
    split at hk
    ·rename_i hkm
     by_cases hkm2 : k = m
     ·subst hkm2; rw [hy] at hk; cases hk; exact hyx
     ·have := List.pairwise_iff_getElem.1 hp k m (List.getElem?_eq_some_iff.1 hk).1 (List.getElem?_eq_some_iff.1 hy).1 (by omega)
      rw [(List.getElem?_eq_some_iff.1 hk).2,(List.getElem?_eq_some_iff.1 hy).2] at this
      exact X6l this hyx
    ·cases hk
  rcases List.mem_cons.1 hb with rfl | hb
  ·exact hax
  ·exact q3 a ha b hb
 ·have : (p.take i ++ x :: p.drop i).Perm (x :: (p.take i ++ p.drop i)) := List.perm_middle
  rwa [List.take_append_drop] at this
theorem Xnk (l : List Pr) : ∀ i,i <= l.length -> (Xbb Xgd l i).Pairwise le1 /\ (Xbb Xgd l i).Perm (l.take i)
 | 0,_ => by simp [Xbb]
 | i + 1,h => by
  obtain ⟨x,hx⟩ := Xak (l := l) (i := i) (by omega)
  obtain ⟨h1,h2⟩ := Xnk l i (by omega)
  have hl := Xem (c := Xgd) l i (by omega)
  have := Xxn (x := x) h1
  rw [hl] at this
  simp only [Xbb,hx]
  refine ⟨this.1,this.2.trans ?_⟩
  rw [List.take_succ,hx]
  exact (List.Perm.cons x h2).trans (by simpa using (List.perm_append_comm (l₁ := [x]) (l₂ := l.take i)))
theorem Xdd (l : List Pr) : (srt l).Perm l := by
 have := (Xnk l l.length (Nat.le_refl _)).2
 rwa [List.take_of_length_le (Nat.le_refl _)] at this
theorem Waf (l : List Pr) : (srt l).Pairwise le1 := (Xnk l l.length (Nat.le_refl _)).1
abbrev lt1 (a b : Pr) : Prop := lex a.key b.key
theorem X6m {l : List Pr} (h : (l.map Pr.key).Nodup) : (srt l).Pairwise lt1 := by
 have h1 := Waf l
 have h2 : ((srt l).map Pr.key).Nodup := ((Xdd l).map Pr.key).nodup_iff.2 h
 rw [List.Nodup,List.pairwise_map] at h2
 exact (h1.and h2).imp fun {a b} ⟨x,y⟩ => by
  rcases X6j a.key b.key with e | e | e
  ·exact e
  ·exact absurd e y
  ·exact absurd e x
theorem Xpl : ∀ {l m : List Pr},l.Pairwise lt1 -> m.Pairwise lt1 -> l.Perm m -> l = m
 | [],m,_,_,h => (List.nil_perm.1 h).symm
 | a :: l,[],_,_,h => absurd h.length_eq (by simp)
 | a :: l,b :: m,h1,h2,h => by
  have ha : a ∈ b :: m := h.subset (by simp)
  have hb : b ∈ a :: l := h.symm.subset (by simp)
  have e : a = b := by
   rcases List.mem_cons.1 ha with e | ha
   ·exact e
   ·rcases List.mem_cons.1 hb with e | hb
    ·exact e.symm
    ·exact absurd (Xk4 ((List.pairwise_cons.1 h1).1 b hb) ((List.pairwise_cons.1 h2).1 a ha)) (Xnj _)
  subst e
  rw [Xpl (List.pairwise_cons.1 h1).2 (List.pairwise_cons.1 h2).2 ((List.perm_cons a).1 h)]
end Go.Fw.L07
