/- Chapter 7,part 1: comparisons. -/
import Derived.Test.YtejnfjophhnaeaaGreatDoorL07Mini
import Derived.Test.YtejnfjophhnaeaaGreatDoorFd
set_option linter.all false
namespace Go.Fw.L07
open Go Go.Fw
open Go.Fw.Sh renaming intro -> Kg
open Go.Fw renaming Xii -> Ka,Xej -> Ka,Xek -> Ka,Xeh -> Kb,Xio -> Kc,Xip -> Kd,Xei -> Ke,Xel -> Kf,Xik -> Kh,Xij -> Ki,Xfl -> Kj,Xgl -> Kk,Xdv -> Kl,Xfk -> Km,Gx -> Kn
open And renaming intro -> Kp
open Go.Proofs.Tryz renaming prog -> QP
open Go.Fw.V.one renaming injEq -> Qs
open Go.Fw.V.agg renaming injEq -> Qt
open Go.Fw.V.tup renaming injEq -> Qu
open Go.Fw.A.d renaming injEq -> Qv
open Go.Fw.D.bool renaming injEq -> Qw
open Go.Fw.D.int renaming injEq -> Qx
open Go.Fw.D.str renaming injEq -> Qy
open Go.Fw.D.sl renaming injEq -> Qz
open List.cons renaming injEq -> Za
set_option maxRecDepth 4000
variable {gp : Heap}
abbrev vi (n : Int) : V := .one (.d (.int .i64 n))
abbrev vb (b : Bool) : V := .one (.d (.bool b))
abbrev vs (s : ByteArray) : V := .one (.d (.str s))
structure Sc where
 k : Int
 n : Int
 s : ByteArray
 deriving DecidableEq
abbrev Sc.ds (x : Sc) : List D := [.int .i64 x.k,.int .i64 x.n,.str x.s]
abbrev Sc.as (x : Sc) : List A := [.d (.int .i64 x.k),.d (.int .i64 x.n),.d (.str x.s)]
abbrev Sc.v (x : Sc) : V := .agg x.as
abbrev ints (l : List Int) : List (List D) := l.map fun n => [.int .i64 n]
abbrev scs (l : List Sc) : List (List D) := l.map Sc.ds
structure Nd where
 k : Int
 x : Sc
 keys : List Sc
 kids : List Int
 deriving DecidableEq
abbrev Nd.ds (x : Nd) : List D := [.int .i64 x.k,.int .i64 x.x.k,.int .i64 x.x.n,.str x.x.s,.sl (scs x.keys),.sl (ints x.kids)]
abbrev Nd.as (x : Nd) : List A := [.d (.int .i64 x.k),.d (.int .i64 x.x.k),.d (.int .i64 x.x.n),.d (.str x.x.s),.d (.sl (scs x.keys)),.d (.sl (ints x.kids))]
abbrev Nd.v (x : Nd) : V := .agg x.as
abbrev nds (l : List Nd) : List (List D) := l.map Nd.ds
structure Gr where
 root : Int
 l : List Nd
 deriving DecidableEq
abbrev Gr.as (g : Gr) : List A := [.d (.int .i64 g.root),.d (.sl (nds g.l))]
abbrev Gr.v (g : Gr) : V := .agg g.as
theorem Xae {α β : Type} {f : α -> β} {l : List α} {i : Nat} {x : α} (h : l[i]? = some x) : (l.map f)[i]? = some (f x) := by simp [h]
theorem Xak {α : Type} {l : List α} {i : Nat} (h : i < l.length) : ∃ x,l[i]? = some x := ⟨_,List.getElem?_eq_getElem h⟩
theorem Xo7 (x : Int) : Does QP gp 136 [vi x] (vb false) := by
 refine Ytj ?_
 simp only [go_sem]
 repeat' (first | refine Kn rfl ?_ | ((first | refine Ka ?_ | refine Kb ?_ | refine Kc ?_ | refine Kd ?_ | refine Ke ?_); simp only [go_sem]) | refine Kf ?_ | refine Kg ?_ | refine Kp (fun _ => ?_) (fun _ => ?_) | ((first | refine Kh ?_ | refine Ki rfl ?_); simp only [or_self,Qs,Qt,Qu,Qv,Qw,Qx,Qy,Qz,Za,go_sem]))
 all_goals simp
theorem Xo8 (x : ByteArray) : Does QP gp 137 [vs x] (vb false) := by
 refine Ytn ?_
 simp only [go_sem]
 repeat' (first | refine Kn rfl ?_ | ((first | refine Ka ?_ | refine Kb ?_ | refine Kc ?_ | refine Kd ?_ | refine Ke ?_); simp only [go_sem]) | refine Kf ?_ | refine Kg ?_ | refine Kp (fun _ => ?_) (fun _ => ?_) | ((first | refine Kh ?_ | refine Ki rfl ?_); simp only [or_self,Qs,Qt,Qu,Qv,Qw,Qx,Qy,Qz,Za,go_sem]))
def cmpI (a b : Int) : Int := if a < b then -1 else if b < a then 1 else 0
theorem Xkw (x y : Int) : Does QP gp 107 [vi x,vi y] (vi (cmpI x y)) := by
 refine Ysd ?_
 simp only [go_sem]
 repeat' (first | refine Kn rfl ?_ | ((first | refine Ka ?_ | refine Kb ?_ | refine Kc ?_ | refine Kd ?_ | refine Ke ?_); simp only [go_sem]) | refine Kf ?_ | refine Kg ?_ | refine ⟨_,Xo7 _,Sh.intro ?_⟩ | refine ⟨_,⟨Xo7 _,rfl⟩,Sh.intro ?_⟩ | refine Kp (fun _ => ?_) (fun _ => ?_) | ((first | refine Kh ?_ | refine Ki rfl ?_); simp only [or_self,Qs,Qt,Qu,Qv,Qw,Qx,Qy,Qz,Za,go_sem]))
 all_goals (unfold cmpI; grind)
def cmpS (a b : ByteArray) : Int := if Op.bytesLess a.toList b.toList then -1 else if Op.bytesLess a.toList b.toList || decide (a = b) then 0 else 1
theorem Xkx (x y : ByteArray) : Does QP gp 108 [vs x,vs y] (vi (cmpS x y)) := by
 refine Ysl ?_
 simp only [go_sem]
 repeat' (first | refine Kn rfl ?_ | ((first | refine Ka ?_ | refine Kb ?_ | refine Kc ?_ | refine Kd ?_ | refine Ke ?_); simp only [go_sem]) | refine Kf ?_ | refine Kg ?_ | refine ⟨_,Xo8 _,Sh.intro ?_⟩ | refine ⟨_,⟨Xo8 _,rfl⟩,Sh.intro ?_⟩ | refine Kp (fun _ => ?_) (fun _ => ?_) | ((first | refine Kh ?_ | refine Ki rfl ?_); simp only [or_self,Qs,Qt,Qu,Qv,Qw,Qx,Qy,Qz,Za,go_sem]))
 all_goals (unfold cmpS; grind)
def orI (l : List Int) : Int := (l.find? fun x => x != 0).getD 0
theorem Yfc {l : List Int} (h : ∀ x ∈ l,x = 0) : orI l = 0 := by
 unfold orI
 rw [List.find?_eq_none.2 fun x hx => by simp [h x hx]]; rfl
theorem Y9g {l : List Int} {i : Nat} {x : Int} (h : ∀ y ∈ l.take i,y = 0) (hx : l[i]? = some x) (h0 : x ≠ 0) : orI l = x := by
 unfold orI
 have : l = l.take i ++ x :: l.drop (i + 1) := by
  obtain ⟨hi,rfl⟩ := List.getElem?_eq_some_iff.1 hx
  rw [<- List.drop_eq_getElem_cons hi,List.take_append_drop]
 rw [this,List.find?_append,List.find?_eq_none.2 fun y hy => by simp [h y hy]]
 simp [h0]
theorem Xhr {α : Type} {l : List α} {p : α -> Prop} {i : Nat} {x : α} (h : ∀ y ∈ l.take i,p y) (hx : l[i]? = some x) (h0 : p x) : ∀ y ∈ l.take (i + 1),p y := by
 intro y hy
 rw [List.take_succ,hx] at hy
 rcases List.mem_append.1 hy with hy | hy
 ·exact h y hy
 ·simp at hy; subst hy; exact h0
theorem Ykv (l : List Int) : Does QP gp 106 [.one (.d (.sl (ints l)))] (vi (orI l)) := by
 refine Yr5 ?_
 simp only [go_sem]
 repeat' (first | refine Kn rfl ?_ | ((first | refine Ka ?_ | refine Kb ?_ | refine Kc ?_ | refine Kd ?_ | refine Ke ?_); simp only [go_sem]) | refine Kf ?_ | refine Kg ?_ | refine Kp (fun _ => ?_) (fun _ => ?_) | ((first | refine Kh ?_ | refine Ki rfl ?_); simp only [or_self,Qs,Qt,Qu,Qv,Qw,Qx,Qy,Qz,Za,go_sem]))
 refine Xxf 0 rfl fun hl => ?_
 refine Kj (fr 18 [(0,.one (.d (.sl (ints l)))),(3,vi 0),(6,.one (.d (.sl (ints l)))),(7,vi l.length),(8,vi (0 : Nat))]) (by (simp only [go_sem]; repeat' (first | refine Kp ?_ ?_ | exact Or.inl rfl | exact Or.inr rfl | rfl))) ?_
 refine Km (fun mz sz => ∃ i : Nat,i <= l.length /\ mz = l.length - i /\ (∀ y ∈ l.take i,y = 0) /\ sz = ⟨fr 18 [(0,.one (.d (.sl (ints l)))),(3,vi 0),(6,.one (.d (.sl (ints l)))),(7,vi l.length),(8,vi i)],[]⟩) (l.length) ⟨0,Nat.zero_le _,(Nat.sub_zero _).symm,?_,rfl⟩ ?_
 ·simp
 rintro _ _ ⟨i,hi,rfl,hz,rfl⟩
 simp only [List.length_map] at hl
 simp only [go_sem]
 by_cases hil : i < l.length
 ·obtain ⟨x,hx⟩ := Xak hil
  repeat' (first | refine Kn rfl ?_ | ((first | refine Ka ?_ | refine Kb ?_ | refine Kc ?_ | refine Kd ?_ | refine Ke ?_); simp only [go_sem]) | refine Kf ?_ | refine Kg ?_ | refine ⟨_,⟨Int.natCast_nonneg _,(by first | exact Xae hx | (rw [Int.toNat_natCast]; exact Xae hx)),rfl⟩,Sh.intro ?_⟩ | refine Kp (fun _ => ?_) (fun _ => ?_) | ((first | refine Kh ?_ | refine Ki rfl ?_); simp only [or_self,Qs,Qt,Qu,Qv,Qw,Qx,Qy,Qz,Za,go_sem]))
  ·rename_i h; simp at h; rw [Y9g hz hx h]
  ·refine ⟨Xan hil hl,?_⟩
   rename_i h
   refine Kj (fr 18 [(0,.one (.d (.sl (ints l)))),(3,vi 0),(6,.one (.d (.sl (ints l)))),(7,vi l.length),(8,vi (i + 1))]) (by (simp only [go_sem]; repeat' (first | refine Kp ?_ ?_ | exact Or.inl rfl | exact Or.inr rfl | rfl))) ?_
   refine Kl ⟨l.length - (i + 1),by omega,i + 1,by omega,rfl,?_,rfl⟩
   exact Xhr hz hx (by simpa using h)
  ·omega
 ·repeat' (first | refine Kn rfl ?_ | ((first | refine Ka ?_ | refine Kb ?_ | refine Kc ?_ | refine Kd ?_ | refine Ke ?_); simp only [go_sem]) | refine Kf ?_ | refine Kg ?_ | refine Kp (fun _ => ?_) (fun _ => ?_) | ((first | refine Kh ?_ | refine Ki rfl ?_); simp only [or_self,Qs,Qt,Qu,Qv,Qw,Qx,Qy,Qz,Za,go_sem]))
  ·omega
  ·rw [Yfc]
   rw [List.take_of_length_le (by omega)] at hz
   exact hz
def Xq6 (x y : Sc) : Int := if x = y then 0 else orI [cmpI x.k y.k,cmpI x.n y.n,cmpS x.s y.s]
theorem Xo9 (x y : Sc) : (x.k == y.k && (x.n == y.n && decide (x.s = y.s))) = decide (x = y) := by
 cases x; cases y; simp only [Sc.mk.injEq]; grind
theorem X30 (x y : Sc) : Does QP gp 82 [x.v,y.v] (vi (Xq6 x y)) := by
 refine Y74 ?_
 simp only [go_sem]
 repeat' (first | refine Kn rfl ?_ | ((first | refine Ka ?_ | refine Kb ?_ | refine Kc ?_ | refine Kd ?_ | refine Ke ?_); simp only [Xo9,go_sem]) | refine Kf ?_ | refine Kg ?_ | refine ⟨_,Xkw _ _,Sh.intro ?_⟩ | refine ⟨_,⟨Xkw _ _,rfl⟩,Sh.intro ?_⟩ | refine ⟨_,Xkx _ _,Sh.intro ?_⟩ | refine ⟨_,⟨Xkx _ _,rfl⟩,Sh.intro ?_⟩ | refine ⟨_,Ykv [_,_,_],Sh.intro ?_⟩ | refine ⟨_,⟨Ykv [_,_,_],rfl⟩,Sh.intro ?_⟩ | refine Kp (fun _ => ?_) (fun _ => ?_) | ((first | refine Kh ?_ | refine Ki rfl ?_); simp only [Xo9,or_self,Qs,Qt,Qu,Qv,Qw,Qx,Qy,Qz,Za,go_sem]))
 all_goals (rename_i h; simp [Xq6,h])
theorem X31 {α : Type} {l m : List α} {i : Nat} {x y : α} (h : l.take i = m.take i) (hx : l[i]? = some x) (hy : m[i]? = some y) (e : x = y) : l.take (i + 1) = m.take (i + 1) := by
 rw [List.take_succ,List.take_succ,h,hx,hy,e]
theorem Y9h {α : Type} {l m : List α} {i : Nat} {x y : α} (hx : l[i]? = some x) (hy : m[i]? = some y) (e : x ≠ y) : l ≠ m := by
 rintro rfl; rw [hx] at hy; cases hy; exact e rfl
theorem Ykw {α : Type} {l m : List α} (e : ((l.length : Int) != (m.length : Int)) = true) : l ≠ m := by
 rintro rfl; simp at e
theorem Yv1 (l m : List Int) : Does QP gp 20 [.one (.d (.sl (ints l))),.one (.d (.sl (ints m)))] (vb (decide (l = m))) := by
 refine Y5s ?_
 simp only [go_sem]
 repeat' (first | refine Kn rfl ?_ | ((first | refine Ka ?_ | refine Kb ?_ | refine Kc ?_ | refine Kd ?_ | refine Ke ?_); simp only [go_sem]) | refine Kf ?_ | refine Kg ?_ | refine Kp (fun _ => ?_) (fun _ => ?_) | ((first | refine Kh ?_ | refine Ki rfl ?_); simp only [or_self,Qs,Qt,Qu,Qv,Qw,Qx,Qy,Qz,Za,go_sem]))
 ·rename_i h; simp [Ykw h]
 ·rename_i h
  have hlen : l.length = m.length := by simp at h; omega
  refine Xxf 0 rfl fun hl => ?_
  refine Kj (fr 26 [(0,.one (.d (.sl (ints l)))),(1,.one (.d (.sl (ints m)))),(5,vi (0 : Nat))]) (by (simp only [go_sem]; repeat' (first | refine Kp ?_ ?_ | exact Or.inl rfl | exact Or.inr rfl | rfl))) ?_
  refine Km (fun mz sz => ∃ i : Nat,i <= l.length /\ mz = l.length - i /\ (l.take i = m.take i) /\ sz = ⟨fr 26 [(0,.one (.d (.sl (ints l)))),(1,.one (.d (.sl (ints m)))),(5,vi i)],[]⟩) (l.length) ⟨0,Nat.zero_le _,(Nat.sub_zero _).symm,?_,rfl⟩ ?_
  ·simp
  rintro _ _ ⟨i,hi,rfl,hz,rfl⟩
  simp only [List.length_map] at hl
  simp only [go_sem]
  by_cases hil : i < l.length
  ·obtain ⟨x,hx⟩ := Xak hil
   obtain ⟨y,hy⟩ := Xak (l := m) (i := i) (by omega)
   repeat' (first | refine Kn rfl ?_ | ((first | refine Ka ?_ | refine Kb ?_ | refine Kc ?_ | refine Kd ?_ | refine Ke ?_); simp only [go_sem]) | refine Kf ?_ | refine Kg ?_ | refine ⟨_,⟨Int.natCast_nonneg _,(by first | exact Xae hx | (rw [Int.toNat_natCast]; exact Xae hx)),rfl⟩,Sh.intro ?_⟩ | refine ⟨_,⟨Int.natCast_nonneg _,(by first | exact Xae hy | (rw [Int.toNat_natCast]; exact Xae hy)),rfl⟩,Sh.intro ?_⟩ | refine Kp (fun _ => ?_) (fun _ => ?_) | ((first | refine Kh ?_ | refine Ki rfl ?_); simp only [or_self,Qs,Qt,Qu,Qv,Qw,Qx,Qy,Qz,Za,go_sem]))
   ·rename_i h; simp [Y9h hx hy (by simpa using h)]
   ·refine ⟨Xan hil hl,?_⟩
    rename_i h
    refine Kj (fr 26 [(0,.one (.d (.sl (ints l)))),(1,.one (.d (.sl (ints m)))),(5,vi (i + 1))]) (by (simp only [go_sem]; repeat' (first | refine Kp ?_ ?_ | exact Or.inl rfl | exact Or.inr rfl | rfl))) ?_
    refine Kl ⟨l.length - (i + 1),by omega,i + 1,by omega,rfl,?_,rfl⟩
    exact X31 hz hx hy (by simpa using h)
   ·omega
  ·repeat' (first | refine Kn rfl ?_ | ((first | refine Ka ?_ | refine Kb ?_ | refine Kc ?_ | refine Kd ?_ | refine Ke ?_); simp only [go_sem]) | refine Kf ?_ | refine Kg ?_ | refine Kp (fun _ => ?_) (fun _ => ?_) | ((first | refine Kh ?_ | refine Ki rfl ?_); simp only [or_self,Qs,Qt,Qu,Qv,Qw,Qx,Qy,Qz,Za,go_sem]))
   ·omega
   ·rw [List.take_of_length_le (by omega),List.take_of_length_le (by omega)] at hz
    simp [hz]
theorem Y9i (l m : List Sc) : Does QP gp 84 [.one (.d (.sl (scs l))),.one (.d (.sl (scs m)))] (vb (decide (l = m))) := by
 refine Y8b ?_
 simp only [go_sem]
 repeat' (first | refine Kn rfl ?_ | ((first | refine Ka ?_ | refine Kb ?_ | refine Kc ?_ | refine Kd ?_ | refine Ke ?_); simp only [go_sem]) | refine Kf ?_ | refine Kg ?_ | refine Kp (fun _ => ?_) (fun _ => ?_) | ((first | refine Kh ?_ | refine Ki rfl ?_); simp only [or_self,Qs,Qt,Qu,Qv,Qw,Qx,Qy,Qz,Za,go_sem]))
 ·rename_i h; simp [Ykw h]
 ·rename_i h
  have hlen : l.length = m.length := by simp at h; omega
  refine Xxf 0 rfl fun hl => ?_
  refine Kj (fr 26 [(0,.one (.d (.sl (scs l)))),(1,.one (.d (.sl (scs m)))),(12,vi l.length),(13,vi (0 : Nat))]) (by (simp only [go_sem]; repeat' (first | refine Kp ?_ ?_ | exact Or.inl rfl | exact Or.inr rfl | rfl))) ?_
  refine Km (fun mz sz => ∃ i : Nat,i <= l.length /\ mz = l.length - i /\ (l.take i = m.take i) /\ sz = ⟨fr 26 [(0,.one (.d (.sl (scs l)))),(1,.one (.d (.sl (scs m)))),(12,vi l.length),(13,vi i)],[]⟩) (l.length) ⟨0,Nat.zero_le _,(Nat.sub_zero _).symm,?_,rfl⟩ ?_
  ·simp
  rintro _ _ ⟨i,hi,rfl,hz,rfl⟩
  simp only [List.length_map] at hl
  simp only [go_sem]
  by_cases hil : i < l.length
  ·obtain ⟨x,hx⟩ := Xak hil
   obtain ⟨y,hy⟩ := Xak (l := m) (i := i) (by omega)
   repeat' (first | refine Kn rfl ?_ | ((first | refine Ka ?_ | refine Kb ?_ | refine Kc ?_ | refine Kd ?_ | refine Ke ?_); simp only [Xo9,go_sem]) | refine Kf ?_ | refine Kg ?_ | refine ⟨_,⟨Int.natCast_nonneg _,(by first | exact Xae hx | (rw [Int.toNat_natCast]; exact Xae hx)),rfl⟩,Sh.intro ?_⟩ | refine ⟨_,⟨Int.natCast_nonneg _,(by first | exact Xae hy | (rw [Int.toNat_natCast]; exact Xae hy)),rfl⟩,Sh.intro ?_⟩ | refine Kp (fun _ => ?_) (fun _ => ?_) | ((first | refine Kh ?_ | refine Ki rfl ?_); simp only [Xo9,or_self,Qs,Qt,Qu,Qv,Qw,Qx,Qy,Qz,Za,go_sem]))
   ·rename_i h; simp [Y9h hx hy (by simpa using h)]
   ·refine ⟨Xan hil hl,?_⟩
    rename_i h
    refine Kj (fr 26 [(0,.one (.d (.sl (scs l)))),(1,.one (.d (.sl (scs m)))),(12,vi l.length),(13,vi (i + 1))]) (by (simp only [go_sem]; repeat' (first | refine Kp ?_ ?_ | exact Or.inl rfl | exact Or.inr rfl | rfl))) ?_
    refine Kl ⟨l.length - (i + 1),by omega,i + 1,by omega,rfl,?_,rfl⟩
    exact X31 hz hx hy (by simpa using h)
   ·omega
  ·repeat' (first | refine Kn rfl ?_ | ((first | refine Ka ?_ | refine Kb ?_ | refine Kc ?_ | refine Kd ?_ | refine Ke ?_); simp only [go_sem]) | refine Kf ?_ | refine Kg ?_ | refine Kp (fun _ => ?_) (fun _ => ?_) | ((first | refine Kh ?_ | refine Ki rfl ?_); simp only [or_self,Qs,Qt,Qu,Qv,Qw,Qx,Qy,Qz,Za,go_sem]))
   ·omega
   ·rw [List.take_of_length_le (by omega),List.take_of_length_le (by omega)] at hz
    simp [hz]
def cut1 (s : ByteArray) : ByteArray := s.extract 0 (min s.size 100)
theorem X32 (s : ByteArray) : Does QP gp 94 [vs s] (vs (cut1 s)) := by
 refine Y8f ?_
 simp only [go_sem]
 repeat' (first | refine Kn rfl ?_ | ((first | refine Ka ?_ | refine Kb ?_ | refine Kc ?_ | refine Kd ?_ | refine Ke ?_); simp only [go_sem]) | refine Kf ?_ | refine Kg ?_ | refine Kp (fun _ => ?_) (fun _ => ?_) | ((first | refine Kh ?_ | refine Ki rfl ?_); simp only [or_self,Qs,Qt,Qu,Qv,Qw,Qx,Qy,Qz,Za,go_sem]))
 refine ⟨0,min s.size 100,⟨rfl,by split <;> omega,by omega,by omega⟩,Sh.intro ?_⟩
 repeat' (first | refine Kn rfl ?_ | ((first | refine Ka ?_ | refine Kb ?_ | refine Kc ?_ | refine Kd ?_ | refine Ke ?_); simp only [go_sem]) | refine Kf ?_ | refine Kg ?_ | refine Kp (fun _ => ?_) (fun _ => ?_) | ((first | refine Kh ?_ | refine Ki rfl ?_); simp only [or_self,Qs,Qt,Qu,Qv,Qw,Qx,Qy,Qz,Za,go_sem]))
 rfl
def Sc.cut (x : Sc) : Sc := ⟨x.k,x.n,cut1 x.s⟩
theorem Xuh (x : Sc) : Does QP gp 68 [x.v] x.cut.v := by
 refine Y67 ?_
 simp only [go_sem]
 repeat' (first | refine Kn rfl ?_ | ((first | refine Ka ?_ | refine Kb ?_ | refine Kc ?_ | refine Kd ?_ | refine Ke ?_); simp only [go_sem]) | refine Kf ?_ | refine Kg ?_ | refine ⟨_,X32 _,Sh.intro ?_⟩ | refine ⟨_,⟨X32 _,rfl⟩,Sh.intro ?_⟩ | refine Kp (fun _ => ?_) (fun _ => ?_) | ((first | refine Kh ?_ | refine Ki rfl ?_); simp only [or_self,Qs,Qt,Qu,Qv,Qw,Qx,Qy,Qz,Za,go_sem]))
 exact ⟨rfl,rfl,rfl⟩
theorem Xjm (root i : Int) (l : List (List D)) : Does QP gp 78 [.agg [.d (.int .i64 root),.d (.sl l)],vi i] (vb (decide (0 <= i /\ i < l.length))) := by
 refine Y7p ?_
 simp only [go_sem]
 repeat' (first | refine Kn rfl ?_ | ((first | refine Ka ?_ | refine Kb ?_ | refine Kc ?_ | refine Kd ?_ | refine Ke ?_); simp only [go_sem]) | refine Kf ?_ | refine Kg ?_ | refine Kp (fun _ => ?_) (fun _ => ?_) | ((first | refine Kh ?_ | refine Ki rfl ?_); simp only [or_self,Qs,Qt,Qu,Qv,Qw,Qx,Qy,Qz,Za,go_sem]))
 all_goals grind
abbrev Nd.vd (x : Nd) (n : Int) : List D := x.ds ++ [.int .i64 n]
abbrev Nd.vw (x : Nd) (n : Int) : V := .agg (x.as ++ [.d (.int .i64 n)])
theorem Xhs (x : Nd) (n : Int) : Does QP gp 79 [x.vw n] (vb (decide (x.keys.length = x.kids.length))) := by
 refine Y7t ?_
 simp only [go_sem]
 repeat' (first | refine Kn rfl ?_ | ((first | refine Ka ?_ | refine Kb ?_ | refine Kc ?_ | refine Kd ?_ | refine Ke ?_); simp only [go_sem]) | refine Kf ?_ | refine Kg ?_ | refine Kp (fun _ => ?_) (fun _ => ?_) | ((first | refine Kh ?_ | refine Ki rfl ?_); simp only [or_self,Qs,Qt,Qu,Qv,Qw,Qx,Qy,Qz,Za,go_sem]))
 grind
def Nd.zero : Nd := ⟨0,⟨0,0,⟨#[]⟩⟩,[],[]⟩
def ndAt (l : List Nd) (i : Int) : Nd := if 0 <= i /\ i < l.length then (l[i.toNat]?).getD Nd.zero else Nd.zero
def atN (l : List Nd) (i : Int) : Int := if 0 <= i /\ i < l.length then l.length else 0
def atE (l : List Nd) (i : Int) : Int := if 0 <= i /\ i < l.length then 0 else 2
theorem Xq7 (g : Gr) (i : Int) : Does QP gp 49 [g.v,vi i] (.tup [(ndAt g.l i).vw (atN g.l i),vi (atE g.l i)]) := by
 refine Y6n ?_
 simp only [go_sem]
 repeat' (first | refine Kn rfl ?_ | ((first | refine Ka ?_ | refine Kb ?_ | refine Kc ?_ | refine Kd ?_ | refine Ke ?_); simp only [go_sem]) | refine Kf ?_ | refine Kg ?_ | refine ⟨_,Xjm _ _ _,Sh.intro ?_⟩ | refine ⟨_,⟨Xjm _ _ _,rfl⟩,Sh.intro ?_⟩ | refine Kp (fun _ => ?_) (fun _ => ?_) | ((first | refine Kh ?_ | refine Ki rfl ?_); simp only [or_self,Qs,Qt,Qu,Qv,Qw,Qx,Qy,Qz,Za,go_sem]))
 ·rename_i h
  have h : ¬ (0 <= i /\ i < (g.l.length : Int)) := by intro h2; simp [h2] at h
  simp only [ndAt,atN,atE,if_neg h]
  simp [Nd.zero]
 ·rename_i h
  have h : 0 <= i /\ i < (g.l.length : Int) := Classical.byContradiction fun h2 => by simp [h2] at h
  obtain ⟨n,rfl⟩ := Int.eq_ofNat_of_zero_le h.1
  obtain ⟨x,hx⟩ := Xak (l := g.l) (i := n) (by omega)
  have hr : ndAt g.l n = x := by simp only [ndAt,if_pos h,Int.toNat_natCast,hx,Option.getD_some]
  rw [hr]
  refine ⟨_,⟨Int.natCast_nonneg _,(by rw [Int.toNat_natCast]; exact Xae hx),rfl⟩,Sh.intro ?_⟩
  simp only [go_sem]
  repeat' (first | refine Kn rfl ?_ | ((first | refine Ka ?_ | refine Kb ?_ | refine Kc ?_ | refine Kd ?_ | refine Ke ?_); simp only [go_sem]) | refine Kf ?_ | refine Kg ?_ | refine Kp (fun _ => ?_) (fun _ => ?_) | ((first | refine Kh ?_ | refine Ki rfl ?_); simp only [or_self,Qs,Qt,Qu,Qv,Qw,Qx,Qy,Qz,Za,go_sem]))
  simp [atN,atE,h]
abbrev bls (l : List Bool) : List (List D) := l.map fun b => [.bool b]
def idxP {α : Type} (p : α -> Bool) (l : List α) : Int := if l.any p then (l.findIdx p : Int) else -1
theorem Xky {α : Type} {p : α -> Bool} {l : List α} (h : ∀ y ∈ l,p y = false) : idxP p l = -1 := by
 unfold idxP
 rw [if_neg]
 simp only [List.any_eq_true,not_exists,not_and]
 intro y hy; simp [h y hy]
theorem Xq8 {α : Type} {p : α -> Bool} {l : List α} {i : Nat} {x : α} (h : ∀ y ∈ l.take i,p y = false) (hx : l[i]? = some x) (h0 : p x = true) : idxP p l = i := by
 obtain ⟨hi,rfl⟩ := List.getElem?_eq_some_iff.1 hx
 unfold idxP
 rw [if_pos (List.any_eq_true.2 ⟨l[i],List.getElem_mem hi,h0⟩)]
 have : l.findIdx p = i := by
  rw [List.findIdx_eq hi]
  refine ⟨h0,fun j hj => ?_⟩
  have : l[j] ∈ l.take i := by
   rw [List.mem_take_iff_getElem]
   exact ⟨j,by omega,rfl⟩
  exact h _ this
 rw [this]
theorem Xnb {α : Type} (p : α -> Bool) (l : List α) : decide (idxP p l >= 0) = l.any p := by
 unfold idxP
 split
 ·rename_i h; simp [h]
 ·rename_i h; simp at h; simp; exact h
theorem Xmc (l : List Bool) (v : Bool) : Does QP gp 173 [.one (.d (.sl (bls l))),vb v] (vi (idxP (fun y => v == y) l)) := by
 refine Yva ?_
 simp only [go_sem]
 repeat' (first | refine Kn rfl ?_ | ((first | refine Ka ?_ | refine Kb ?_ | refine Kc ?_ | refine Kd ?_ | refine Ke ?_); simp only [go_sem]) | refine Kf ?_ | refine Kg ?_ | refine Kp (fun _ => ?_) (fun _ => ?_) | ((first | refine Kh ?_ | refine Ki rfl ?_); simp only [or_self,Qs,Qt,Qu,Qv,Qw,Qx,Qy,Qz,Za,go_sem]))
 refine Xxf 0 rfl fun hl => ?_
 refine Kj (fr 19 [(0,.one (.d (.sl (bls l)))),(1,vb v),(7,vi l.length),(8,vi (0 : Nat))]) (by (simp only [go_sem]; repeat' (first | refine Kp ?_ ?_ | exact Or.inl rfl | exact Or.inr rfl | rfl))) ?_
 refine Km (fun mz sz => ∃ i : Nat,i <= l.length /\ mz = l.length - i /\ (∀ y ∈ l.take i,(v == y) = false) /\ sz = ⟨fr 19 [(0,.one (.d (.sl (bls l)))),(1,vb v),(7,vi l.length),(8,vi i)],[]⟩) (l.length) ⟨0,Nat.zero_le _,(Nat.sub_zero _).symm,?_,rfl⟩ ?_
 ·simp
 rintro _ _ ⟨i,hi,rfl,hz,rfl⟩
 simp only [List.length_map] at hl
 simp only [go_sem]
 by_cases hil : i < l.length
 ·obtain ⟨x,hx⟩ := Xak hil
  repeat' (first | refine Kn rfl ?_ | ((first | refine Ka ?_ | refine Kb ?_ | refine Kc ?_ | refine Kd ?_ | refine Ke ?_); simp only [go_sem]) | refine Kf ?_ | refine Kg ?_ | refine ⟨_,⟨Int.natCast_nonneg _,(by first | exact Xae hx | (rw [Int.toNat_natCast]; exact Xae hx)),rfl⟩,Sh.intro ?_⟩ | refine Kp (fun _ => ?_) (fun _ => ?_) | ((first | refine Kh ?_ | refine Ki rfl ?_); simp only [or_self,Qs,Qt,Qu,Qv,Qw,Qx,Qy,Qz,Za,go_sem]))
  ·rename_i h; rw [Xq8 hz hx h]
  ·refine ⟨Xan hil hl,?_⟩
   rename_i h
   refine Kj (fr 19 [(0,.one (.d (.sl (bls l)))),(1,vb v),(7,vi l.length),(8,vi (i + 1))]) (by (simp only [go_sem]; repeat' (first | refine Kp ?_ ?_ | exact Or.inl rfl | exact Or.inr rfl | rfl))) ?_
   refine Kl ⟨l.length - (i + 1),by omega,i + 1,by omega,rfl,?_,rfl⟩
   exact Xhr hz hx (by simpa using h)
  ·omega
 ·repeat' (first | refine Kn rfl ?_ | ((first | refine Ka ?_ | refine Kb ?_ | refine Kc ?_ | refine Kd ?_ | refine Ke ?_); simp only [go_sem]) | refine Kf ?_ | refine Kg ?_ | refine Kp (fun _ => ?_) (fun _ => ?_) | ((first | refine Kh ?_ | refine Ki rfl ?_); simp only [or_self,Qs,Qt,Qu,Qv,Qw,Qx,Qy,Qz,Za,go_sem]))
  ·omega
  ·rw [List.take_of_length_le (by omega)] at hz
   rw [Xky hz]
theorem Xht (l : List Bool) (v : Bool) : Does QP gp 154 [.one (.d (.sl (bls l))),vb v] (vb (l.any fun y => v == y)) := by
 refine Yue ?_
 simp only [go_sem]
 repeat' (first | refine Kn rfl ?_ | ((first | refine Ka ?_ | refine Kb ?_ | refine Kc ?_ | refine Kd ?_ | refine Ke ?_); simp only [go_sem]) | refine Kf ?_ | refine Kg ?_ | refine ⟨_,Xmc _ _,Sh.intro ?_⟩ | refine ⟨_,⟨Xmc _ _,rfl⟩,Sh.intro ?_⟩ | refine Kp (fun _ => ?_) (fun _ => ?_) | ((first | refine Kh ?_ | refine Ki rfl ?_); simp only [or_self,Qs,Qt,Qu,Qv,Qw,Qx,Qy,Qz,Za,go_sem]))
 exact Xnb _ _
theorem Xiq (l : List Bool) : Does QP gp 143 [.one (.d (.sl (bls l)))] (vb (l.all id)) := by
 refine Ytr ?_
 simp only [go_sem]
 repeat' (first | refine Kn rfl ?_ | ((first | refine Ka ?_ | refine Kb ?_ | refine Kc ?_ | refine Kd ?_ | refine Ke ?_); simp only [go_sem]) | refine Kf ?_ | refine Kg ?_ | refine ⟨_,Xht _ _,Sh.intro ?_⟩ | refine ⟨_,⟨Xht _ _,rfl⟩,Sh.intro ?_⟩ | refine Kp (fun _ => ?_) (fun _ => ?_) | ((first | refine Kh ?_ | refine Ki rfl ?_); simp only [or_self,Qs,Qt,Qu,Qv,Qw,Qx,Qy,Qz,Za,go_sem]))
 induction l <;> simp_all
theorem Xmd (l : List Int) (f : FuncId) (c : D) (p : Int -> Bool) (hp : ∀ x,Does QP gp f [vi x,.one (.d c)] (vb (p x))) :
  Does QP gp 174 [.one (.d (.sl (ints l))),.one (.d (.fn (.func f) [c]))] (vi (idxP p l)) := by
 refine Yvi ?_
 simp only [go_sem]
 repeat' (first | refine Kn rfl ?_ | ((first | refine Ka ?_ | refine Kb ?_ | refine Kc ?_ | refine Kd ?_ | refine Ke ?_); simp only [go_sem]) | refine Kf ?_ | refine Kg ?_ | refine Kp (fun _ => ?_) (fun _ => ?_) | ((first | refine Kh ?_ | refine Ki rfl ?_); simp only [or_self,Qs,Qt,Qu,Qv,Qw,Qx,Qy,Qz,Za,go_sem]))
 refine Xxf 0 rfl fun hl => ?_
 refine Kj (fr 19 [(0,.one (.d (.sl (ints l)))),(1,.one (.d (.fn (.func f) [c]))),(7,vi l.length),(8,vi (0 : Nat))]) (by (simp only [go_sem]; repeat' (first | refine Kp ?_ ?_ | exact Or.inl rfl | exact Or.inr rfl | rfl))) ?_
 refine Km (fun mz sz => ∃ i : Nat,i <= l.length /\ mz = l.length - i /\ (∀ y ∈ l.take i,p y = false) /\ sz = ⟨fr 19 [(0,.one (.d (.sl (ints l)))),(1,.one (.d (.fn (.func f) [c]))),(7,vi l.length),(8,vi i)],[]⟩) (l.length) ⟨0,Nat.zero_le _,(Nat.sub_zero _).symm,?_,rfl⟩ ?_
 ·simp
 rintro _ _ ⟨i,hi,rfl,hz,rfl⟩
 simp only [List.length_map] at hl
 simp only [go_sem]
 by_cases hil : i < l.length
 ·obtain ⟨x,hx⟩ := Xak hil
  repeat' (first | refine Kn rfl ?_ | ((first | refine Ka ?_ | refine Kb ?_ | refine Kc ?_ | refine Kd ?_ | refine Ke ?_); simp only [go_sem]) | refine Kf ?_ | refine Kg ?_ | refine ⟨_,hp _,Sh.intro ?_⟩ | refine ⟨_,⟨hp _,rfl⟩,Sh.intro ?_⟩ | refine ⟨_,⟨Int.natCast_nonneg _,(by first | exact Xae hx | (rw [Int.toNat_natCast]; exact Xae hx)),rfl⟩,Sh.intro ?_⟩ | refine Kp (fun _ => ?_) (fun _ => ?_) | ((first | refine Kh ?_ | refine Ki rfl ?_); simp only [or_self,Qs,Qt,Qu,Qv,Qw,Qx,Qy,Qz,Za,go_sem]))
  ·rename_i h; rw [Xq8 hz hx h]
  ·refine ⟨Xan hil hl,?_⟩
   rename_i h
   refine Kj (fr 19 [(0,.one (.d (.sl (ints l)))),(1,.one (.d (.fn (.func f) [c]))),(7,vi l.length),(8,vi (i + 1))]) (by (simp only [go_sem]; repeat' (first | refine Kp ?_ ?_ | exact Or.inl rfl | exact Or.inr rfl | rfl))) ?_
   refine Kl ⟨l.length - (i + 1),by omega,i + 1,by omega,rfl,?_,rfl⟩
   exact Xhr hz hx (by simpa using h)
  ·omega
 ·repeat' (first | refine Kn rfl ?_ | ((first | refine Ka ?_ | refine Kb ?_ | refine Kc ?_ | refine Kd ?_ | refine Ke ?_); simp only [go_sem]) | refine Kf ?_ | refine Kg ?_ | refine Kp (fun _ => ?_) (fun _ => ?_) | ((first | refine Kh ?_ | refine Ki rfl ?_); simp only [or_self,Qs,Qt,Qu,Qv,Qw,Qx,Qy,Qz,Za,go_sem]))
  ·omega
  ·rw [List.take_of_length_le (by omega)] at hz
   rw [Xky hz]
theorem Xhu (l : List Int) (f : FuncId) (c : D) (p : Int -> Bool) (hp : ∀ x,Does QP gp f [vi x,.one (.d c)] (vb (p x))) :
  Does QP gp 156 [.one (.d (.sl (ints l))),.one (.d (.fn (.func f) [c]))] (vb (l.any p)) := by
 refine Yum ?_
 simp only [go_sem]
 repeat' (first | refine Kn rfl ?_ | ((first | refine Ka ?_ | refine Kb ?_ | refine Kc ?_ | refine Kd ?_ | refine Ke ?_); simp only [go_sem]) | refine Kf ?_ | refine Kg ?_ | refine ⟨_,Xmd _ _ _ _ hp,Sh.intro ?_⟩ | refine ⟨_,⟨Xmd _ _ _ _ hp,rfl⟩,Sh.intro ?_⟩ | refine Kp (fun _ => ?_) (fun _ => ?_) | ((first | refine Kh ?_ | refine Ki rfl ?_); simp only [or_self,Qs,Qt,Qu,Qv,Qw,Qx,Qy,Qz,Za,go_sem]))
 exact Xnb _ _
theorem Xpa (l : List Sc) (f : FuncId) (p : Sc -> Bool) (hp : ∀ x,Does QP gp f [x.v] (vb (p x))) :
  Does QP gp 175 [.one (.d (.sl (scs l))),.one (.d (.fn (.func f) []))] (vi (idxP p l)) := by
 refine Yvq ?_
 simp only [go_sem]
 repeat' (first | refine Kn rfl ?_ | ((first | refine Ka ?_ | refine Kb ?_ | refine Kc ?_ | refine Kd ?_ | refine Ke ?_); simp only [go_sem]) | refine Kf ?_ | refine Kg ?_ | refine Kp (fun _ => ?_) (fun _ => ?_) | ((first | refine Kh ?_ | refine Ki rfl ?_); simp only [or_self,Qs,Qt,Qu,Qv,Qw,Qx,Qy,Qz,Za,go_sem]))
 refine Xxf 0 rfl fun hl => ?_
 refine Kj (fr 19 [(0,.one (.d (.sl (scs l)))),(1,.one (.d (.fn (.func f) []))),(7,vi l.length),(8,vi (0 : Nat))]) (by (simp only [go_sem]; repeat' (first | refine Kp ?_ ?_ | exact Or.inl rfl | exact Or.inr rfl | rfl))) ?_
 refine Km (fun mz sz => ∃ i : Nat,i <= l.length /\ mz = l.length - i /\ (∀ y ∈ l.take i,p y = false) /\ sz = ⟨fr 19 [(0,.one (.d (.sl (scs l)))),(1,.one (.d (.fn (.func f) []))),(7,vi l.length),(8,vi i)],[]⟩) (l.length) ⟨0,Nat.zero_le _,(Nat.sub_zero _).symm,?_,rfl⟩ ?_
 ·simp
 rintro _ _ ⟨i,hi,rfl,hz,rfl⟩
 simp only [List.length_map] at hl
 simp only [go_sem]
 by_cases hil : i < l.length
 ·obtain ⟨x,hx⟩ := Xak hil
  repeat' (first | refine Kn rfl ?_ | ((first | refine Ka ?_ | refine Kb ?_ | refine Kc ?_ | refine Kd ?_ | refine Ke ?_); simp only [go_sem]) | refine Kf ?_ | refine Kg ?_ | refine ⟨_,hp _,Sh.intro ?_⟩ | refine ⟨_,⟨hp _,rfl⟩,Sh.intro ?_⟩ | refine ⟨_,⟨Int.natCast_nonneg _,(by first | exact Xae hx | (rw [Int.toNat_natCast]; exact Xae hx)),rfl⟩,Sh.intro ?_⟩ | refine Kp (fun _ => ?_) (fun _ => ?_) | ((first | refine Kh ?_ | refine Ki rfl ?_); simp only [or_self,Qs,Qt,Qu,Qv,Qw,Qx,Qy,Qz,Za,go_sem]))
  ·rename_i h; rw [Xq8 hz hx h]
  ·refine ⟨Xan hil hl,?_⟩
   rename_i h
   refine Kj (fr 19 [(0,.one (.d (.sl (scs l)))),(1,.one (.d (.fn (.func f) []))),(7,vi l.length),(8,vi (i + 1))]) (by (simp only [go_sem]; repeat' (first | refine Kp ?_ ?_ | exact Or.inl rfl | exact Or.inr rfl | rfl))) ?_
   refine Kl ⟨l.length - (i + 1),by omega,i + 1,by omega,rfl,?_,rfl⟩
   exact Xhr hz hx (by simpa using h)
  ·omega
 ·repeat' (first | refine Kn rfl ?_ | ((first | refine Ka ?_ | refine Kb ?_ | refine Kc ?_ | refine Kd ?_ | refine Ke ?_); simp only [go_sem]) | refine Kf ?_ | refine Kg ?_ | refine Kp (fun _ => ?_) (fun _ => ?_) | ((first | refine Kh ?_ | refine Ki rfl ?_); simp only [or_self,Qs,Qt,Qu,Qv,Qw,Qx,Qy,Qz,Za,go_sem]))
  ·omega
  ·rw [List.take_of_length_le (by omega)] at hz
   rw [Xky hz]
theorem Xje (l : List Sc) (f : FuncId) (p : Sc -> Bool) (hp : ∀ x,Does QP gp f [x.v] (vb (p x))) :
  Does QP gp 158 [.one (.d (.sl (scs l))),.one (.d (.fn (.func f) []))] (vb (l.any p)) := by
 refine Yuu ?_
 simp only [go_sem]
 repeat' (first | refine Kn rfl ?_ | ((first | refine Ka ?_ | refine Kb ?_ | refine Kc ?_ | refine Kd ?_ | refine Ke ?_); simp only [go_sem]) | refine Kf ?_ | refine Kg ?_ | refine ⟨_,Xpa _ _ _ hp,Sh.intro ?_⟩ | refine ⟨_,⟨Xpa _ _ _ hp,rfl⟩,Sh.intro ?_⟩ | refine Kp (fun _ => ?_) (fun _ => ?_) | ((first | refine Kh ?_ | refine Ki rfl ?_); simp only [or_self,Qs,Qt,Qu,Qv,Qw,Qx,Qy,Qz,Za,go_sem]))
 exact Xnb _ _
theorem Xpb (x : Nd) (n i : Int) : Does QP gp 155 [vi i,.one (.d (.bx (x.vd n)))] (vb (decide (i < 0) || decide (i >= n))) := by
 refine Yui ?_
 simp only [go_sem]
 repeat' (first | refine Kn rfl ?_ | ((first | refine Ka ?_ | refine Kb ?_ | refine Kc ?_ | refine Kd ?_ | refine Ke ?_); simp only [go_sem]) | refine Kf ?_ | refine Kg ?_ | refine Kp (fun _ => ?_) (fun _ => ?_) | ((first | refine Kh ?_ | refine Ki rfl ?_); simp only [or_self,Qs,Qt,Qu,Qv,Qw,Qx,Qy,Qz,Za,go_sem]))
 all_goals grind
def Xdi (l : List Int) (n : Int) : Bool := l.all fun i => decide (0 <= i) && decide (i < n)
theorem Xjn (x : Nd) (n : Int) : Does QP gp 144 [x.vw n] (vb (Xdi x.kids n)) := by
 refine Ytw ?_
 simp only [go_sem]
 repeat' (first | refine Kn rfl ?_ | ((first | refine Ka ?_ | refine Kb ?_ | refine Kc ?_ | refine Kd ?_ | refine Ke ?_); simp only [go_sem]) | refine Kf ?_ | refine Kg ?_ | refine ⟨_,Xhu _ _ _ _ (Xpb x n),Sh.intro ?_⟩ | refine ⟨_,⟨Xhu _ _ _ _ (Xpb x n),rfl⟩,Sh.intro ?_⟩ | refine Kp (fun _ => ?_) (fun _ => ?_) | ((first | refine Kh ?_ | refine Ki rfl ?_); simp only [or_self,Qs,Qt,Qu,Qv,Qw,Qx,Qy,Qz,Za,go_sem]))
 unfold Xdi
 generalize x.kids = l
 induction l with
 | nil => rfl
 | cons a l ih => simp only [List.any_cons,List.all_cons,Bool.not_or,ih]; congr 1; grind
def Xkz : Int := 999999999999999
def prR (R : ByteArray -> Bool) (x : Sc) : Bool :=
 if x.k = 0 then decide (x = ⟨0,0,⟨#[]⟩⟩)
 else if x.k = 1 then decide (x.s = ⟨#[]⟩) && (decide (x.n = 0) || decide (x.n = 1))
 else if x.k = 2 then decide (x.s = ⟨#[]⟩) && (decide (-Xkz <= x.n) && decide (x.n <= Xkz))
 else if x.k = 3 then decide (x.n = 0) && R x.s else false
theorem Xir (x : Sc) : (x.k == 0 && (x.n == 0 && decide (x.s = ⟨#[]⟩))) = decide (x = ⟨0,0,⟨#[]⟩⟩) := Xo9 x ⟨0,0,⟨#[]⟩⟩
theorem Xdy (R : ByteArray -> Bool) (hR : ∀ s,Does QP gp 147 [vs s] (vb (R s))) (x : Sc) : Does QP gp 127 [x.v] (vb (prR R x)) := by
 refine Yta ?_
 simp only [go_sem]
 repeat' (first | refine Kn rfl ?_ | ((first | refine Ka ?_ | refine Kb ?_ | refine Kc ?_ | refine Kd ?_ | refine Ke ?_); simp only [Xir,go_sem]) | refine Kf ?_ | refine Kg ?_ | refine ⟨_,hR _,Sh.intro ?_⟩ | refine ⟨_,⟨hR _,rfl⟩,Sh.intro ?_⟩ | refine Kp (fun _ => ?_) (fun _ => ?_) | ((first | refine Kh ?_ | refine Ki rfl ?_); simp only [Xir,or_self,Qs,Qt,Qu,Qv,Qw,Qx,Qy,Qz,Za,go_sem]))
 all_goals (first | (unfold prR Xkz; grind) | trace_state)
theorem Xpc (R : ByteArray -> Bool) (hR : ∀ s,Does QP gp 147 [vs s] (vb (R s))) (x : Sc) : Does QP gp 157 [x.v] (vb (!prR R x)) := by
 refine Yuq ?_
 simp only [go_sem]
 repeat' (first | refine Kn rfl ?_ | ((first | refine Ka ?_ | refine Kb ?_ | refine Kc ?_ | refine Kd ?_ | refine Ke ?_); simp only [go_sem]) | refine Kf ?_ | refine Kg ?_ | refine ⟨_,Xdy R hR _,Sh.intro ?_⟩ | refine ⟨_,⟨Xdy R hR _,rfl⟩,Sh.intro ?_⟩ | refine Kp (fun _ => ?_) (fun _ => ?_) | ((first | refine Kh ?_ | refine Ki rfl ?_); simp only [or_self,Qs,Qt,Qu,Qv,Qw,Qx,Qy,Qz,Za,go_sem]))
 try rfl
section
variable {α : Type} [DecidableEq α] {kag : Bool} {ks : List Leaf} {kv : α -> V} {v : V}
theorem Xhv (he : ∀ a b,eqV kag ks (kv a) (kv b) = some (decide (a = b))) : ∀ (l : List α) (x : α),Xcr kag ks (l.map fun a => (kv a,v)) (kv x) = some (if x ∈ l then some v else none)
 | [],x => by simp [Xcr]
 | a :: l,x => by
  simp only [List.map_cons,Xcr,he]
  by_cases h : x = a
  ·simp [h]
  ·simp only [h,decide_false,Xhv he l x,List.mem_cons,false_or]
theorem Xnc (he : ∀ a b,eqV kag ks (kv a) (kv b) = some (decide (a = b))) : ∀ (l : List α) (x : α),x ∉ l -> putM kag ks (l.map fun a => (kv a,v)) (kv x) v = some ((l ++ [x]).map fun a => (kv a,v))
 | [],x,_ => by simp [putM]
 | a :: l,x,h => by
  simp only [List.mem_cons,not_or] at h
  simp only [List.map_cons,putM,he,h.1,decide_false,Xnc he l x h.2,List.cons_append]
end
theorem Ykx (x y : Sc) : eqV true [.i,.i,.s] x.v y.v = some (decide (x = y)) := by
 simp only [go_sem]
 rw [Xo9]
abbrev Yfd (l : List Sc) : List (V × V) := l.map fun a => (Sc.v a,vb true)
theorem Xxg (l : List Sc) : (Ch.map (Yfd l)).refs = [] := by
 simp only [Ch.refs]
 rw [List.flatMap_eq_nil_iff]
 intro e he
 obtain ⟨a,_,rfl⟩ := List.mem_map.1 he
 rfl
theorem Y9j (l : List Sc) : Does QP gp 176 [.one (.d (.sl (scs l)))] (.one (.d (.fn (.func 186) [.bx [.sl (scs l)]]))) := by
 refine Yvu ?_
 simp only [go_sem]
 repeat' (first | refine Kn rfl ?_ | ((first | refine Ka ?_ | refine Kb ?_ | refine Kc ?_ | refine Kd ?_ | refine Ke ?_); simp only [go_sem]) | refine Kf ?_ | refine Kg ?_ | refine Kp (fun _ => ?_) (fun _ => ?_) | ((first | refine Kh ?_ | refine Ki rfl ?_); simp only [or_self,Qs,Qt,Qu,Qv,Qw,Qx,Qy,Qz,Za,go_sem]))
theorem Yfe {α : Type} [DecidableEq α] {l : List α} {i : Nat} {x : α} (hx : l[i]? = some x) (hm : x ∈ l.take i) : ¬ l.Nodup := by
 intro h
 obtain ⟨hi,rfl⟩ := List.getElem?_eq_some_iff.1 hx
 rw [List.mem_take_iff_getElem] at hm
 obtain ⟨j,hj,e⟩ := hm
 exact List.pairwise_iff_getElem.1 h j i (by omega) hi (by omega) e
theorem Xcw {α : Type} {l : List α} {i : Nat} {x : α} (hx : l[i]? = some x) : l.take i ++ [x] = l.take (i + 1) := by
 rw [List.take_succ,hx]; rfl
theorem Xxh {α : Type} {l : List α} {i : Nat} {x : α} (hx : l[i]? = some x) (hm : x ∉ l.take i) (h : (l.take i).Nodup) : (l.take (i + 1)).Nodup := by
 rw [<- Xcw hx,List.nodup_append]
 refine ⟨h,by simp,?_⟩
 intro a ha b hb; simp at hb; subst hb; rintro rfl; exact hm ha
theorem Y9k (l : List Sc) : Does QP gp 159 [.one (.d (.sl (scs l)))] (vb (!decide l.Nodup)) := by
 refine Yu2 ?_
 simp only [go_sem]
 repeat' (first | refine Kn rfl ?_ | ((first | refine Ka ?_ | refine Kb ?_ | refine Kc ?_ | refine Kd ?_ | refine Ke ?_); simp only [go_sem]) | refine Kf ?_ | refine Kg ?_ | refine ⟨_,Y9j _,Sh.intro ?_⟩ | refine ⟨_,⟨Y9j _,rfl⟩,Sh.intro ?_⟩ | refine Kp (fun _ => ?_) (fun _ => ?_) | ((first | refine Kh ?_ | refine Ki rfl ?_); simp only [or_self,Qs,Qt,Qu,Qv,Qw,Qx,Qy,Qz,Za,go_sem]))
 refine G_rf (f2 := 186) (caps := [.one (.d (.bx [.sl (scs l)]))]) (fun pd own' => pd = none /\ ∃ n : Nat,own'.head? = some (.cells [.d (.int .i64 n)]) /\ decide ((n : Int) < l.length) = !decide l.Nodup) rfl ?_ Yv0 ?_ ?_ ?_
 ·intro y; simp only [go_sem]
 ·rintro b rc hps ⟨hs,hta,htb⟩
  refine Yfb ?_
  simp only [go_sem]
  repeat' (first | refine Kn rfl ?_ | ((first | refine Ka ?_ | refine Kb ?_ | refine Kc ?_ | refine Kd ?_ | refine Ke ?_); simp only [go_sem]) | refine Kf ?_ | refine Kg ?_ | refine Kp (fun _ => ?_) (fun _ => ?_) | ((first | refine Kh ?_ | refine Ki rfl ?_); simp only [or_self,Qs,Qt,Qu,Qv,Qw,Qx,Qy,Qz,Za,go_sem]))
  refine Yiz 1 0 rfl rfl fun hl => ?_
  simp only [List.length_map] at hl
  refine Kj (fr 25 [(0,.one (.d (.raw (.func (.yield b) #[] #[])))),(1,.one (.d (.bx [.sl (scs l)]))),(3,.one (.own 2 0)),(7,.one (.d (.sl (scs l)))),(8,vi l.length),(9,vi (0 : Nat))]) (by (simp only [go_sem]; repeat' (first | refine Kp ?_ ?_ | exact Or.inl rfl | exact Or.inr rfl | rfl))) ?_
  refine Km (fun mz sz => ∃ i : Nat,i <= l.length /\ mz = l.length - i /\ ((l.take i).Nodup) /\ sz = ⟨fr 25 [(0,.one (.d (.raw (.func (.yield b) #[] #[])))),(1,.one (.d (.bx [.sl (scs l)]))),(3,.one (.own 2 0)),(7,.one (.d (.sl (scs l)))),(8,vi l.length),(9,vi i)],[.cells [.d (.int .i64 ((i : Nat) : Int))],.lp b _ rc .ready none,.map (Yfd (l.take i))]⟩) (l.length) ⟨0,Nat.zero_le _,(Nat.sub_zero _).symm,?_,rfl⟩ ?_
  ·simp
  rintro _ _ ⟨i,hi,rfl,hz,rfl⟩
  simp only [go_sem]
  by_cases hil : i < l.length
  ·obtain ⟨x,hx⟩ := Xak hil
   repeat' (first | refine Kn rfl ?_ | ((first | refine Ka ?_ | refine Kb ?_ | refine Kc ?_ | refine Kd ?_ | refine Ke ?_); simp only [go_sem]) | refine Kf ?_ | refine Kg ?_ | refine ⟨_,⟨Int.natCast_nonneg _,(by first | exact Xae hx | (rw [Int.toNat_natCast]; exact Xae hx)),rfl⟩,Sh.intro ?_⟩ | refine Kp (fun _ => ?_) (fun _ => ?_) | ((first | refine Kh ?_ | refine Ki rfl ?_); simp only [or_self,Qs,Qt,Qu,Qv,Qw,Qx,Qy,Qz,Za,go_sem]))
   ·have hf := Xhv (v := vb true) Ykx (l.take i) x
    by_cases hm : x ∈ l.take i
    ·simp only [hm,if_true] at hf
     refine ⟨_,⟨hf,rfl⟩,Sh.intro ?_⟩
     simp only [go_sem]
     repeat' (first | refine Kn rfl ?_ | ((first | refine Ka ?_ | refine Kb ?_ | refine Kc ?_ | refine Kd ?_ | refine Ke ?_); simp only [go_sem]) | refine Kf ?_ | refine Kg ?_ | refine Kp (fun _ => ?_) (fun _ => ?_) | ((first | refine Kh ?_ | refine Ki rfl ?_); simp only [or_self,Qs,Qt,Qu,Qv,Qw,Qx,Qy,Qz,Za,go_sem]))
     refine ⟨.ready,none,rfl,by simp,rfl,i,rfl,?_⟩
     have := Yfe hx hm
     simp [this]; omega
    ·simp only [hm,if_false] at hf
     refine ⟨_,⟨hf,rfl⟩,Sh.intro ?_⟩
     simp only [go_sem]
     repeat' (first | refine Kn rfl ?_ | ((first | refine Ka ?_ | refine Kb ?_ | refine Kc ?_ | refine Kd ?_ | refine Ke ?_); simp only [go_sem]) | refine Kf ?_ | refine Kg ?_ | refine Kp (fun _ => ?_) (fun _ => ?_) | ((first | refine Kh ?_ | refine Ki rfl ?_); simp only [or_self,Qs,Qt,Qu,Qv,Qw,Qx,Qy,Qz,Za,go_sem]))
     have hn : inK .i64 ((i : Int) + 1) := Xan hil hl
     refine ⟨[.cells [.d (.int .i64 ((i : Int) + 1))],.lp b _ rc .ready none,.map (Yfd (l.take i)),.cells x.as],true,Nat.le_refl _,⟨1,_,rc,hs,_,_,[.cells [.d (.int .i64 ((i : Int) + 1))],.dead,.map (Yfd (l.take i)),.cells x.as],none,rfl,by rw [<- Array.length_toList,hps]; rfl,hta,htb,?_,rfl,rfl⟩,Sh.intro ?_⟩
     ·rw [hps]
      simp only [go_sem]
      repeat' (first | refine Kn rfl ?_ | ((first | refine Ka ?_ | refine Kb ?_ | refine Kc ?_ | refine Kd ?_ | refine Ke ?_); simp only [go_sem]) | refine Kf ?_ | refine Kg ?_ | refine Kp (fun _ => ?_) (fun _ => ?_) | ((first | refine Kh ?_ | refine Ki rfl ?_); simp only [or_self,Qs,Qt,Qu,Qv,Qw,Qx,Qy,Qz,Za,go_sem]))
      refine Xfj ⟨rfl,?_⟩
      repeat' (first | refine Kn rfl ?_ | ((first | refine Ka ?_ | refine Kb ?_ | refine Kc ?_ | refine Kd ?_ | refine Ke ?_); simp only [go_sem]) | refine Kf ?_ | refine Kg ?_ | refine Kp (fun _ => ?_) (fun _ => ?_) | ((first | refine Kh ?_ | refine Ki rfl ?_); simp only [or_self,Qs,Qt,Qu,Qv,Qw,Qx,Qy,Qz,Za,go_sem]))
      refine ⟨hn,?_⟩
      repeat' (first | refine Kn rfl ?_ | ((first | refine Ka ?_ | refine Kb ?_ | refine Kc ?_ | refine Kd ?_ | refine Ke ?_); simp only [go_sem]) | refine Kf ?_ | refine Kg ?_ | refine Kp (fun _ => ?_) (fun _ => ?_) | ((first | refine Kh ?_ | refine Ki rfl ?_); simp only [or_self,Qs,Qt,Qu,Qv,Qw,Qx,Qy,Qz,Za,go_sem]))
      exact Xfj ⟨⟨rfl,rfl⟩,rfl⟩
     ·simp only [go_sem]
      repeat' (first | refine Kn rfl ?_ | ((first | refine Ka ?_ | refine Kb ?_ | refine Kc ?_ | refine Kd ?_ | refine Ke ?_); simp only [go_sem]) | refine Kf ?_ | refine Kg ?_ | refine Kp (fun _ => ?_) (fun _ => ?_) | ((first | refine Kh ?_ | refine Ki rfl ?_); simp only [or_self,Qs,Qt,Qu,Qv,Qw,Qx,Qy,Qz,Za,go_sem]))
      refine ⟨_,Xnc Ykx _ x hm,Sh.intro ?_⟩
      rw [Xcw hx]
      simp only [go_sem]
      repeat' (first | refine Kn rfl ?_ | ((first | refine Ka ?_ | refine Kb ?_ | refine Kc ?_ | refine Kd ?_ | refine Ke ?_); simp only [go_sem]) | refine Kf ?_ | refine Kg ?_ | refine Kp (fun _ => ?_) (fun _ => ?_) | ((first | refine Kh ?_ | refine Ki rfl ?_); simp only [or_self,Qs,Qt,Qu,Qv,Qw,Qx,Qy,Qz,Za,go_sem]))
      refine ⟨hn,?_⟩
      refine Kj (fr 25 [(0,.one (.d (.raw (.func (.yield b) #[] #[])))),(1,.one (.d (.bx [.sl (scs l)]))),(3,.one (.own 2 0)),(7,.one (.d (.sl (scs l)))),(8,vi l.length),(9,vi (i + 1))]) (by (simp only [go_sem]; repeat' (first | refine Kp ?_ ?_ | exact Or.inl rfl | exact Or.inr rfl | rfl))) ?_
      refine Kk 3 (by simp only [List.length_nil,List.length_cons]; decide) (by simp only [go_sem]) (by simp only [List.take_succ_cons,List.take_zero,List.all_cons,List.all_nil,Xxg]; try simp only [go_sem]) ?_
      simp only [go_sem]
      refine Kl ⟨l.length - (i + 1),by omega,i + 1,by omega,rfl,?_,rfl⟩
      exact Xxh hx hm hz
   ·omega
  ·repeat' (first | refine Kn rfl ?_ | ((first | refine Ka ?_ | refine Kb ?_ | refine Kc ?_ | refine Kd ?_ | refine Ke ?_); simp only [go_sem]) | refine Kf ?_ | refine Kg ?_ | refine Kp (fun _ => ?_) (fun _ => ?_) | ((first | refine Kh ?_ | refine Ki rfl ?_); simp only [or_self,Qs,Qt,Qu,Qv,Qw,Qx,Qy,Qz,Za,go_sem]))
   ·omega
   ·refine ⟨.ready,none,rfl,by simp,rfl,i,rfl,?_⟩
    rw [List.take_of_length_le (by omega)] at hz
    simp [hz]; omega
 ·rintro (_ | ⟨c,own'⟩) ⟨_,n,h1,h2⟩
  ·cases h1
  ·simp only [List.head?_cons,Option.some.injEq] at h1
   subst h1
   simp only [go_sem]
   repeat' (first | refine Kn rfl ?_ | ((first | refine Ka ?_ | refine Kb ?_ | refine Kc ?_ | refine Kd ?_ | refine Ke ?_); simp only [go_sem]) | refine Kf ?_ | refine Kg ?_ | refine Kp (fun _ => ?_) (fun _ => ?_) | ((first | refine Kh ?_ | refine Ki rfl ?_); simp only [or_self,Qs,Qt,Qu,Qv,Qw,Qx,Qy,Qz,Za,go_sem]))
   exact h2
 ·rintro _ _ ⟨h,_⟩; cases h
section
variable (R : ByteArray -> Bool) (hR : ∀ s,Does QP gp 147 [vs s] (vb (R s)))
include hR
def Xq9 (R : ByteArray -> Bool) (l : List Sc) : Bool := l.all (prR R) && decide l.Nodup
theorem Xui (x : Nd) (n : Int) : Does QP gp 145 [x.vw n] (vb (Xq9 R x.keys)) := by
 refine Yt1 ?_
 simp only [go_sem]
 repeat' (first | refine Kn rfl ?_ | ((first | refine Ka ?_ | refine Kb ?_ | refine Kc ?_ | refine Kd ?_ | refine Ke ?_); simp only [go_sem]) | refine Kf ?_ | refine Kg ?_ | refine ⟨_,Xje _ _ _ (Xpc R hR),Sh.intro ?_⟩ | refine ⟨_,⟨Xje _ _ _ (Xpc R hR),rfl⟩,Sh.intro ?_⟩ | refine ⟨_,Y9k _,Sh.intro ?_⟩ | refine ⟨_,⟨Y9k _,rfl⟩,Sh.intro ?_⟩ | refine Kp (fun _ => ?_) (fun _ => ?_) | ((first | refine Kh ?_ | refine Ki rfl ?_); simp only [or_self,Qs,Qt,Qu,Qv,Qw,Qx,Qy,Qz,Za,go_sem]))
 all_goals (unfold Xq9; grind)
def oneR (R : ByteArray -> Bool) (x : Nd) : Bool := prR R x.x && (decide (x.keys = []) && decide (x.kids = []))
theorem Yky (x : Nd) (n : Int) : Does QP gp 122 [x.vw n] (vb (oneR R x)) := by
 refine Ysu ?_
 simp only [go_sem]
 repeat' (first | refine Kn rfl ?_ | ((first | refine Ka ?_ | refine Kb ?_ | refine Kc ?_ | refine Kd ?_ | refine Ke ?_); simp only [go_sem]) | refine Kf ?_ | refine Kg ?_ | refine ⟨_,Xdy R hR _,Sh.intro ?_⟩ | refine ⟨_,⟨Xdy R hR _,rfl⟩,Sh.intro ?_⟩ | refine ⟨_,Xiq [_,_,_],Sh.intro ?_⟩ | refine ⟨_,⟨Xiq [_,_,_],rfl⟩,Sh.intro ?_⟩ | refine Kp (fun _ => ?_) (fun _ => ?_) | ((first | refine Kh ?_ | refine Ki rfl ?_); simp only [or_self,Qs,Qt,Qu,Qv,Qw,Qx,Qy,Qz,Za,go_sem]))
 unfold oneR
 cases x.keys <;> cases x.kids <;> simp <;> omega
def isZ (x : Sc) : Bool := decide (x = ⟨0,0,⟨#[]⟩⟩)
def seqR (x : Nd) (n : Int) : Bool := isZ x.x && (decide (x.keys = []) && Xdi x.kids n)
omit hR in
theorem Ykz (x : Nd) (n : Int) : Does QP gp 123 [x.vw n] (vb (seqR x n)) := by
 refine Ysy ?_
 simp only [go_sem]
 repeat' (first | refine Kn rfl ?_ | ((first | refine Ka ?_ | refine Kb ?_ | refine Kc ?_ | refine Kd ?_ | refine Ke ?_); simp only [Xir,go_sem]) | refine Kf ?_ | refine Kg ?_ | refine ⟨_,Xjn _ _,Sh.intro ?_⟩ | refine ⟨_,⟨Xjn _ _,rfl⟩,Sh.intro ?_⟩ | refine ⟨_,Xiq [_,_,_],Sh.intro ?_⟩ | refine ⟨_,⟨Xiq [_,_,_],rfl⟩,Sh.intro ?_⟩ | refine Kp (fun _ => ?_) (fun _ => ?_) | ((first | refine Kh ?_ | refine Ki rfl ?_); simp only [Xir,or_self,Qs,Qt,Qu,Qv,Qw,Qx,Qy,Qz,Za,go_sem]))
 unfold seqR isZ
 cases x.keys <;> simp <;> omega
def mapR (R : ByteArray -> Bool) (x : Nd) (n : Int) : Bool := isZ x.x && (decide (x.keys.length = x.kids.length) && (Xq9 R x.keys && Xdi x.kids n))
theorem Yk0 (x : Nd) (n : Int) : Does QP gp 124 [x.vw n] (vb (mapR R x n)) := by
 refine Ys2 ?_
 simp only [go_sem]
 repeat' (first | refine Kn rfl ?_ | ((first | refine Ka ?_ | refine Kb ?_ | refine Kc ?_ | refine Kd ?_ | refine Ke ?_); simp only [Xir,go_sem]) | refine Kf ?_ | refine Kg ?_ | refine ⟨_,Xhs _ _,Sh.intro ?_⟩ | refine ⟨_,⟨Xhs _ _,rfl⟩,Sh.intro ?_⟩ | refine ⟨_,Xui R hR _ _,Sh.intro ?_⟩ | refine ⟨_,⟨Xui R hR _ _,rfl⟩,Sh.intro ?_⟩ | refine ⟨_,Xjn _ _,Sh.intro ?_⟩ | refine ⟨_,⟨Xjn _ _,rfl⟩,Sh.intro ?_⟩ | refine ⟨_,Xiq [_,_,_,_],Sh.intro ?_⟩ | refine ⟨_,⟨Xiq [_,_,_,_],rfl⟩,Sh.intro ?_⟩ | refine Kp (fun _ => ?_) (fun _ => ?_) | ((first | refine Kh ?_ | refine Ki rfl ?_); simp only [Xir,or_self,Qs,Qt,Qu,Qv,Qw,Qx,Qy,Qz,Za,go_sem]))
 unfold mapR isZ
 simp
def Xa9 (R : ByteArray -> Bool) (x : Nd) (n : Int) : Bool :=
 if x.k = 0 then oneR R x else if x.k = 1 then seqR x n else if x.k = 2 then mapR R x n else false
theorem Yff (x : Nd) (n : Int) : Does QP gp 96 [x.vw n] (vb (Xa9 R x n)) := by
 refine Y8o ?_
 simp only [go_sem]
 repeat' (first | refine Kn rfl ?_ | ((first | refine Ka ?_ | refine Kb ?_ | refine Kc ?_ | refine Kd ?_ | refine Ke ?_); simp only [go_sem]) | refine Kf ?_ | refine Kg ?_ | refine Kp (fun _ => ?_) (fun _ => ?_) | ((first | refine Kh ?_ | refine Ki rfl ?_); simp only [or_self,Qs,Qt,Qu,Qv,Qw,Qx,Qy,Qz,Za,go_sem]))
 ·rename_i h1 h2
  rcases (show x.k = 0 \/ x.k = 1 \/ x.k = 2 by omega) with h | h | h
  ·refine ⟨0,⟨h,by decide⟩,Sh.intro ?_⟩
   repeat' (first | refine Kn rfl ?_ | ((first | refine Ka ?_ | refine Kb ?_ | refine Kc ?_ | refine Kd ?_ | refine Ke ?_); simp only [go_sem]) | refine Kf ?_ | refine Kg ?_ | refine ⟨_,Yky R hR _ _,Sh.intro ?_⟩ | refine ⟨_,⟨Yky R hR _ _,rfl⟩,Sh.intro ?_⟩ | refine Kp (fun _ => ?_) (fun _ => ?_) | ((first | refine Kh ?_ | refine Ki rfl ?_); simp only [or_self,Qs,Qt,Qu,Qv,Qw,Qx,Qy,Qz,Za,go_sem]))
   simp [Xa9,h]
  ·refine ⟨1,⟨h,by decide⟩,Sh.intro ?_⟩
   repeat' (first | refine Kn rfl ?_ | ((first | refine Ka ?_ | refine Kb ?_ | refine Kc ?_ | refine Kd ?_ | refine Ke ?_); simp only [go_sem]) | refine Kf ?_ | refine Kg ?_ | refine ⟨_,Ykz _ _,Sh.intro ?_⟩ | refine ⟨_,⟨Ykz _ _,rfl⟩,Sh.intro ?_⟩ | refine Kp (fun _ => ?_) (fun _ => ?_) | ((first | refine Kh ?_ | refine Ki rfl ?_); simp only [or_self,Qs,Qt,Qu,Qv,Qw,Qx,Qy,Qz,Za,go_sem]))
   simp [Xa9,h]
  ·refine ⟨2,⟨h,by decide⟩,Sh.intro ?_⟩
   repeat' (first | refine Kn rfl ?_ | ((first | refine Ka ?_ | refine Kb ?_ | refine Kc ?_ | refine Kd ?_ | refine Ke ?_); simp only [go_sem]) | refine Kf ?_ | refine Kg ?_ | refine ⟨_,Yk0 R hR _ _,Sh.intro ?_⟩ | refine ⟨_,⟨Yk0 R hR _ _,rfl⟩,Sh.intro ?_⟩ | refine Kp (fun _ => ?_) (fun _ => ?_) | ((first | refine Kh ?_ | refine Ki rfl ?_); simp only [or_self,Qs,Qt,Qu,Qv,Qw,Qx,Qy,Qz,Za,go_sem]))
   simp [Xa9,h]
 all_goals (unfold Xa9; rw [if_neg (by omega),if_neg (by omega),if_neg (by omega)])
omit hR in
theorem Y9l (g : Gr) : Does QP gp 95 [g.v] (.one (.d (.fn (.func 121) [.bx [.int .i64 g.root,.sl (nds g.l)]]))) := by
 refine Y8j ?_
 simp only [go_sem]
 repeat' (first | refine Kn rfl ?_ | ((first | refine Ka ?_ | refine Kb ?_ | refine Kc ?_ | refine Kd ?_ | refine Ke ?_); simp only [go_sem]) | refine Kf ?_ | refine Kg ?_ | refine Kp (fun _ => ?_) (fun _ => ?_) | ((first | refine Kh ?_ | refine Ki rfl ?_); simp only [or_self,Qs,Qt,Qu,Qv,Qw,Qx,Qy,Qz,Za,go_sem]))
def Xe4 (R : ByteArray -> Bool) (g : Gr) : Option (Int × Int) :=
 if g.l.length > 200 then some (0,71) else if ¬ (0 <= g.root /\ g.root < g.l.length) then some (-1,70)
 else (g.l.findIdx? fun x => !Xa9 R x g.l.length).map fun i => ((i : Int),70)
def errD : Option (Int × Int) -> D
 | none => .nilI
 | some (a,e) => .ifc 155 true [.int .i64 a,.int .i64 e]
abbrev errA (e : Option (Int × Int)) : A := .d (errD e)
abbrev errV (e : Option (Int × Int)) : V := .one (errA e)
omit hR in
theorem X33 {l : List Nd} {p : Nd -> Bool} (h : ∀ y ∈ l,p y = false) : l.findIdx? p = none := by
 rw [List.findIdx?_eq_none_iff]; exact h
omit hR in
theorem Yv2 {l : List Nd} {p : Nd -> Bool} {i : Nat} {x : Nd} (h : ∀ y ∈ l.take i,p y = false) (hx : l[i]? = some x) (h0 : p x = true) : l.findIdx? p = some i := by
 obtain ⟨hi,rfl⟩ := List.getElem?_eq_some_iff.1 hx
 rw [List.findIdx?_eq_some_iff_getElem]
 refine ⟨hi,h0,fun j hj => ?_⟩
 have : l[j] ∈ l.take i := by
  rw [List.mem_take_iff_getElem]
  exact ⟨j,by omega,rfl⟩
 simp [h _ this]
theorem Y9m (g : Gr) : Does QP gp 70 [g.v] (errV (Xe4 R g)) := by
 refine Y7l ?_
 simp only [go_sem]
 repeat' (first | refine Kn rfl ?_ | ((first | refine Ka ?_ | refine Kb ?_ | refine Kc ?_ | refine Kd ?_ | refine Ke ?_); simp only [go_sem]) | refine Kf ?_ | refine Kg ?_ | refine ⟨_,Xjm _ _ _,Sh.intro ?_⟩ | refine ⟨_,⟨Xjm _ _ _,rfl⟩,Sh.intro ?_⟩ | refine ⟨_,Y9l _,Sh.intro ?_⟩ | refine ⟨_,⟨Y9l _,rfl⟩,Sh.intro ?_⟩ | refine Kp (fun _ => ?_) (fun _ => ?_) | ((first | refine Kh ?_ | refine Ki rfl ?_); simp only [or_self,Qs,Qt,Qu,Qv,Qw,Qx,Qy,Qz,Za,go_sem]))
 ·rename_i h; unfold Xe4; rw [if_pos (by omega)]; rfl
 ·rename_i h1 h2
  have h3 : ¬ (0 <= g.root /\ g.root < (g.l.length : Int)) := by intro h3; simp [h3] at h2
  unfold Xe4; rw [if_neg (by omega),if_pos h3]; rfl
 ·rename_i h1 h2
  have h3 : 0 <= g.root /\ g.root < (g.l.length : Int) := Classical.byContradiction fun h3 => by simp [h3] at h2
  have hck : Xe4 R g = (g.l.findIdx? fun x => !Xa9 R x g.l.length).map fun i => ((i : Int),70) := by
   unfold Xe4; rw [if_neg (by omega),if_neg (by simpa using h3)]
  rw [hck]
  refine G_rf (f2 := 121) (caps := [.one (.d (.bx [.int .i64 g.root,.sl (nds g.l)]))]) (fun pd own' => ((pd = none /\ (g.l.findIdx? fun x => !Xa9 R x g.l.length) = none /\ own'.head? = some (.cells [.d .nilI])) \/ (pd = some .ret /\ ∃ i : Nat,(g.l.findIdx? fun x => !Xa9 R x g.l.length) = some i /\ own'.head? = some (.cells [errA (some ((i : Int),70))])))) rfl ?_ Ysq ?_ ?_ ?_
  ·intro y; simp only [go_sem]
  ·rintro b rc hps ⟨hs,hta,htb⟩
   refine Yed ?_
   simp only [go_sem]
   repeat' (first | refine Kn rfl ?_ | ((first | refine Ka ?_ | refine Kb ?_ | refine Kc ?_ | refine Kd ?_ | refine Ke ?_); simp only [go_sem]) | refine Kf ?_ | refine Kg ?_ | refine Kp (fun _ => ?_) (fun _ => ?_) | ((first | refine Kh ?_ | refine Ki rfl ?_); simp only [or_self,Qs,Qt,Qu,Qv,Qw,Qx,Qy,Qz,Za,go_sem]))
   refine Yiz 1 1 rfl rfl fun hl => ?_
   simp only [List.length_map] at hl
   refine Kj (fr 23 [(0,.one (.d (.raw (.func (.yield b) #[] #[])))),(1,.one (.d (.bx [.int .i64 g.root,.sl (nds g.l)]))),(6,.one (.d (.sl (nds g.l)))),(7,vi g.l.length),(8,vi (0 : Nat))]) (by (simp only [go_sem]; repeat' (first | refine Kp ?_ ?_ | exact Or.inl rfl | exact Or.inr rfl | rfl))) ?_
   refine Km (fun mz sz => ∃ i : Nat,i <= g.l.length /\ mz = g.l.length - i /\ (∀ y ∈ g.l.take i,(!Xa9 R y g.l.length) = false) /\ sz = ⟨fr 23 [(0,.one (.d (.raw (.func (.yield b) #[] #[])))),(1,.one (.d (.bx [.int .i64 g.root,.sl (nds g.l)]))),(6,.one (.d (.sl (nds g.l)))),(7,vi g.l.length),(8,vi i)],[.cells [.d .nilI],.lp b _ rc .ready none]⟩) (g.l.length) ⟨0,Nat.zero_le _,(Nat.sub_zero _).symm,?_,rfl⟩ ?_
   ·simp
   rintro _ _ ⟨i,hi,rfl,hz,rfl⟩
   simp only [go_sem]
   by_cases hil : i < g.l.length
   ·obtain ⟨x,hx⟩ := Xak hil
    repeat' (first | refine Kn rfl ?_ | ((first | refine Ka ?_ | refine Kb ?_ | refine Kc ?_ | refine Kd ?_ | refine Ke ?_); simp only [go_sem]) | refine Kf ?_ | refine Kg ?_ | refine ⟨_,⟨Int.natCast_nonneg _,(by first | exact Xae hx | (rw [Int.toNat_natCast]; exact Xae hx)),rfl⟩,Sh.intro ?_⟩ | refine Kp (fun _ => ?_) (fun _ => ?_) | ((first | refine Kh ?_ | refine Ki rfl ?_); simp only [or_self,Qs,Qt,Qu,Qv,Qw,Qx,Qy,Qz,Za,go_sem]))
    ·have hn : inK .i64 ((i : Int) + 1) := Xan hil hl
     have hr := Yff R hR x (g.l.length : Int)
     cases hb : Xa9 R x g.l.length with
     | true =>
      rw [hb] at hr
      refine ⟨[.cells [.d .nilI],.lp b _ rc .ready none,.cells x.as,.cells (x.as ++ [.d (.int .i64 g.l.length)])],true,by simp,⟨1,_,rc,hs,_,_,[.cells [.d .nilI],.dead,.cells x.as,.cells (x.as ++ [.d (.int .i64 g.l.length)])],none,rfl,by rw [<- Array.length_toList,hps]; rfl,hta,htb,?_,rfl,rfl⟩,Sh.intro ?_⟩
      ·rw [hps]
       simp only [go_sem]
       repeat' (first | refine Kn rfl ?_ | ((first | refine Ka ?_ | refine Kb ?_ | refine Kc ?_ | refine Kd ?_ | refine Ke ?_); simp only [go_sem]) | refine Kf ?_ | refine Kg ?_ | refine Kp (fun _ => ?_) (fun _ => ?_) | ((first | refine Kh ?_ | refine Ki rfl ?_); simp only [or_self,Qs,Qt,Qu,Qv,Qw,Qx,Qy,Qz,Za,go_sem]))
       refine Xfj ⟨rfl,?_⟩
       repeat' (first | refine Kn rfl ?_ | ((first | refine Ka ?_ | refine Kb ?_ | refine Kc ?_ | refine Kd ?_ | refine Ke ?_); simp only [go_sem]) | refine Kf ?_ | refine Kg ?_ | refine ⟨_,hr,Sh.intro ?_⟩ | refine ⟨_,⟨hr,rfl⟩,Sh.intro ?_⟩ | refine Kp (fun _ => ?_) (fun _ => ?_) | ((first | refine Kh ?_ | refine Ki rfl ?_); simp only [or_self,Qs,Qt,Qu,Qv,Qw,Qx,Qy,Qz,Za,go_sem]))
       exact Xfj ⟨⟨rfl,rfl⟩,rfl⟩
      ·simp only [go_sem]
       repeat' (first | refine Kn rfl ?_ | ((first | refine Ka ?_ | refine Kb ?_ | refine Kc ?_ | refine Kd ?_ | refine Ke ?_); simp only [go_sem]) | refine Kf ?_ | refine Kg ?_ | refine Kp (fun _ => ?_) (fun _ => ?_) | ((first | refine Kh ?_ | refine Ki rfl ?_); simp only [or_self,Qs,Qt,Qu,Qv,Qw,Qx,Qy,Qz,Za,go_sem]))
       refine ⟨hn,?_⟩
       refine Kj (fr 23 [(0,.one (.d (.raw (.func (.yield b) #[] #[])))),(1,.one (.d (.bx [.int .i64 g.root,.sl (nds g.l)]))),(6,.one (.d (.sl (nds g.l)))),(7,vi g.l.length),(8,vi (i + 1))]) (by (simp only [go_sem]; repeat' (first | refine Kp ?_ ?_ | exact Or.inl rfl | exact Or.inr rfl | rfl))) ?_
       refine Kk 2 (by simp only [List.length_nil,List.length_cons]; decide) (by simp only [go_sem]) (by simp only [go_sem]) ?_
       simp only [go_sem]
       refine Kl ⟨g.l.length - (i + 1),by omega,i + 1,by omega,rfl,?_,rfl⟩
       exact Xhr hz hx (by simp [hb])
     | false =>
      rw [hb] at hr
      refine ⟨[.cells [errA (some ((i : Int),70))],.lp b _ rc .done (some .ret),.cells x.as,.cells (x.as ++ [.d (.int .i64 g.l.length)])],false,by simp,⟨1,_,rc,hs,_,_,[.cells [errA (some ((i : Int),70))],.dead,.cells x.as,.cells (x.as ++ [.d (.int .i64 g.l.length)])],some .ret,rfl,by rw [<- Array.length_toList,hps]; rfl,hta,htb,?_,rfl,rfl⟩,Sh.intro ?_⟩
      ·rw [hps]
       simp only [go_sem]
       repeat' (first | refine Kn rfl ?_ | ((first | refine Ka ?_ | refine Kb ?_ | refine Kc ?_ | refine Kd ?_ | refine Ke ?_); simp only [go_sem]) | refine Kf ?_ | refine Kg ?_ | refine Kp (fun _ => ?_) (fun _ => ?_) | ((first | refine Kh ?_ | refine Ki rfl ?_); simp only [or_self,Qs,Qt,Qu,Qv,Qw,Qx,Qy,Qz,Za,go_sem]))
       refine Xfj ⟨rfl,?_⟩
       repeat' (first | refine Kn rfl ?_ | ((first | refine Ka ?_ | refine Kb ?_ | refine Kc ?_ | refine Kd ?_ | refine Ke ?_); simp only [go_sem]) | refine Kf ?_ | refine Kg ?_ | refine ⟨_,hr,Sh.intro ?_⟩ | refine ⟨_,⟨hr,rfl⟩,Sh.intro ?_⟩ | refine Kp (fun _ => ?_) (fun _ => ?_) | ((first | refine Kh ?_ | refine Ki rfl ?_); simp only [or_self,Qs,Qt,Qu,Qv,Qw,Qx,Qy,Qz,Za,go_sem]))
       exact Xy7 rfl ⟨⟨rfl,rfl⟩,rfl⟩
      ·simp only [go_sem]
       repeat' (first | refine Kn rfl ?_ | ((first | refine Ka ?_ | refine Kb ?_ | refine Kc ?_ | refine Kd ?_ | refine Ke ?_); simp only [go_sem]) | refine Kf ?_ | refine Kg ?_ | refine Kp (fun _ => ?_) (fun _ => ?_) | ((first | refine Kh ?_ | refine Ki rfl ?_); simp only [or_self,Qs,Qt,Qu,Qv,Qw,Qx,Qy,Qz,Za,go_sem]))
       exact ⟨.done,some .ret,rfl,by simp,.inr ⟨rfl,i,Yv2 hz hx (by simp [hb]),rfl⟩⟩
    ·omega
   ·repeat' (first | refine Kn rfl ?_ | ((first | refine Ka ?_ | refine Kb ?_ | refine Kc ?_ | refine Kd ?_ | refine Ke ?_); simp only [go_sem]) | refine Kf ?_ | refine Kg ?_ | refine Kp (fun _ => ?_) (fun _ => ?_) | ((first | refine Kh ?_ | refine Ki rfl ?_); simp only [or_self,Qs,Qt,Qu,Qv,Qw,Qx,Qy,Qz,Za,go_sem]))
    ·omega
    ·rw [List.take_of_length_le (by omega)] at hz
     exact ⟨.ready,none,rfl,by simp,.inl ⟨rfl,X33 hz,rfl⟩⟩
  ·rintro (_ | ⟨c,own'⟩) (⟨_,h4,h5⟩ | ⟨h4,_⟩)
   ·cases h5
   ·cases h4
   ·simp only [List.head?_cons,Option.some.injEq] at h5
    subst h5
    rw [h4]
    repeat' (first | refine Kn rfl ?_ | ((first | refine Ka ?_ | refine Kb ?_ | refine Kc ?_ | refine Kd ?_ | refine Ke ?_); simp only [go_sem]) | refine Kf ?_ | refine Kg ?_ | refine Kp (fun _ => ?_) (fun _ => ?_) | ((first | refine Kh ?_ | refine Ki rfl ?_); simp only [or_self,Qs,Qt,Qu,Qv,Qw,Qx,Qy,Qz,Za,go_sem]))
    rfl
   ·cases h4
  ·rintro c (_ | ⟨c',own'⟩) (⟨h4,_⟩ | ⟨h4,i,h5,h6⟩)
   ·cases h4
   ·cases h6
   ·cases h4
   ·cases h4
    simp only [List.head?_cons,Option.some.injEq] at h6
    subst h6
    rw [h5]
    refine ⟨.ret,rfl,?_⟩
    repeat' (first | refine Kn rfl ?_ | ((first | refine Ka ?_ | refine Kb ?_ | refine Kc ?_ | refine Kd ?_ | refine Ke ?_); simp only [go_sem]) | refine Kf ?_ | refine Kg ?_ | refine Kp (fun _ => ?_) (fun _ => ?_) | ((first | refine Kh ?_ | refine Ki rfl ?_); simp only [or_self,Qs,Qt,Qu,Qv,Qw,Qx,Qy,Qz,Za,go_sem]))
    first | exact ⟨rfl,rfl⟩ | rfl
end
end Go.Fw.L07
