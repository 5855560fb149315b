/- EmitScalars. -/
import Derived.Test.YtakgmpkfpkmkaaaGreatDoorL07S13
import Derived.Test.YtakgmpkfpkmkaaaGreatDoorNc
set_option linter.all false
namespace Go.Fw.L07
open Go Go.Fw
open Go.Fw.Sh renaming intro -> Kg
open Go.Fw renaming G_reg -> Ka,VO_chk -> Kb,VO_go -> Kc,VO_gx -> Kd,G_cond -> Ke,VO_end -> Kf,G_fin -> Kh,G_ret -> Ki,G_weak -> Kj,G_again -> Kl,G_loop -> Km,Gx -> Kn
open And renaming intro -> Kp
open Go.Proofs.Tryz renaming prog -> QP
open Go.Fw.V.one renaming injEq -> Qs
open Go.Fw.V.agg renaming injEq -> Qt
open Go.Fw.V.tup renaming injEq -> Qu
open Go.Fw.A.d renaming injEq -> Qv
open Go.Fw.D.bool renaming injEq -> Qw
open Go.Fw.D.int renaming injEq -> Qx
open Go.Fw.D.str renaming injEq -> Qy
open Go.Fw.D.sl renaming injEq -> Qz
open List.cons renaming injEq -> Za
set_option maxRecDepth 4000
variable {gp : Heap}
theorem enc_one13 {r : Int} (h0 : 0 <= r) (h1 : r <= 127) : (Lib.encodeRune r).length = 1 := by unfold Lib.encodeRune; rw [Lib.encodeRuneZ_one h0 h1]; rfl
theorem pcB_len {r : Int} (h : okR r) : (encL (pcR r)).length <= 4 := by
 unfold okR at h
 have h4 : ∀ r,(Lib.encodeRune r).length <= 4 := fun r => by
  have h2 := (Lib.encodeRuneZ_length r).2
  have h3 : (Lib.encodeRune r).length = (Lib.encodeRuneZ r).length := by unfold Lib.encodeRune; simp
  omega
 unfold pcR
 split
 ·simp [encL,enc_one13]
 ·split
  ·simp [encL,enc_one13]
  ·split
   ·simp [encL,enc_one13]
   ·split
    ·rename_i h5
     simp only [encL,List.flatMap_cons,List.flatMap_nil,List.append_nil,List.length_append]
     rw [enc_one13 (by omega) (by omega),enc_one13 (by omega) (by omega)]
     omega
    ·split
     ·simp only [encL,List.flatMap_cons,List.flatMap_nil,List.append_nil]
      exact h4 r
     ·have hx : ∀ n : Int,0 <= n -> n <= 15 -> 0 <= hexR n /\ hexR n <= 127 := fun n h1 h2 => by unfold hexR; split <;> omega
      have e1 := hx (r / 16) (by omega) (by omega)
      have e2 := hx (r % 16) (by omega) (by omega)
      simp only [encL,List.flatMap_cons,List.flatMap_nil,List.append_nil,List.length_append]
      rw [enc_one13 (by omega) (by omega),enc_one13 (by omega) (by omega),enc_one13 e1.1 e1.2,enc_one13 e2.1 e2.2]
      omega
theorem pcLB_len : ∀ {l : List Int},(∀ r ∈ l,okR r) -> (encL (l.flatMap pcR)).length <= 4 * l.length
 | [],_ => by simp [encL]
 | r :: l,h => by
  have h1 := pcB_len (h r (by simp))
  have h2 := pcLB_len (l := l) fun x hx => h x (by simp [hx])
  rw [List.flatMap_cons]
  unfold encL at *
  rw [List.flatMap_append,List.length_append,List.length_cons]
  omega
theorem scB_len13 {x : Sc} (h : prR rightS x = true) : (scB x).length <= 4 * x.s.size + 40 := by
 have hk := prR_kind h
 unfold maxNum at hk
 unfold scB
 split
 ·simp only [List.length_cons,List.length_nil]; omega
 ·split
  ·cases decide (x.n = 1) <;> simp [boolB] <;> omega
  ·split
   ·have := Lib.itoa_length_le x.n (by omega) (by omega)
    omega
   ·have hr : rightS x.s = true := by
     rcases hk with ⟨h1,_⟩ | ⟨h1,_⟩ | ⟨h1,_⟩ | ⟨_,_,h1⟩
     ·omega
     ·omega
     ·omega
     ·exact h1
    unfold quoB sgS
    have h2 := pcLB_len (sgF_ok hr)
    have h3 := sgF_len x.s x.s.size 0
    simp only [List.length_cons,List.length_append,List.length_nil]
    omega
theorem EmW.leaf1 {g : Gr} {d i : Nat} {t met met' : List Int} {q : List Tr} {k : Int} {x : Sc} {keys : List Sc} {kids : List Int} (h1 : g.l[i]? = some ⟨k,x,keys,kids⟩) (h2 : kids = []) (h : EmW g d t met q met') : EmW g d ((i : Int) :: t) met (.mk k ⟨#[]⟩ x keys [] :: q) met' := .leaf h1 h2 h
abbrev oneN13 (x : Sc) : Nd := ⟨0,x,[],[]⟩
abbrev oneG (x : Sc) : Gr := ⟨0,[oneN13 x]⟩
abbrev lstN13 (n : Nat) : Nd := ⟨1,z13,[],List.replicate n 1⟩
abbrev lstG (n : Nat) (x : Sc) : Gr := ⟨0,[lstN13 n,oneN13 x]⟩
theorem oneN_right {x : Sc} (h : prR rightS x = true) (n : Int) : nodeR rightS (oneN13 x) n = true := by simp [nodeR,oneR,h]
theorem lstN_right (n : Nat) : nodeR rightS (lstN13 n) 2 = true := by
 simp only [nodeR,seqR,isZ,kidsIn]
 simp only [show ((1 : Int) = 0) = False by simp,if_false,if_true,decide_true,Bool.true_and,List.all_eq_true,List.mem_replicate]
 rintro i ⟨_,rfl⟩; rfl
theorem kd_one13 {g : Gr} {i : Nat} {x : Sc} (h : g.l[i]? = some (oneN13 x)) : kd g (i : Int) = [] := by
 show kidsOf (ndAt g.l (i : Int)) = _
 rw [ndAt_nat h]; rfl
theorem kd_lst13 {g : Gr} {i n : Nat} (h : g.l[i]? = some (lstN13 n)) : kd g (i : Int) = List.replicate n 1 := by
 show kidsOf (ndAt g.l (i : Int)) = _
 rw [ndAt_nat h]; rfl
theorem one_tdy {x : Sc} (h : prR rightS x = true) : Tdy (oneG x) := by
 have hgood : Good (oneG x) := ⟨chk_of (by simp) (by simp) (by intro y hy; simp at hy; subst hy; exact oneN_right h _),small_of13 (by simp)⟩
 have k0 : kd (oneG x) 0 = [] := kd_one13 (i := 0) rfl
 have hw : walkL (oneG x) = [0] := by
  have : Walks (kd (oneG x)) [0] [] [0] := by
   refine .step (by simp) ?_
   rw [k0]; exact .nil _
  exact this.eq
 have ht : tidyG (oneG x) = oneG x := by
  have : tidyG (oneG x) = ⟨0,[0].map fun i => tidyN [0] (ndAt (oneG x).l i)⟩ := by rw [<- hw]; rfl
  rw [this]; rfl
 have := hgood.tdy; rwa [ht] at this
theorem lst_rep (k : Int -> List Int) : ∀ n,Walks k (List.replicate n 1 ++ []) [0,1] [0,1]
 | 0 => .nil _
 | n + 1 => .skip (by simp) (lst_rep k n)
theorem lst_kd {n : Nat} {x : Sc} : kd (lstG n x) 0 = List.replicate n 1 /\ kd (lstG n x) 1 = [] := ⟨kd_lst13 (i := 0) rfl,kd_one13 (i := 1) rfl⟩
theorem lst_tdy {x : Sc} (h : prR rightS x = true) {n : Nat} (h0 : 1 <= n) (h1 : n <= 9) : Tdy (lstG n x) := by
 have hgood : Good (lstG n x) := ⟨chk_of (by simp) (by simp) (by
  intro y hy; simp at hy; rcases hy with rfl | rfl
  ·exact lstN_right n
  ·exact oneN_right h _),small_of13 (by simp; omega)⟩
 obtain ⟨k0,k1⟩ := lst_kd (n := n) (x := x)
 obtain ⟨m,rfl⟩ : ∃ m,n = m + 1 := ⟨n - 1,by omega⟩
 have hw : walkL (lstG (m + 1) x) = [0,1] := by
  have : Walks (kd (lstG (m + 1) x)) [0] [] [0,1] := by
   refine .step (by simp) ?_
   rw [k0]
   refine .step (by simp) ?_
   rw [k1]
   exact lst_rep _ m
  exact this.eq
 have ht : tidyG (lstG (m + 1) x) = lstG (m + 1) x := by
  have : tidyG (lstG (m + 1) x) = ⟨0,[0,1].map fun i => tidyN [0,1] (ndAt (lstG (m + 1) x).l i)⟩ := by rw [<- hw]; rfl
  rw [this]
  have e : (tidyN [0,1] (ndAt (lstG (m + 1) x).l 0)) = lstN13 (m + 1) := by
   have : tidyN [0,1] (ndAt (lstG (m + 1) x).l 0) = ⟨1,z13,[],(List.replicate (m + 1) (1 : Int)).map fun i => (([0,1] : List Int).idxOf i : Int)⟩ := rfl
   rw [this,List.map_replicate]; rfl
  simp only [List.map_cons,List.map_nil,e]
  rfl
 have := hgood.tdy; rwa [ht] at this
theorem one_dep {x : Sc} : depL (oneG x) = [1] := by
 have k0 : kd (oneG x) ((0 : Nat) : Int) = [] := kd_one13 (i := 0) rfl
 have : DepW (kd (oneG x)) 1 [((0 : Nat) : Int)] [0] [1] := by
  refine .step (x := 0) rfl (by omega) (b := [1]) ?_ (.nil _ _)
  rw [k0]; exact .nil _ _
 exact this.eq
theorem dep_rep (k : Int -> List Int) : ∀ n,DepW k 2 (List.replicate n ((1 : Nat) : Int)) [1,2] [1,2]
 | 0 => .nil _ _
 | n + 1 => .skip (x := 2) rfl (by omega) (dep_rep k n)
theorem lst_dep {x : Sc} {n : Nat} (h0 : 1 <= n) : depL (lstG n x) = [1,2] := by
 obtain ⟨m,rfl⟩ : ∃ m,n = m + 1 := ⟨n - 1,by omega⟩
 have k0 : kd (lstG (m + 1) x) ((0 : Nat) : Int) = List.replicate (m + 1) ((1 : Nat) : Int) := lst_kd.1
 have k1 : kd (lstG (m + 1) x) ((1 : Nat) : Int) = [] := lst_kd.2
 have : DepW (kd (lstG (m + 1) x)) 1 [((0 : Nat) : Int)] [0,0] [1,2] := by
  refine .step (x := 0) rfl (by omega) (b := [1,2]) ?_ (.nil _ _)
  rw [k0]
  refine .step (x := 0) rfl (by omega) (b := [1,2]) ?_ (dep_rep _ m)
  rw [k1]; exact .nil _ _
 exact this.eq
theorem one_deep {x : Sc} : deepQ (oneG x) := by
 intro i y d hy hd
 rw [one_dep] at hd
 match i,hd with
 | 0,hd => cases hd; omega
theorem lst_deep {x : Sc} {n : Nat} (h0 : 1 <= n) : deepQ (lstG n x) := by
 intro i y d hy hd
 rw [lst_dep h0] at hd
 match i,hd with
 | 0,hd => cases hd; omega
 | 1,hd => cases hd; omega
abbrev lfT (x : Sc) : Tr := .mk 0 ⟨#[]⟩ x [] []
theorem one_em {x : Sc} : EmW (oneG x) 1 [0] [] [lfT x] [] := EmW.leaf1 (g := oneG x) (i := 0) rfl rfl (.nil _ _)
theorem lst_em1 {x : Sc} {n : Nat} : ∀ m,EmW (lstG n x) 2 (List.replicate m ((1 : Nat) : Int)) [0] (List.replicate m (lfT x)) [0]
 | 0 => .nil _ _
 | m + 1 => EmW.leaf1 (g := lstG n x) (i := 1) rfl rfl (lst_em1 m)
theorem lst_flat {x : Sc} {n : Nat} : flat (lstG n x) = List.replicate n 1 := by simp [flat]
theorem lst_anc {x : Sc} {n : Nat} : anc (lstG n x) 0 <= 0 /\ anc (lstG n x) 1 <= 0 := by
 have h0 := anc_pos (g := lstG n x) (i := 0) rfl
 have h1 := anc_pos (g := lstG n x) (i := 1) rfl
 rw [lst_flat] at h0 h1
 constructor
 ·refine Int.not_lt.1 fun e => ?_
  have := (h0.1 e).2
  rw [show (0 :: List.replicate n (1 : Int)).count ((0 : Nat) : Int) = 1 by rw [List.count_cons,List.count_replicate]; rfl] at this
  omega
 ·exact Int.not_lt.1 fun e => (h1.1 e).1 rfl
abbrev lstT (n : Nat) (x : Sc) : Tr := .mk 1 ⟨#[]⟩ z13 [] (List.replicate n (lfT x))
theorem lst_em {x : Sc} {n : Nat} (h0 : 1 <= n) : EmW (lstG n x) 1 [0] [] [lstT n x] [0] := by
 have := EmW.node (g := lstG n x) (d := 1) (i := 0) (y := lstN13 n) (t := []) (met := []) (met1 := [0]) (met' := [0]) rfl (by simp; omega) (by simp) (by omega) (lst_em1 n) (.nil _ _)
 rw [aName_nil (by have := (lst_anc (x := x) (n := n)).1; omega)] at this
 exact this
theorem one_place {x : Sc} : placeL (oneG x) <= 200 := by
 have h1 := anc_pos (g := oneG x) (i := 0) rfl
 show (0 + (if 0 < anc (oneG x) 0 then _ else _) : Int) <= 200
 rw [if_neg (fun e => (h1.1 e).1 rfl)]
 exact (by decide : (0 + (([0] : List Int).count 0 : Nat) : Int) <= 200)
theorem lst_place {x : Sc} {n : Nat} (h1 : n <= 9) : placeL (lstG n x) <= 200 := by
 have h := lst_anc (x := x) (n := n)
 show ((0 + (if 0 < anc (lstG n x) 0 then _ else _)) + (if 0 < anc (lstG n x) 1 then _ else _) : Int) <= 200
 rw [if_neg (by omega),if_neg (by omega),lst_flat]
 rw [show (0 :: List.replicate n (1 : Int)).count ((0 : Nat) : Int) = 1 by rw [List.count_cons,List.count_replicate]; rfl,show (0 :: List.replicate n (1 : Int)).count (([oneN13 x].length : Nat) : Int) = n by rw [List.count_cons,List.count_replicate]; simp]
 omega
theorem one_out {x : Sc} (h : prR rightS x = true) (hs : x.s.size <= 100) : outE (oneG x) = ([scB x],0) := by
 have hg := one_tdy h
 have he := emT_eq hg one_deep one_em
 have hl := scB_len13 h
 have ht : topL (lfT x) = [scB x] := rfl
 have := one_place (x := x)
 rw [outE_ok ⟨hg.good.c,hg.self⟩ one_deep (by omega) (by rw [he,ht]; simp [sizeL]; omega),he,ht]
abbrev dashB (x : Sc) : List UInt8 := 45 :: 32 :: scB x
theorem lst_lines (x : Sc) : ∀ n,lnK 0 (List.replicate n [45]) (List.replicate n (lfT x)) = List.replicate n (dashB x)
 | 0 => rfl
 | n + 1 => by
  rw [List.replicate_succ,List.replicate_succ,List.replicate_succ,lnK_cons,lst_lines x n]
  rfl
theorem lst_out {x : Sc} (h : prR rightS x = true) (hs : x.s.size <= 100) {n : Nat} (h0 : 1 <= n) (h1 : n <= 9) : outE (lstG n x) = (List.replicate n (dashB x),0) := by
 have hg := lst_tdy h h0 h1
 have he := emT_eq hg (lst_deep h0) (lst_em h0)
 have hl := scB_len13 h
 have ht : topL (lstT n x) = List.replicate n (dashB x) := by
  have hn : List.replicate n (lfT x) ≠ [] := by simp; omega
  unfold topL
  rw [if_neg (show ¬ (lstT n x).kids = [] from hn)]
  have e : heads13 (lstT n x).k (lstT n x).keys (lstT n x).kids.length = List.replicate n [45] := by
   show List.replicate (List.replicate n (lfT x)).length [45] = _
   rw [List.length_replicate]
  rw [e]
  exact lst_lines x n
 have := lst_place (x := x) h1
 have hz : sizeL (List.replicate n (dashB x)) = n * ((scB x).length + 3) := by simp [sizeL]
 have hz2 : n * ((scB x).length + 3) <= 9 * (440 + 3) := Nat.mul_le_mul h1 (by omega)
 rw [outE_ok ⟨hg.good.c,hg.self⟩ (lst_deep h0) (by omega) (by rw [he,ht,hz]; omega),he,ht]
theorem bad_out {l : List Nd} {x : Sc} (h : ¬ prR rightS x = true) (hx : oneN13 x ∈ l) : outE ⟨0,l⟩ = ([],72) := by
 refine outE_bad fun hc => h ?_
 have := (chk_ok hc.1).2.2 _ hx
 simp only [nodeR,oneR,if_true,Bool.and_eq_true] at this
 exact this.1
theorem text_bad13 (h : Env13 gp) (x : Sc) (hr : ¬ prR rightS x = true) : Does QP gp 19 [x.v] (.tup [vs ⟨#[]⟩,vi 60]) := by
 refine f19_in ?_
 simp only [go_sem]
 have c0 := plain_right (gp := gp) rightS (fun s => right_str h.e.u s) x
 rw [show prR rightS x = false by simpa using hr] at c0
 repeat' (first | refine Kn rfl ?_ | ((first | refine Ka ?_ | refine Kb ?_ | refine Kc ?_ | refine Kd ?_ | refine Ke ?_); simp only [go_sem]) | refine Kf ?_ | refine Kg ?_ | refine ⟨_,c0,Kg ?_⟩ | refine ⟨_,⟨c0,rfl⟩,Kg ?_⟩ | refine Kp (fun _ => ?_) (fun _ => ?_) | ((first | refine Kh ?_ | refine Ki rfl ?_); simp only [or_self,Qs,Qt,Qu,Qv,Qw,Qx,Qy,Qz,Za,go_sem]))
 all_goals trace_state
def rp13 (n : Nat) : List (List D) := List.replicate n [.int .i64 1]
theorem rp13_len (n : Nat) : (rp13 n).length = n := by simp [rp13]
theorem rp13_app (i : Nat) : rp13 i ++ [[.int .i64 1]] = rp13 (i + 1) := by unfold rp13; rw [List.replicate_succ']
def wt13 (B : List UInt8) (n : Nat) : ByteArray := bT (textL (List.replicate n (45 :: 32 :: B)))
theorem wt13_app (B : List UInt8) (i : Nat) : wt13 B i ++ (⟨#[45,32]⟩ : ByteArray) ++ bT B ++ (⟨#[10]⟩ : ByteArray) = wt13 B (i + 1) := by
 unfold wt13
 rw [show (⟨#[45,32]⟩ : ByteArray) = bT [45,32] from rfl,show (⟨#[10]⟩ : ByteArray) = bT [10] from rfl,bT_app,bT_app,bT_app,List.replicate_succ',textL_snoc]
 simp
theorem wt13_len (B : List UInt8) (i : Nat) : (wt13 B i).size = i * (B.length + 3) := by unfold wt13; rw [bT_size,textL_len]; simp [sizeL]
def ownS (x : Sc) : Nat -> List Ch
 | 0 => [.cells x.as,.cells [.d (.int .i64 1),.d (.int .i64 0),.d (.int .i64 0),.d (.str ⟨#[]⟩),.nil,.nil]]
 | i + 1 => [.cells x.as,.cells [.d (.int .i64 1),.d (.int .i64 0),.d (.int .i64 0),.d (.str ⟨#[]⟩),.nil,.own 2 i],.row 1 i (rp13 (i + 1))]
set_option maxHeartbeats 2000000 in
theorem emit_scalars (h : Env13 gp) (x0 : Sc) (n0 : Int) : Does QP gp 6 [x0.v,vi n0] (vb true) := by
 have cs := shown13_ok h
 have cx := cut_sc (gp := gp) x0
 have hsz : x0.cut.s.size <= 100 := cut1_size _
 generalize x0.cut = x at *
 have hsh : x.short := by show x.s.size <= 100000; omega
 obtain ⟨n,hn,hn0,hn1⟩ : ∃ n : Nat,(if 9 < if n0 < 1 then 1 else n0 then 9 else if n0 < 1 then 1 else n0) = (n : Int) /\ 1 <= n /\ n <= 9 := by
  by_cases e1 : n0 < 1
  ·exact ⟨1,by rw [if_pos e1]; decide,by omega,by omega⟩
  ·by_cases e2 : 9 < n0
   ·exact ⟨9,by rw [if_neg e1,if_pos e2]; rfl,by omega,by omega⟩
   ·exact ⟨n0.toNat,by rw [if_neg e1,if_neg e2]; omega,by omega,by omega⟩
 have hst1 : ∀ y ∈ (oneG x).l,y.short := by intro y hy; simp at hy; subst hy; exact ⟨by simp,by simp,hsh,by simp⟩
 have hst2 : ∀ y ∈ (lstG n x).l,y.short := by
  intro y hy; simp at hy; rcases hy with rfl | rfl
  ·refine ⟨by simp,by simp; omega,?_,by simp⟩
   show (0 : Nat) <= 100000; omega
  ·exact ⟨by simp,by simp,hsh,by simp⟩
 have hs1 : Small (oneG x) := small_of13 (by simp)
 have hs2 : Small (lstG n x) := small_of13 (by simp; omega)
 have c1 := text13 h hs1 hst1
 have c2 := text13 h hs2 hst2
 obtain ⟨B,e,e1,T1,T2,hB,c0,c1,c2,hf⟩ : ∃ (B : List UInt8) (e e1 : Int) (T1 T2 : ByteArray),B.length <= 440 /\ Does QP gp 19 [x.v] (.tup [vs (bT B),vi e]) /\ Does QP gp 11 [(oneG x).v] (.tup [vs T1,vi e1]) /\
   Does QP gp 11 [(lstG n x).v] (.tup [vs T2,vi e1]) /\ ((e = 0 /\ e1 = 0 /\ T1 = bT B ++ ⟨#[10]⟩ /\ T2 = wt13 B n) \/ (e = 60 /\ e1 = 72 /\ T1 = ⟨#[]⟩ /\ T2 = ⟨#[]⟩)) := by
  by_cases hr : prR rightS x = true
  ·have c0 := text10 h.e.u h.p x hr hsh
   have hl := scB_len13 hr
   rw [one_out hr hsz] at c1
   rw [lst_out hr hsz hn0 hn1] at c2
   exact ⟨scB x,0,0,_,_,by omega,c0,c1,c2,.inl ⟨rfl,rfl,by rw [show (⟨#[10]⟩ : ByteArray) = bT [10] from rfl,bT_app]; simp [textL],rfl⟩⟩
  ·have c0 := text_bad13 h x hr
   rw [bad_out hr (by simp)] at c1 c2
   exact ⟨[],60,72,_,_,by simp,c0,c1,c2,.inr ⟨rfl,rfl,rfl,rfl⟩⟩
 have hwl : ∀ i : Nat,i <= n -> (wt13 B i).size <= 9 * 443 := fun i hi => by
  rw [wt13_len]; exact Nat.mul_le_mul (by omega) (by omega)
 have e0 : (lstG n x).v = .agg [.d (.int .i64 0),.d (.sl [[.int .i64 1,.int .i64 0,.int .i64 0,.str ⟨#[]⟩,.sl [],.sl (rp13 n)],[.int .i64 0,.int .i64 x.k,.int .i64 x.n,.str x.s,.sl [],.sl []]])] := by
  have : ints (List.replicate n 1) = rp13 n := by unfold ints rp13; rw [List.map_replicate]
  rw [<- this]; rfl
 rw [e0] at c2
 have hap : ∀ p ∈ ([[.int .i64 1]] : List (List D)),p.length = 1 := by simp
 have hnb : (bT B).size <= 440 := by rw [bT_size]; exact hB
 refine f6_in ?_
 simp only [go_sem]
 repeat' (first | refine Kn rfl ?_ | ((first | refine Ka ?_ | refine Kb ?_ | refine Kc ?_ | refine Kd ?_ | refine Ke ?_); simp only [hn,go_sem]) | refine Kf ?_ | refine Kg ?_ | refine ⟨_,cs,Kg ?_⟩ | refine ⟨_,⟨cs,rfl⟩,Kg ?_⟩ | refine ⟨_,cx,Kg ?_⟩ | refine ⟨_,⟨cx,rfl⟩,Kg ?_⟩ | refine ⟨_,c0,Kg ?_⟩ | refine ⟨_,⟨c0,rfl⟩,Kg ?_⟩ | refine ⟨_,c1,Kg ?_⟩ | refine ⟨_,⟨c1,rfl⟩,Kg ?_⟩ | (refine Kp (fun _ => ?_) (fun _ => ?_) <;> try (exfalso; omega)) | ((first | refine Kh ?_ | refine Ki rfl ?_); simp only [hn,or_self,Qs,Qt,Qu,Qv,Qw,Qx,Qy,Qz,Za,go_sem]))
 refine Kj (fr 98 [(1,vi n),(2,.one (.ptr 0 0)),(5,vb true),(6,vs (bT B)),(7,vi e),(8,vs T1),(9,vi e1),(10,.one (.ptr 1 0)),(11,vs (wt13 B (0 : Nat))),(12,vi (0 : Nat))]) (by (simp only [go_sem]; repeat' (first | refine Kp ?_ ?_ | exact Or.inl rfl | exact Or.inr rfl | rfl))) ?_
 refine Km (fun mz sz => ∃ i : Nat,i <= n /\ mz = n - i /\ (0 <= i) /\ sz = ⟨fr 98 [(1,vi n),(2,.one (.ptr 0 0)),(5,vb true),(6,vs (bT B)),(7,vi e),(8,vs T1),(9,vi e1),(10,.one (.ptr 1 0)),(11,vs (wt13 B i)),(12,vi i)],ownS x i⟩) (n) ⟨0,Nat.zero_le _,(Nat.sub_zero _).symm,?_,rfl⟩ ?_
 ·exact Nat.zero_le _
 rintro _ _ ⟨i,hi,rfl,-,rfl⟩
 simp only [go_sem]
 by_cases hil : i < n
 ·have e2 := wt13_app B i
  have h1 := hwl i (by omega)
  have h2 := hwl (i + 1) (by omega)
  have hz1 : (((wt13 B i).size + #[(45 : UInt8),32].size : Nat) : Int) <= 9223372036854775807 := by simp only [List.size_toArray,List.length_cons,List.length_nil]; omega
  have hz2 : (((wt13 B i).size + #[(45 : UInt8),32].size + (bT B).size : Nat) : Int) <= 9223372036854775807 := by simp only [List.size_toArray,List.length_cons,List.length_nil]; omega
  have hz3 : (((wt13 B i).size + #[(45 : UInt8),32].size + (bT B).size + #[(10 : UInt8)].size : Nat) : Int) <= 9223372036854775807 := by simp only [List.size_toArray,List.length_cons,List.length_nil]; omega
  have hik : inK .i64 ((i : Int) + 1) := inK_small (by omega) (by omega)
  by_cases hi0 : i = 0
  ·have hl0 : 1 < lenMax := by unfold lenMax; omega
   rw [show ownS x i = ownS x 0 by rw [hi0]]
   unfold ownS
   repeat' (first | refine Kn rfl ?_ | ((first | refine Ka ?_ | refine Kb ?_ | refine Kc ?_ | refine Kd ?_ | refine Ke ?_); simp only [e2,hz1,hz2,hz3,go_sem]) | refine Kf ?_ | refine Kg ?_ | refine ⟨hap,hl0,?_⟩ | refine ⟨hik,?_⟩ | (refine Kp (fun _ => ?_) (fun _ => ?_) <;> try (exfalso; omega)))
   refine Kj (fr 98 [(1,vi n),(2,.one (.ptr 0 0)),(5,vb true),(6,vs (bT B)),(7,vi e),(8,vs T1),(9,vi e1),(10,.one (.ptr 1 0)),(11,vs (wt13 B (i + 1))),(12,vi (i + 1))]) (by (simp only [go_sem]; repeat' (first | refine Kp ?_ ?_ | exact Or.inl rfl | exact Or.inr rfl | rfl))) ?_
   refine Kl ⟨n - (i + 1),by omega,i + 1,by omega,rfl,?_,by subst hi0; rfl⟩
   exact Nat.zero_le _
  ·obtain ⟨k,hk⟩ : ∃ k,i = k + 1 := ⟨i - 1,by omega⟩
   have e9 := rp13_app i
   have hl := rp13_len i
   have hl1 : ((rp13 i).length + 1) * 8 <= 140737488355328 := by omega
   have hl2 : (rp13 i).length + 1 < lenMax := by unfold lenMax; omega
   rw [show ownS x i = [.cells x.as,.cells [.d (.int .i64 1),.d (.int .i64 0),.d (.int .i64 0),.d (.str ⟨#[]⟩),.nil,.own 2 k],.row 1 k (rp13 i)] by rw [hk]; rfl]
   repeat' (first | refine Kn rfl ?_ | ((first | refine Ka ?_ | refine Kb ?_ | refine Kc ?_ | refine Kd ?_ | refine Ke ?_); simp only [e9,e2,hz1,hz2,hz3,go_sem]) | refine Kf ?_ | refine Kg ?_ | refine ⟨hap,hl1,hl2,?_⟩ | refine ⟨hik,?_⟩ | (refine Kp (fun _ => ?_) (fun _ => ?_) <;> try (exfalso; omega)))
   refine Kj (fr 98 [(1,vi n),(2,.one (.ptr 0 0)),(5,vb true),(6,vs (bT B)),(7,vi e),(8,vs T1),(9,vi e1),(10,.one (.ptr 1 0)),(11,vs (wt13 B (i + 1))),(12,vi (i + 1))]) (by (simp only [go_sem]; repeat' (first | refine Kp ?_ ?_ | exact Or.inl rfl | exact Or.inr rfl | rfl))) ?_
   refine Kl ⟨n - (i + 1),by omega,i + 1,by omega,rfl,?_,by subst hk; rfl⟩
   exact Nat.zero_le _
 ·obtain rfl : n = i := by omega
  obtain ⟨m,rfl⟩ : ∃ m,n = m + 1 := ⟨n - 1,by omega⟩
  unfold ownS
  have hz4 : (((bT B).size + #[(10 : UInt8)].size : Nat) : Int) <= 9223372036854775807 := by simp only [List.size_toArray,List.length_cons,List.length_nil]; omega
  rcases hf with ⟨rfl,rfl,rfl,rfl⟩ | ⟨rfl,rfl,rfl,rfl⟩
  ·refine G_freeze 2 ?_
   simp only [go_sem]
   refine G_unnil 1 rfl ?_
   simp only [unnil,List.map,go_sem]
   repeat' (first | refine Kn rfl ?_ | ((first | refine Ka ?_ | refine Kb ?_ | refine Kc ?_ | refine Kd ?_ | refine Ke ?_); simp only [go_sem]) | refine Kf ?_ | refine Kg ?_ | refine ⟨_,c2,Kg ?_⟩ | refine ⟨_,⟨c2,rfl⟩,Kg ?_⟩ | refine ⟨hz4,?_⟩ | (refine Kp (fun _ => ?_) (fun _ => ?_) <;> try (exfalso; omega)) | ((first | refine Kh ?_ | refine Ki rfl ?_); simp only [or_self,Qs,Qt,Qu,Qv,Qw,Qx,Qy,Qz,Za,go_sem]))
   all_goals trace_state
  ·refine G_freeze 2 ?_
   simp only [go_sem]
   refine G_unnil 1 rfl ?_
   simp only [unnil,List.map,go_sem]
   repeat' (first | refine Kn rfl ?_ | ((first | refine Ka ?_ | refine Kb ?_ | refine Kc ?_ | refine Kd ?_ | refine Ke ?_); simp only [go_sem]) | refine Kf ?_ | refine Kg ?_ | refine ⟨_,c2,Kg ?_⟩ | refine ⟨_,⟨c2,rfl⟩,Kg ?_⟩ | (refine Kp (fun _ => ?_) (fun _ => ?_) <;> try (exfalso; omega)) | ((first | refine Kh ?_ | refine Ki rfl ?_); simp only [or_self,Qs,Qt,Qu,Qv,Qw,Qx,Qy,Qz,Za,go_sem]))
   all_goals trace_state
end Go.Fw.L07
