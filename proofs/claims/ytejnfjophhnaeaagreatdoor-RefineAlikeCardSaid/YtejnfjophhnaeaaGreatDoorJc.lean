/- Chapter 7: kids as own rows. -/
import Derived.Test.YtejnfjophhnaeaaGreatDoorL07R
import Derived.Test.YtejnfjophhnaeaaGreatDoorJb
import Derived.Test.YtejnfjophhnaeaaGreatDoorL07L10Mini
import Derived.Test.YtejnfjophhnaeaaGreatDoorJa
import Derived.Test.YtejnfjophhnaeaaGreatDoorEa
set_option linter.all false
namespace Go.Fw
open Go
section
variable {S : Sx} {Y : Dyn} {k : List MI} {s : St} {a : Act} {w w' : World} {H : Heap} {an : Anc} {F : Nat -> Nat -> Prop} {ms : List Nat}
theorem SatX.nil_row_v (h : SatX S Y s a w H an F ms) {u : Value} (hu : ∃ A,u = .slice A 0 0) (sz ver : Nat) (hsz : 0 < sz) :
  SatX S Y { s with own := s.own ++ [.row sz ver []] } a w H (an.put s.own.length (ver,u)) (fun j b => if j = s.own.length then False else F j b) ms := by
 obtain ⟨A,rfl⟩ := hu
 exact h.add_own (WKeep.refl w _) (fun _ hb => hb.elim) ⟨rfl,⟨_,_,_,rfl⟩,hsz,by simp,by simp [Xad],.inl ⟨rfl,⟨_,rfl⟩,fun _ hb => hb⟩⟩
theorem Ybd (t sz ver : Nat) (hsz : 0 < sz) (ht : getV s.fr t = .one .nil) (h : G S k ⟨setV s.fr t (.one (.own s.own.length ver)),s.own ++ [.row sz ver []]⟩) : G S k s := by
 rintro Y a w ⟨H,an,F,ms,hs⟩
 obtain ⟨u,hu,hd⟩ := hs.fr.get (Xaz _ _ _ ht (by simp))
 have hd : ∃ A,u = .slice A 0 0 := hd
 have h1 := hs.nil_row_v hd sz ver hsz
 refine h Y a w ⟨H,_,_,ms,h1.reframe ?_⟩
 have := Xbi s.fr a.tmps.toList t (.one (.own s.own.length ver)) u h1.fr (by
  obtain ⟨A,rfl⟩ := hd
  exact ⟨rfl,(ver,.slice A 0 0),by simp [Anc.put],Nat.le_refl _,fun _ => rfl⟩)
 rwa [Xkt hu] at this
end
end Go.Fw
namespace Go.Fw.L07
open Go Go.Fw
open Go.Fw.Sh renaming intro -> Kg
open Go.Fw renaming Xii -> Ka,Xej -> Ka,Xek -> Ka,Xeh -> Kb,Xio -> Kc,Xip -> Kd,Xei -> Ke,Xel -> Kf,Xik -> Kh,Xij -> Ki,Xfl -> Kj,Xgl -> Kk,Xdv -> Kl,Xfk -> Km,Gx -> Kn,Gw -> Ko
open And renaming intro -> Kp
open Go.Proofs.Tryz renaming prog -> QP
open Nat renaming reduceAdd -> Qa,reduceSub -> Qb,reduceMul -> Qc,reduceLeDiff -> Qd,reduceLT -> Qe,reduceEqDiff -> Qf
open Int renaming reduceToNat -> Qg,reduceLT -> Qh,reduceLE -> Qi,reduceGT -> Qj,reduceGE -> Qk,reduceEq -> Ql,reduceNe -> Qm,reduceBEq -> Qn,reduceBNe -> Qo,reduceAdd -> Qp,reduceSub -> Qq,reduceNeg -> Qr
open Go.Fw.V.one renaming injEq -> Qs
open Go.Fw.V.agg renaming injEq -> Qt
open Go.Fw.V.tup renaming injEq -> Qu
open Go.Fw.A.d renaming injEq -> Qv
open Go.Fw.D.bool renaming injEq -> Qw
open Go.Fw.D.int renaming injEq -> Qx
open Go.Fw.D.str renaming injEq -> Qy
open Go.Fw.D.sl renaming injEq -> Qz
open List.cons renaming injEq -> Za
set_option maxRecDepth 4000
variable {gp : Heap}
theorem Xli (l : List Int) (hl : l.length < 1000000) : Tri QP gp 44 [.one (.d (.sl (ints l)))] [] fun r post => r = .one (.own 0 1) /\ post = [.row 1 1 (ints l)] := by
 refine Yqu ?_
 simp only [go_sem]
 cases l with
 | nil =>
  refine Ypv 0 rfl fun q c => ?_
  cases q with
  | none =>
   simp only [go_sem]
   repeat' (first | refine Kn rfl ?_ | ((first | refine Ka ?_ | refine Kb ?_ | refine Kc ?_ | refine Kd ?_ | refine Ke ?_); simp only [Xbn,Xbo,go_sem]) | refine Kf ?_ | refine Kg ?_ | refine Kp (fun _ => ?_) (fun _ => ?_) | ((first | refine Kh ?_ | refine Ki rfl ?_); simp only [Xbn,Xbo,or_self,Qs,Qt,Qu,Qv,Qw,Qx,Qy,Qz,Za,go_sem]))
   repeat' (first | refine Kn rfl ?_ | ((first | refine Ka ?_ | refine Kb ?_ | refine Kc ?_ | refine Kd ?_); simp only [Xcb,go_sem]) | refine Kf ?_ | refine Kg ?_)
   refine Ybd 2 1 1 (by decide) rfl ?_
   simp only [go_sem]
   repeat' (first | refine Kn rfl ?_ | ((first | refine Ka ?_ | refine Kb ?_ | refine Kc ?_ | refine Kd ?_ | refine Ke ?_); simp only [Xbn,Xbo,Xcb,Xcd,go_sem]) | refine Kf ?_ | refine Kg ?_ | refine Kp (fun _ => ?_) (fun _ => ?_) | ((first | refine Kh ?_ | refine Ki rfl ?_); simp only [Xbn,Xbo,Xcb,Xcd,or_self,Qs,Qt,Qu,Qv,Qw,Qx,Qy,Qz,Za,go_sem]))
  | some q =>
   simp only [go_sem]
   refine Ycz ?_
   repeat' (first | refine Kn rfl ?_ | ((first | refine Ka ?_ | refine Kb ?_ | refine Kc ?_ | refine Kd ?_ | refine Ke ?_); simp only [Xbn,Xbo,go_sem]) | refine Kf ?_ | refine Kg ?_ | refine Kp (fun _ => ?_) (fun _ => ?_) | ((first | refine Kh ?_ | refine Ki rfl ?_); simp only [Xbn,Xbo,or_self,Qs,Qt,Qu,Qv,Qw,Qx,Qy,Qz,Za,go_sem]))
   refine Xq3 0 rfl ?_
   simp only [go_sem]
   repeat' (first | refine Kn rfl ?_ | ((first | refine Ka ?_ | refine Kb ?_ | refine Kc ?_ | refine Kd ?_ | refine Ke ?_); simp only [Xbn,Xbo,Xcb,Xcd,go_sem]) | refine Kf ?_ | refine Kg ?_ | refine Kp (fun _ => ?_) (fun _ => ?_) | ((first | refine Kh ?_ | refine Ki rfl ?_); simp only [Xbn,Xbo,Xcb,Xcd,or_self,Qs,Qt,Qu,Qv,Qw,Qx,Qy,Qz,Za,go_sem]))
   refine ⟨by simp,by simp [Xad],?_⟩
   repeat' (first | refine Kn rfl ?_ | ((first | refine Ka ?_ | refine Kb ?_ | refine Kc ?_ | refine Kd ?_ | refine Ke ?_); simp only [Xbn,Xbo,Xcb,Xcd,go_sem]) | refine Kf ?_ | refine Kg ?_ | refine Kp (fun _ => ?_) (fun _ => ?_) | ((first | refine Kh ?_ | refine Ki rfl ?_); simp only [Xbn,Xbo,Xcb,Xcd,or_self,Qs,Qt,Qu,Qv,Qw,Qx,Qy,Qz,Za,go_sem]))
 | cons x l =>
  simp only [go_sem]
  repeat' (first | refine Kn rfl ?_ | ((first | refine Ka ?_ | refine Kb ?_ | refine Kc ?_ | refine Kd ?_ | refine Ke ?_); simp only [Xbn,Xbo,Xcb,Xcd,go_sem]) | refine Kf ?_ | refine Kg ?_ | refine Kp (fun _ => ?_) (fun _ => ?_) | ((first | refine Kh ?_ | refine Ki rfl ?_); simp only [Xbn,Xbo,Xcb,Xcd,or_self,Qs,Qt,Qu,Qv,Qw,Qx,Qy,Qz,Za,go_sem]))
  refine ⟨by simp,by simp at hl; omega,by simp [Xad] at hl ⊢; omega,?_⟩
  repeat' (first | refine Kn rfl ?_ | ((first | refine Ka ?_ | refine Kb ?_ | refine Kc ?_ | refine Kd ?_ | refine Ke ?_); simp only [Xbn,Xbo,Xcb,Xcd,go_sem]) | refine Kf ?_ | refine Kg ?_ | refine Kp (fun _ => ?_) (fun _ => ?_) | ((first | refine Kh ?_ | refine Ki rfl ?_); simp only [Xbn,Xbo,Xcb,Xcd,or_self,Qs,Qt,Qu,Qv,Qw,Qx,Qy,Qz,Za,go_sem]))
def kidV (x : Nd) : Nat := if x.k = 1 then 1 else (Xab x).length
theorem Yib (g : Gr) (i : Int) (hg : Xbt g) : Tri QP gp 21 [g.v,vi i] [] fun r post => r = .tup [.one (.own 1 (kidV (ndAt g.l i))),vi (atE g.l i)] /\ post = [.dead,.row 1 (kidV (ndAt g.l i)) (ints (Xaf (ndAt g.l i)))] := by
 refine Yqd ?_
 simp only [go_sem]
 refine Xe3 28 ?_
 simp only [go_sem]
 obtain ⟨h1,h2⟩ := hg.at i
 have hz := Xum g.l i
 have ha := Xq7 (gp := gp) g i
 generalize ndAt g.l i = x at *
 generalize atE g.l i = e at *
 generalize atN g.l i = n at *
 have hq := Xci x
 repeat' (first | refine Kn rfl ?_ | ((first | refine Ka ?_ | refine Kb ?_ | refine Kc ?_ | refine Kd ?_ | refine Ke ?_); simp only [Xbc,Xbd,Xbe,Xbf,Xbg,Xau,Xaq,Xav,Xaw,Xax,Xay,go_sem]) | refine Kf ?_ | refine Kg ?_ | refine ⟨_,ha,Sh.intro ?_⟩ | refine ⟨_,⟨ha,rfl⟩,Sh.intro ?_⟩ | refine ⟨_,Xxi x n (by omega),Sh.intro ?_⟩ | refine ⟨_,⟨Xxi x n (by omega),rfl⟩,Sh.intro ?_⟩ | refine Kp (fun _ => ?_) (fun _ => ?_) | ((first | refine Kh ?_ | refine Ki rfl ?_); simp only [Xbc,Xbd,Xbe,Xbf,Xbg,Xau,Xaq,Xav,Xaw,Xax,Xay,or_self,Qs,Qt,Qu,Qv,Qw,Qx,Qy,Qz,Za,go_sem]))
 ·rename_i h
  have h : x.k = 1 := by simpa using h
  have hk : Xaf x = x.kids := by unfold Xaf; rw [if_pos h]
  have hv : kidV x = 1 := by unfold kidV; rw [if_pos h]
  rw [hk,hv]
  refine Or.inr ⟨[],.one (.own 0 1),[.row 1 1 (ints x.kids)],(by simp only [Xa5,rnVs,rnV,rnA,rnAs,rn0,rn0s,posN,rnCs,rnC,getC,List.isEmpty_nil,reduceCtorEq,↓reduceIte,Qa,Qb,Qc,Qd,Qe,Qf,Qg,Qh,Qi,Qj,Qk,Ql,Qm,Qn,Qo,Qp,Qq,Qr]; simp only [go_sem]; exact ⟨Xss,Xli x.kids (by omega)⟩),Sh.intro ?_⟩
  simp only [go_sem]
  refine Kk 2 (by simp only [List.length_nil,List.length_cons]; decide) (by simp only [go_sem]) (by simp only [go_sem]) ?_
  simp only [go_sem]
  refine Xar 0 ?_
  simp only [go_sem]
  repeat' (first | refine Kn rfl ?_ | ((first | refine Ka ?_ | refine Kb ?_ | refine Kc ?_ | refine Kd ?_ | refine Ke ?_); simp only [Xbc,Xbd,Xbe,Xbf,Xbg,Xau,Xaq,Xav,Xaw,Xax,Xay,go_sem]) | refine Kf ?_ | refine Kg ?_ | refine Kp (fun _ => ?_) (fun _ => ?_) | ((first | refine Kh ?_ | refine Ki rfl ?_); simp only [Xbc,Xbd,Xbe,Xbf,Xbg,Xau,Xaq,Xav,Xaw,Xax,Xay,or_self,Qs,Qt,Qu,Qv,Qw,Qx,Qy,Qz,Za,go_sem]))
 ·rename_i h
  have h : ¬ x.k = 1 := by simpa using h
  have hk : Xaf x = (Xab x).map Pr.kid := by unfold Xaf; rw [if_neg h]
  have hv : kidV x = (Xab x).length := by unfold kidV; rw [if_neg (h)]
  rw [hk,hv]
  refine Xku 8 1 (by decide) rfl ?_
  simp only [go_sem]
  refine Kj (fr 45 [(7,vi e),(8,.one (.own 1 (0 : Nat))),(31,.one (.d (.sl (prs (Xab x))))),(32,vi (Xab x).length),(33,vi (0 : Nat))]) (by (simp only [go_sem]; repeat' (first | refine Kp ?_ ?_ | exact Or.inl rfl | exact Or.inr rfl | rfl))) ?_
  refine Km (fun mz sz => ∃ i : Nat,i <= (Xab x).length /\ mz = (Xab x).length - i /\ (0 <= i) /\ sz = ⟨fr 45 [(7,vi e),(8,.one (.own 1 i)),(31,.one (.d (.sl (prs (Xab x))))),(32,vi (Xab x).length),(33,vi i)],[.cells _,.row 1 i (ints (((Xab x).map Pr.kid).take i))]⟩) ((Xab x).length) ⟨0,Nat.zero_le _,(Nat.sub_zero _).symm,?_,rfl⟩ ?_
  ·exact Nat.zero_le _
  rintro _ _ ⟨i,hi,rfl,-,rfl⟩
  simp only [go_sem]
  by_cases hil : i < (Xab x).length
  ·obtain ⟨p,hp⟩ := Xak hil
   repeat' (first | refine Kn rfl ?_ | ((first | refine Ka ?_ | refine Kb ?_ | refine Kc ?_ | refine Kd ?_ | refine Ke ?_); simp only [Xbc,Xbd,Xbe,Xbf,Xbg,Xau,Xaq,Xav,Xaw,Xax,Xay,go_sem]) | refine Kf ?_ | refine Kg ?_ | refine ⟨_,⟨Int.natCast_nonneg _,(by first | exact Xae hp | (rw [Int.toNat_natCast]; exact Xae hp)),rfl⟩,Sh.intro ?_⟩ | refine Kp (fun _ => ?_) (fun _ => ?_) | ((first | refine Kh ?_ | refine Ki rfl ?_); simp only [Xbc,Xbd,Xbe,Xbf,Xbg,Xau,Xaq,Xav,Xaw,Xax,Xay,or_self,Qs,Qt,Qu,Qv,Qw,Qx,Qy,Qz,Za,go_sem]))
   ·refine ⟨by simp,by simp; omega,by simp [Xad]; omega,?_⟩
    rw [show ints (((Xab x).map Pr.kid).take i) ++ [_] = ints (((Xab x).map Pr.kid).take (i + 1)) from Xfn (by rw [List.getElem?_map,hp]; rfl)]
    repeat' (first | refine Kn rfl ?_ | ((first | refine Ka ?_ | refine Kb ?_ | refine Kc ?_ | refine Kd ?_ | refine Ke ?_); simp only [Xbc,Xbd,Xbe,Xbf,Xbg,Xau,Xaq,Xav,Xaw,Xax,Xay,go_sem]) | refine Kf ?_ | refine Kg ?_ | refine Kp (fun _ => ?_) (fun _ => ?_) | ((first | refine Kh ?_ | refine Ki rfl ?_); simp only [Xbc,Xbd,Xbe,Xbf,Xbg,Xau,Xaq,Xav,Xaw,Xax,Xay,or_self,Qs,Qt,Qu,Qv,Qw,Qx,Qy,Qz,Za,go_sem]))
    refine ⟨Xan hil (by unfold Xad; omega),?_⟩
    refine Kj (fr 45 [(7,vi e),(8,.one (.own 1 (i + 1))),(31,.one (.d (.sl (prs (Xab x))))),(32,vi (Xab x).length),(33,vi (i + 1))]) (by (simp only [go_sem]; repeat' (first | refine Kp ?_ ?_ | exact Or.inl rfl | exact Or.inr rfl | rfl))) ?_
    refine Kk 2 (by simp only [List.length_nil,List.length_cons]; decide) (by simp only [go_sem]) (by simp only [go_sem]) ?_
    simp only [go_sem]
    refine Kl ⟨(Xab x).length - (i + 1),by omega,i + 1,by omega,rfl,?_,rfl⟩
    exact Nat.zero_le _
   ·omega
  ·repeat refine Ko rfl ?_
   refine Ka ?_
   simp only [Xaq,go_sem]
   repeat refine Ko rfl ?_
   refine Ke ?_
   simp only [go_sem]
   refine ⟨fun h => by exfalso; omega,fun _ => Xgk rfl ?_⟩
   obtain rfl : i = (Xab x).length := by omega
   rw [List.take_of_length_le (by simp)]
   refine Xar 0 ?_
   simp only [go_sem]
   repeat' (first | refine Kn rfl ?_ | ((first | refine Ka ?_ | refine Kb ?_ | refine Kc ?_ | refine Kd ?_ | refine Ke ?_); simp only [Xbc,Xbd,Xbe,Xbf,Xbg,Xau,Xaq,Xav,Xaw,Xax,Xay,go_sem]) | refine Kf ?_ | refine Kg ?_ | refine Kp (fun _ => ?_) (fun _ => ?_) | ((first | refine Kh ?_ | refine Ki rfl ?_); simp only [Xbc,Xbd,Xbe,Xbf,Xbg,Xau,Xaq,Xav,Xaw,Xax,Xay,or_self,Qs,Qt,Qu,Qv,Qw,Qx,Qy,Qz,Za,go_sem]))
 ·rename_i h
  have h : x = Nd.zero := hz (by intro h2; simp [h2] at h)
  have hk : Xaf x = (Xab x).map Pr.kid := by rw [h]; rfl
  have hv : kidV x = (Xab x).length := by unfold kidV; rw [if_neg (by rw [h]; decide)]
  rw [hk,hv]
  refine Xku 8 1 (by decide) rfl ?_
  simp only [go_sem]
  refine Kj (fr 45 [(7,vi e),(8,.one (.own 1 (0 : Nat))),(31,.one (.d (.sl (prs (Xab x))))),(32,vi (Xab x).length),(33,vi (0 : Nat))]) (by (simp only [go_sem]; repeat' (first | refine Kp ?_ ?_ | exact Or.inl rfl | exact Or.inr rfl | rfl))) ?_
  refine Km (fun mz sz => ∃ i : Nat,i <= (Xab x).length /\ mz = (Xab x).length - i /\ (0 <= i) /\ sz = ⟨fr 45 [(7,vi e),(8,.one (.own 1 i)),(31,.one (.d (.sl (prs (Xab x))))),(32,vi (Xab x).length),(33,vi i)],[.cells _,.row 1 i (ints (((Xab x).map Pr.kid).take i))]⟩) ((Xab x).length) ⟨0,Nat.zero_le _,(Nat.sub_zero _).symm,?_,rfl⟩ ?_
  ·exact Nat.zero_le _
  rintro _ _ ⟨i,hi,rfl,-,rfl⟩
  simp only [go_sem]
  by_cases hil : i < (Xab x).length
  ·obtain ⟨p,hp⟩ := Xak hil
   repeat' (first | refine Kn rfl ?_ | ((first | refine Ka ?_ | refine Kb ?_ | refine Kc ?_ | refine Kd ?_ | refine Ke ?_); simp only [Xbc,Xbd,Xbe,Xbf,Xbg,Xau,Xaq,Xav,Xaw,Xax,Xay,go_sem]) | refine Kf ?_ | refine Kg ?_ | refine ⟨_,⟨Int.natCast_nonneg _,(by first | exact Xae hp | (rw [Int.toNat_natCast]; exact Xae hp)),rfl⟩,Sh.intro ?_⟩ | refine Kp (fun _ => ?_) (fun _ => ?_) | ((first | refine Kh ?_ | refine Ki rfl ?_); simp only [Xbc,Xbd,Xbe,Xbf,Xbg,Xau,Xaq,Xav,Xaw,Xax,Xay,or_self,Qs,Qt,Qu,Qv,Qw,Qx,Qy,Qz,Za,go_sem]))
   ·refine ⟨by simp,by simp; omega,by simp [Xad]; omega,?_⟩
    rw [show ints (((Xab x).map Pr.kid).take i) ++ [_] = ints (((Xab x).map Pr.kid).take (i + 1)) from Xfn (by rw [List.getElem?_map,hp]; rfl)]
    repeat' (first | refine Kn rfl ?_ | ((first | refine Ka ?_ | refine Kb ?_ | refine Kc ?_ | refine Kd ?_ | refine Ke ?_); simp only [Xbc,Xbd,Xbe,Xbf,Xbg,Xau,Xaq,Xav,Xaw,Xax,Xay,go_sem]) | refine Kf ?_ | refine Kg ?_ | refine Kp (fun _ => ?_) (fun _ => ?_) | ((first | refine Kh ?_ | refine Ki rfl ?_); simp only [Xbc,Xbd,Xbe,Xbf,Xbg,Xau,Xaq,Xav,Xaw,Xax,Xay,or_self,Qs,Qt,Qu,Qv,Qw,Qx,Qy,Qz,Za,go_sem]))
    refine ⟨Xan hil (by unfold Xad; omega),?_⟩
    refine Kj (fr 45 [(7,vi e),(8,.one (.own 1 (i + 1))),(31,.one (.d (.sl (prs (Xab x))))),(32,vi (Xab x).length),(33,vi (i + 1))]) (by (simp only [go_sem]; repeat' (first | refine Kp ?_ ?_ | exact Or.inl rfl | exact Or.inr rfl | rfl))) ?_
    refine Kk 2 (by simp only [List.length_nil,List.length_cons]; decide) (by simp only [go_sem]) (by simp only [go_sem]) ?_
    simp only [go_sem]
    refine Kl ⟨(Xab x).length - (i + 1),by omega,i + 1,by omega,rfl,?_,rfl⟩
    exact Nat.zero_le _
   ·omega
  ·repeat refine Ko rfl ?_
   refine Ka ?_
   simp only [Xaq,go_sem]
   repeat refine Ko rfl ?_
   refine Ke ?_
   simp only [go_sem]
   refine ⟨fun h => by exfalso; omega,fun _ => Xgk rfl ?_⟩
   obtain rfl : i = (Xab x).length := by omega
   rw [List.take_of_length_le (by simp)]
   refine Xar 0 ?_
   simp only [go_sem]
   repeat' (first | refine Kn rfl ?_ | ((first | refine Ka ?_ | refine Kb ?_ | refine Kc ?_ | refine Kd ?_ | refine Ke ?_); simp only [Xbc,Xbd,Xbe,Xbf,Xbg,Xau,Xaq,Xav,Xaw,Xax,Xay,go_sem]) | refine Kf ?_ | refine Kg ?_ | refine Kp (fun _ => ?_) (fun _ => ?_) | ((first | refine Kh ?_ | refine Ki rfl ?_); simp only [Xbc,Xbd,Xbe,Xbf,Xbg,Xau,Xaq,Xav,Xaw,Xax,Xay,or_self,Qs,Qt,Qu,Qv,Qw,Qx,Qy,Qz,Za,go_sem]))
abbrev pD (g : Gr) (c : List Int) : V := .one (.d (.bx [.int .i64 g.root,.sl (nds g.l),.sl (ints c)]))
theorem Xxz {l : List Sc} {i : Nat} {x : Sc} (h : l[i]? = some x) : Xgg (l.take i) ++ (bT (scB x) ++ ⟨#[44]⟩ : ByteArray).data.toList = Xgg (l.take (i + 1)) := by
 have e : (bT (scB x) ++ ⟨#[44]⟩ : ByteArray) = bT (scB x ++ [44]) := Yoy _ [44]
 rw [e]
 unfold Xgg
 rw [List.take_succ,h,List.flatMap_append]
 simp [bT]
theorem Ybe : ∀ l : List Int,(l.flatMap pcR).length <= 4 * l.length
 | [] => Nat.le_refl _
 | r :: l => by
  have h1 := Ybb r
  have h2 := Ybe l
  simp only [List.flatMap_cons,List.length_append,List.length_cons]
  omega
theorem Ybf (s : ByteArray) : ∀ (f p : Nat),(sgF s f p).length <= f
 | 0,p => by simp [sgF]
 | f + 1,p => by
  have := Ybf s f (p + (Utf8.decode s p).2)
  simp only [sgF]
  split <;> simp <;> omega
theorem Ybg {x : Sc} (h : prR Xal x = true) (hs : x.short) : (scB x).length <= 1700000 := by
 have hk := Xex h
 unfold Xkz at hk
 unfold scB
 split
 ·simp
 ·split
  ·cases decide (x.n = 1) <;> simp [Xiw]
  ·split
   ·have := Lib.itoa_length_le x.n (by omega) (by omega)
    omega
   ·unfold quoB sgS
    have h1 := Xh2 ((sgF x.s x.s.size 0).flatMap pcR)
    have h2 := Ybe (sgF x.s x.s.size 0)
    have h3 := Ybf x.s x.s.size 0
    unfold Sc.short at hs
    simp only [List.length_cons,List.length_append,List.length_nil]
    omega
theorem Xp3 : ∀ (l : List Sc),(∀ x ∈ l,prR Xal x = true /\ x.short) -> (Xgg l).length <= 1700001 * l.length
 | [],_ => Nat.le_refl _
 | x :: l,h => by
  have h0 := h x (by simp)
  have h1 := Ybg h0.1 h0.2
  have h2 := Xp3 l fun m hm => h m (by simp [hm])
  unfold Xgg at *
  simp only [List.flatMap_cons,List.length_append,List.length_cons,List.length_nil]
  omega
theorem Wfp (hU : Xne gp) (hP : Xlh gp) (g : Gr) (c : List Int) (hg : Xbt g) (i : Int) (hk : ∀ x ∈ Xah (ndAt g.l i),prR Xal x = true /\ x.short) :
  Does QP gp 74 [pD g c,vi i] (vs (bT (Xgg (Xah (ndAt g.l i))))) := by
 refine We9 ?_
 simp only [go_sem]
 have ck := keys (gp := gp) g i hg
 have hl : (Xah (ndAt g.l i)).length <= 12 := by
  obtain ⟨h1,h2⟩ := hg.at i
  have := Xci (ndAt g.l i)
  unfold Xah; rw [List.length_map]; omega
 generalize Xah (ndAt g.l i) = l at *
 generalize atE g.l i = e at *
 repeat' (first | refine Kn rfl ?_ | ((first | refine Ka ?_ | refine Kb ?_ | refine Kc ?_ | refine Kd ?_ | refine Ke ?_); simp only [go_sem]) | refine Kf ?_ | refine Kg ?_ | refine ⟨_,ck,Sh.intro ?_⟩ | refine ⟨_,⟨ck,rfl⟩,Sh.intro ?_⟩ | refine Kp (fun _ => ?_) (fun _ => ?_) | ((first | refine Kh ?_ | refine Ki rfl ?_); simp only [or_self,Qs,Qt,Qu,Qv,Qw,Qx,Qy,Qz,Za,go_sem]))
 refine Kj (fr 37 [(7,.one (.ptr 0 0)),(21,.one (.d (.sl (scs l)))),(22,vi l.length),(23,vi ((0 : Nat) : Int))]) (by (simp only [go_sem]; repeat' (first | refine Kp ?_ ?_ | exact Or.inl rfl | exact Or.inr rfl | rfl))) ?_
 refine Km (fun mz sz => ∃ i : Nat,i <= l.length /\ mz = l.length - i /\ sz = ⟨fr 37 [(7,.one (.ptr 0 0)),(21,.one (.d (.sl (scs l)))),(22,vi l.length),(23,vi (i : Int))],[.bld TB (.own 1 i),.brow TU i (Xgg (l.take i))]⟩) l.length ⟨0,Nat.zero_le _,rfl,by simp [Xgg]⟩ ?_
 rintro _ _ ⟨i,hi,rfl,rfl⟩
 simp only [go_sem]
 have hlen := Xp3 (l.take i) fun n hm => hk n (List.mem_of_mem_take hm)
 have hlt : (l.take i).length <= 12 := by simp; omega
 by_cases hil : i < l.length
 ·obtain ⟨x,hx⟩ := Xak hil
  have h0 := hk x (List.mem_of_getElem? hx)
  have c1 := Wfo hU hP x h0.1 h0.2
  have hit := Ybg h0.1 h0.2
  have hsz : (bT (scB x) ++ (⟨#[44]⟩ : ByteArray)).size <= 1700001 := by rw [Xwk,Xnz]; simp [ByteArray.size]; omega
  have e1 : decide ((i : Int) < (l.length : Int)) = true := decide_eq_true (by omega)
  repeat' (first | refine Kn rfl ?_ | ((first | refine Ka ?_ | refine Kb ?_ | refine Kc ?_ | refine Kd ?_ | refine Ke ?_); simp only [e1,go_sem]) | refine Kf ?_ | refine Kg ?_ | refine ⟨_,c1,Sh.intro ?_⟩ | refine ⟨_,⟨c1,rfl⟩,Sh.intro ?_⟩ | refine ⟨_,⟨Int.natCast_nonneg _,(by first | exact Xae hx | (rw [Int.toNat_natCast]; exact Xae hx)),rfl⟩,Sh.intro ?_⟩ | refine Kp (fun _ => ?_) (fun _ => ?_) | ((first | refine Kh ?_ | refine Ki rfl ?_); simp only [e1,or_self,Qs,Qt,Qu,Qv,Qw,Qx,Qy,Qz,Za,go_sem]))
  refine ⟨by rw [Xnz]; simp; omega,?_⟩
  have bW := Xpz (gp := gp) (ver := i) (bs := Xgg (l.take i)) (s := bT (scB x) ++ ⟨#[44]⟩) (by omega)
  have hsn := Xxz hx
  generalize (bT (scB x) ++ ⟨#[44]⟩ : ByteArray) = w at *
  refine Or.inr (Or.inr ⟨[0,1],.tup [vi w.size,.one (.d .nilI)],[.bld TB (.own 1 (i + 1)),.brow TU (i + 1) (Xgg (l.take i) ++ w.data.toList)],(by simp only [Xa5,rnVs,rnV,rnA,rnAs,rn0,rn0s,posN,rnCs,rnC,getC,List.isEmpty_nil,reduceCtorEq,↓reduceIte,Qa,Qb,Qc,Qd,Qe,Qf,Qg,Qh,Qi,Qj,Qk,Ql,Qm,Qn,Qo,Qp,Qq,Qr]; simp only [go_sem]; exact ⟨X4u,bW⟩),Sh.intro ?_⟩)
  simp only [go_sem]
  rw [hsn]
  refine Kj (fr 37 [(7,.one (.ptr 0 0)),(21,.one (.d (.sl (scs l)))),(22,vi l.length),(23,vi (i : Int))]) (by (simp only [go_sem]; repeat' (first | refine Kp ?_ ?_ | exact Or.inl rfl | exact Or.inr rfl | rfl))) ?_
  refine Kk 2 (by simp only [List.length_nil,List.length_cons]; decide) (by simp only [go_sem]) (by simp only [go_sem]) ?_
  simp only [go_sem]
  repeat' (first | refine Kn rfl ?_ | ((first | refine Ka ?_ | refine Kb ?_ | refine Kc ?_ | refine Kd ?_ | refine Ke ?_); simp only [go_sem]) | refine Kf ?_ | refine Kg ?_ | refine Kp (fun _ => ?_) (fun _ => ?_) | ((first | refine Kh ?_ | refine Ki rfl ?_); simp only [or_self,Qs,Qt,Qu,Qv,Qw,Qx,Qy,Qz,Za,go_sem]))
  refine ⟨Xan hil (by unfold Xad; omega),?_⟩
  refine Kj (fr 37 [(7,.one (.ptr 0 0)),(21,.one (.d (.sl (scs l)))),(22,vi l.length),(23,vi (i + 1))]) (by (simp only [go_sem]; repeat' (first | refine Kp ?_ ?_ | exact Or.inl rfl | exact Or.inr rfl | rfl))) ?_
  exact Kl ⟨l.length - (i + 1),by omega,i + 1,by omega,rfl,rfl⟩
 ·obtain rfl : i = l.length := by omega
  rw [List.take_of_length_le (Nat.le_refl _)]
  have e1 : decide ((l.length : Int) < (l.length : Int)) = false := decide_eq_false (by omega)
  repeat' (first | refine Kn rfl ?_ | ((first | refine Ka ?_ | refine Kb ?_ | refine Kc ?_ | refine Kd ?_ | refine Ke ?_); simp only [e1,go_sem]) | refine Kf ?_ | refine Kg ?_ | refine Kp (fun _ => ?_) (fun _ => ?_) | ((first | refine Kh ?_ | refine Ki rfl ?_); simp only [e1,or_self,Qs,Qt,Qu,Qv,Qw,Qx,Qy,Qz,Za,go_sem]))
  refine Or.inr (Or.inr ⟨[0,1],vs (bT (Xgg l)),[.dead,.dead],(by simp only [Xa5,rnVs,rnV,rnA,rnAs,rn0,rn0s,posN,rnCs,rnC,getC,List.isEmpty_nil,reduceCtorEq,↓reduceIte,Qa,Qb,Qc,Qd,Qe,Qf,Qg,Qh,Qi,Qj,Qk,Ql,Qm,Qn,Qo,Qp,Qq,Qr]; simp only [go_sem]; exact ⟨by kernel_rfl,Xiz⟩),Sh.intro ?_⟩)
  simp only [go_sem]
  repeat' (first | refine Kn rfl ?_ | ((first | refine Ka ?_ | refine Kb ?_ | refine Kc ?_ | refine Kd ?_ | refine Ke ?_); simp only [go_sem]) | refine Kf ?_ | refine Kg ?_ | refine Kp (fun _ => ?_) (fun _ => ?_) | ((first | refine Kh ?_ | refine Ki rfl ?_); simp only [or_self,Qs,Qt,Qu,Qv,Qw,Qx,Qy,Qz,Za,go_sem]))
def Xey (c : List Int) (i : Int) : Int := c[i.toNat]?.getD 0
structure SayT where
 k : Int
 x : Sc
 ks : List UInt8
 ns : List UInt8
 deriving DecidableEq
def sayT (c : List Int) (x : Nd) : SayT := ⟨x.k,x.x,Xgg (Xah x),Xgf ((Xaf x).map (Xey c))⟩
abbrev sayV (s : SayT) : V := .agg [.d (.int .i64 s.k),.d (.int .i64 s.x.k),.d (.int .i64 s.x.n),.d (.str s.x.s),.d (.str (bT s.ks)),.d (.str (bT s.ns))]
def mixC (c l : List Int) (i : Nat) : List Int := (l.take i).map (Xey c) ++ l.drop i
theorem Y4r (c l : List Int) (i : Nat) (h : i <= l.length) : (mixC c l i).length = l.length := by simp [mixC]; omega
theorem Wfq {c l : List Int} {i : Nat} {j : Int} (h : l[i]? = some j) : (mixC c l i)[i]? = some j := by
 have := (List.getElem?_eq_some_iff.1 h).1
 unfold mixC
 rw [List.getElem?_append_right (by rw [List.length_map,List.length_take]; omega)]
 simp only [List.getElem?_drop,List.length_map,List.length_take]
 rw [show i + (i - min i l.length) = i by omega,h]
theorem Y4s {c l : List Int} {i : Nat} {j y : Int} (h : l[i]? = some j) (hy : c[j.toNat]? = some y) : (ints (mixC c l i)).set i [.int .i64 y] = ints (mixC c l (i + 1)) := by
 have hi := (List.getElem?_eq_some_iff.1 h).1
 have e : Xey c j = y := by unfold Xey; rw [hy]; rfl
 have : ints (mixC c l i) = (ints ((l.take i).map (Xey c))) ++ ([.int .i64 j] :: ints (l.drop (i + 1))) := by
  unfold mixC
  rw [List.drop_eq_getElem_cons hi]
  have : l[i] = j := by rw [List.getElem?_eq_getElem hi] at h; exact Option.some.inj h
  simp [ints,this]
 rw [this,List.set_append_right _ _ (by simp [ints]; omega)]
 have hz : i - (ints ((l.take i).map (Xey c))).length = 0 := by simp [ints]; omega
 rw [hz,List.set_cons_zero]
 unfold mixC
 rw [List.take_succ,h]
 simp [ints,e]
theorem Xdp {l : List Int} {i : Nat} {x : Int} (h : l[i]? = some x) : (ints l)[i]? = some [.int .i64 x] := by rw [List.getElem?_map,h]; rfl
theorem Ybh {l : List Nd} {i : Nat} {x : Nd} (h : l[i]? = some x) : (nds l)[i]? = some x.ds := by rw [List.getElem?_map,h]; rfl
theorem Yoz (hU : Xne gp) (hP : Xlh gp) (g : Gr) (c : List Int) (hg : Xbt g) (m : Int) (hi : inL g.l m) (hk : ∀ x ∈ Xah (ndAt g.l m),prR Xal x = true /\ x.short)
  (hc : ∀ j ∈ Xaf (ndAt g.l m),0 <= j /\ ∃ x,c[j.toNat]? = some x /\ okI x) : Does QP gp 45 [pD g c,vi m] (sayV (sayT c (ndAt g.l m))) := by
 refine Wem ?_
 simp only [go_sem]
 refine Xe3 15 ?_
 simp only [go_sem]
 have hx := Xpv hi
 have hi0 := hi.1
 have ck := Yib (gp := gp) g m hg
 have hl := Xeq (ndAt g.l m) 12 (hg.at m)
 have c1 := Wfp hU hP g c hg m hk
 have c2 := Y4q hP ((Xaf (ndAt g.l m)).map (Xey c)) (fun n hn => by
  obtain ⟨j,hj,rfl⟩ := List.mem_map.1 hn
  obtain ⟨_,x,h1,h2⟩ := hc j hj
  unfold Xey; rw [h1]; exact h2) (by simp; omega)
 unfold sayT
 generalize ndAt g.l m = x at *
 generalize Xaf x = l at *
 generalize kidV x = v at *
 generalize atE g.l m = e at *
 repeat' (first | refine Kn rfl ?_ | ((first | refine Ka ?_ | refine Kb ?_ | refine Kc ?_ | refine Kd ?_ | refine Ke ?_); simp only [go_sem]) | refine Kf ?_ | refine Kg ?_ | refine Kp (fun _ => ?_) (fun _ => ?_) | ((first | refine Kh ?_ | refine Ki rfl ?_); simp only [or_self,Qs,Qt,Qu,Qv,Qw,Qx,Qy,Qz,Za,go_sem]))
 refine Or.inr ⟨[],.tup [.one (.own 1 v),vi e],[.dead,.row 1 v (ints l)],(by simp only [Xa5,rnVs,rnV,rnA,rnAs,rn0,rn0s,posN,rnCs,rnC,getC,List.isEmpty_nil,reduceCtorEq,↓reduceIte,Qa,Qb,Qc,Qd,Qe,Qf,Qg,Qh,Qi,Qj,Qk,Ql,Qm,Qn,Qo,Qp,Qq,Qr]; simp only [go_sem]; exact ⟨Yi5,ck⟩),Sh.intro ?_⟩
 simp only [go_sem]
 repeat' (first | refine Kn rfl ?_ | ((first | refine Ka ?_ | refine Kb ?_ | refine Kc ?_ | refine Kd ?_ | refine Ke ?_); simp only [go_sem]) | refine Kf ?_ | refine Kg ?_ | refine Kp (fun _ => ?_) (fun _ => ?_) | ((first | refine Kh ?_ | refine Ki rfl ?_); simp only [or_self,Qs,Qt,Qu,Qv,Qw,Qx,Qy,Qz,Za,go_sem]))
 refine Kj (fr 60 [(0,pD g c),(1,vi m),(4,.one (.ptr 0 0)),(5,.one (.own 2 v)),(18,.one (.own 2 v)),(19,vi l.length),(20,vi ((0 : Nat) : Int))]) (by (simp only [go_sem]; repeat' (first | refine Kp ?_ ?_ | exact Or.inl rfl | exact Or.inr rfl | rfl))) ?_
 refine Kk 3 (by simp only [List.length_nil,List.length_cons]; decide) (by simp only [go_sem]) (by simp only [go_sem]) ?_
 simp only [go_sem]
 refine Kj (fr 60 [(0,pD g c),(1,vi m),(4,.one (.ptr 0 0)),(5,.one (.own 2 v)),(18,.one (.own 2 v)),(19,vi l.length),(20,vi (0 : Nat))]) (by (simp only [go_sem]; repeat' (first | refine Kp ?_ ?_ | exact Or.inl rfl | exact Or.inr rfl | rfl))) ?_
 refine Km (fun mz sz => ∃ i : Nat,i <= l.length /\ mz = l.length - i /\ (0 <= i) /\ sz = ⟨fr 60 [(0,pD g c),(1,vi m),(4,.one (.ptr 0 0)),(5,.one (.own 2 v)),(18,.one (.own 2 v)),(19,vi l.length),(20,vi i)],[.cells [.d (.int .i64 0),.d (.int .i64 0),.d (.int .i64 0),.d (.str ⟨#[]⟩),.d (.str ⟨#[]⟩),.d (.str ⟨#[]⟩)],.dead,.row 1 v (ints (mixC c l i))]⟩) (l.length) ⟨0,Nat.zero_le _,(Nat.sub_zero _).symm,?_,rfl⟩ ?_
 ·exact Nat.zero_le _
 rintro _ _ ⟨i,hkl,rfl,-,rfl⟩
 simp only [go_sem]
 by_cases hil : i < l.length
 ·obtain ⟨j,hj⟩ := Xak hil
  obtain ⟨hj0,y,hy,_⟩ := hc j (List.mem_of_getElem? hj)
  have hm := Wfq (c := c) hj
  have hml := Y4r c l i (by omega)
  have e1 : decide ((i : Int) < (l.length : Int)) = true := decide_eq_true (by omega)
  repeat' (first | refine Kn rfl ?_ | ((first | refine Ka ?_ | refine Kb ?_ | refine Kc ?_ | refine Kd ?_ | refine Ke ?_); simp only [e1,go_sem]) | refine Kf ?_ | refine Kg ?_ | refine ⟨_,⟨Int.natCast_nonneg _,(by first | exact Xae hm | (rw [Int.toNat_natCast]; exact Xae hm)),rfl⟩,Sh.intro ?_⟩ | refine ⟨_,⟨Int.natCast_nonneg _,(by first | exact Xae hy | (rw [Int.toNat_natCast]; exact Xae hy)),rfl⟩,Sh.intro ?_⟩ | refine Kp (fun _ => ?_) (fun _ => ?_) | ((first | refine Kh ?_ | refine Ki rfl ?_); simp only [e1,or_self,Qs,Qt,Qu,Qv,Qw,Qx,Qy,Qz,Za,go_sem]))
  refine ⟨Int.natCast_nonneg _,by omega,_,⟨Xdp hm,Nat.le_refl _⟩,Sh.intro ?_⟩
  simp only [go_sem]
  repeat' (first | refine Kn rfl ?_ | ((first | refine Ka ?_ | refine Kb ?_ | refine Kc ?_ | refine Kd ?_ | refine Ke ?_); simp only [go_sem]) | refine Kf ?_ | refine Kg ?_ | refine ⟨_,⟨hj0,Xdp hy,rfl⟩,Sh.intro ?_⟩ | refine Kp (fun _ => ?_) (fun _ => ?_) | ((first | refine Kh ?_ | refine Ki rfl ?_); simp only [or_self,Qs,Qt,Qu,Qv,Qw,Qx,Qy,Qz,Za,go_sem]))
  refine ⟨Int.natCast_nonneg _,by omega,_,⟨Xdp hm,Nat.le_refl _⟩,Sh.intro ?_⟩
  simp only [go_sem]
  rw [Y4s hj hy]
  repeat' (first | refine Kn rfl ?_ | ((first | refine Ka ?_ | refine Kb ?_ | refine Kc ?_ | refine Kd ?_ | refine Ke ?_); simp only [go_sem]) | refine Kf ?_ | refine Kg ?_ | refine Kp (fun _ => ?_) (fun _ => ?_) | ((first | refine Kh ?_ | refine Ki rfl ?_); simp only [or_self,Qs,Qt,Qu,Qv,Qw,Qx,Qy,Qz,Za,go_sem]))
  refine ⟨Xan hil (by unfold Xad; omega),?_⟩
  refine Kj (fr 60 [(0,pD g c),(1,vi m),(4,.one (.ptr 0 0)),(5,.one (.own 2 v)),(18,.one (.own 2 v)),(19,vi l.length),(20,vi (i + 1))]) (by (simp only [go_sem]; repeat' (first | refine Kp ?_ ?_ | exact Or.inl rfl | exact Or.inr rfl | rfl))) ?_
  refine Kk 3 (by simp only [List.length_nil,List.length_cons]; decide) (by simp only [go_sem]) (by simp only [go_sem]) ?_
  simp only [go_sem]
  refine Kl ⟨l.length - (i + 1),by omega,i + 1,by omega,rfl,?_,rfl⟩
  exact Nat.zero_le _
 ·obtain rfl : i = l.length := by omega
  have e1 : decide ((l.length : Int) < (l.length : Int)) = false := decide_eq_false (by omega)
  have hm : mixC c l l.length = l.map (Xey c) := by simp [mixC]
  rw [hm]
  repeat' (first | refine Kn rfl ?_ | ((first | refine Ka ?_ | refine Kb ?_ | refine Kc ?_ | refine Kd ?_ | refine Ke ?_); simp only [e1,go_sem]) | refine Kf ?_ | refine Kg ?_ | refine ⟨_,c1,Sh.intro ?_⟩ | refine ⟨_,⟨c1,rfl⟩,Sh.intro ?_⟩ | refine ⟨_,c2,Sh.intro ?_⟩ | refine ⟨_,⟨c2,rfl⟩,Sh.intro ?_⟩ | refine ⟨_,⟨hi0,Ybh hx,rfl⟩,Sh.intro ?_⟩ | refine Kp (fun _ => ?_) (fun _ => ?_) | ((first | refine Kh ?_ | refine Ki rfl ?_); simp only [e1,or_self,Qs,Qt,Qu,Qv,Qw,Qx,Qy,Qz,Za,go_sem]))
  all_goals trace_state
section
variable {α : Type} [DecidableEq α] {kag : Bool} {ks : List Leaf} {kv : α -> V}
def entG (kv : α -> V) (k : Nat) (l : List α) : List (V × V) := (l.zipIdx k).map fun p => (kv p.1,vi (p.2 : Int))
theorem Xlj (k : Nat) (a : α) (l : List α) : entG kv k (a :: l) = (kv a,vi (k : Int)) :: entG kv (k + 1) l := by simp [entG,List.zipIdx_cons]
theorem Xp4 (he : ∀ a b,eqV kag ks (kv a) (kv b) = some (decide (a = b))) : ∀ (l : List α) (k : Nat) (x : α),Xcr kag ks (entG kv k l) (kv x) = some (if x ∈ l then some (vi ((l.idxOf x + k : Nat) : Int)) else none)
 | [],k,x => by simp [entG,Xcr]
 | a :: l,k,x => by
  rw [Xlj]
  simp only [Xcr,he]
  by_cases h : x = a
  ·subst h; simp
  ·have h' : ¬ a = x := fun e => h e.symm
   simp only [h,decide_false,Xp4 he l (k + 1) x,List.mem_cons,false_or]
   split
   ·rw [List.idxOf_cons]
    have : (a == x) = false := by simp [h']
    rw [this]
    simp; omega
   ·rfl
theorem Xwl (he : ∀ a b,eqV kag ks (kv a) (kv b) = some (decide (a = b))) : ∀ (l : List α) (k : Nat) (x : α),x ∉ l -> putM kag ks (entG kv k l) (kv x) (vi ((k + l.length : Nat) : Int)) = some (entG kv k (l ++ [x]))
 | [],k,x,_ => by simp [entG,putM]
 | a :: l,k,x,h => by
  simp only [List.mem_cons,not_or] at h
  rw [Xlj,List.cons_append,Xlj]
  have ih := Xwl he l (k + 1) x h.2
  rw [show k + 1 + l.length = k + (a :: l).length from by simp; omega] at ih
  simp only [putM,he,h.1,decide_false,ih]
theorem Yic (l : List α) : (entG kv 0 l).length = l.length := by simp [entG]
end
theorem Yo0 {a b : List UInt8} : bT a = bT b ↔ a = b := by
 constructor
 ·intro h
  have := congrArg (fun x : ByteArray => x.data.toList) h
  simpa [bT] using this
 ·rintro rfl; rfl
abbrev kS : List Leaf := [.i,.i,.i,.s,.s,.s]
theorem Ybi (a b : SayT) : eqV true kS (sayV a) (sayV b) = some (decide (a = b)) := by
 obtain ⟨k,⟨k2,n,s⟩,u,v⟩ := a
 obtain ⟨k',⟨k2',n',s'⟩,u',v'⟩ := b
 simp only [go_sem]
 congr 1
 rw [Bool.eq_iff_iff]
 simp [Yo0,and_assoc]
def entS (l : List SayT) : List (V × V) := entG sayV 0 l
theorem Xp5 (l : List SayT) (x : SayT) : Xcr true kS (entS l) (sayV x) = some (if x ∈ l then some (vi (l.idxOf x : Int)) else none) := Xp4 Ybi l 0 x
theorem Yid {l : List SayT} {x : SayT} (h : x ∉ l) : putM true kS (entS l) (sayV x) (vi (l.length : Int)) = some (entS (l ++ [x])) := by
 have := Xwl Ybi l 0 x h
 rwa [Nat.zero_add] at this
theorem Xez (l : List SayT) : (entS l).length = l.length := Yic l
theorem Xh3 (l : List SayT) : (Ch.map (entS l)).refs = [] := by
 simp only [Ch.refs]
 rw [List.flatMap_eq_nil_iff]
 intro e he
 obtain ⟨a,_,rfl⟩ := List.mem_map.1 he
 rfl
abbrev pC (g : Gr) (v : Nat) : Ch := .cells [.d (.int .i64 g.root),.d (.sl (nds g.l)),.own 1 v]
theorem of10 (g : Gr) (hl : g.l.length <= 1000) : Tri QP gp 37 [g.v] [] fun r post => r = .one (.ptr 1 0) /\ post = [.row 1 0 (ints (Xbq g.l.length)),.cells [.d (.int .i64 g.root),.d (.sl (nds g.l)),.own 0 0]] := by
 refine Y3a ?_
 simp only [go_sem]
 repeat' (first | refine Kn rfl ?_ | ((first | refine Ka ?_ | refine Kb ?_ | refine Kc ?_ | refine Kd ?_ | refine Ke ?_); simp only [go_sem]) | refine Kf ?_ | refine Kg ?_ | refine Kp (fun _ => ?_) (fun _ => ?_) | ((first | refine Kh ?_ | refine Ki rfl ?_); simp only [or_self,Qs,Qt,Qu,Qv,Qw,Qx,Qy,Qz,Za,go_sem]))
 refine ⟨by omega,by omega,by unfold Xad; omega,?_⟩
 repeat' (first | refine Kn rfl ?_ | ((first | refine Ka ?_ | refine Kb ?_ | refine Kc ?_ | refine Kd ?_ | refine Ke ?_); simp only [go_sem]) | refine Kf ?_ | refine Kg ?_ | refine Kp (fun _ => ?_) (fun _ => ?_) | ((first | refine Kh ?_ | refine Ki rfl ?_); simp only [or_self,Qs,Qt,Qu,Qv,Qw,Qx,Qy,Qz,Za,go_sem]))
 simp [ints,Xbq]
theorem Y4t (g : Gr) (c : List Int) (v : Nat) : Tri QP gp 97 [.one (.ptr 0 0)] [pC g v,.row 1 v (ints c)] fun r post =>
  r = .one (.clo (.func 125) [.ptr 2 0]) /\ post = [pC g v,.row 1 v (ints c),.cells [.ptr 0 0]] := by
 refine Y4b ?_
 simp only [go_sem]
 repeat' (first | refine Kn rfl ?_ | ((first | refine Ka ?_ | refine Kb ?_ | refine Kc ?_ | refine Kd ?_ | refine Ke ?_); simp only [go_sem]) | refine Kf ?_ | refine Kg ?_ | refine Kp (fun _ => ?_) (fun _ => ?_) | ((first | refine Kh ?_ | refine Ki rfl ?_); simp only [or_self,Qs,Qt,Qu,Qv,Qw,Qx,Qy,Qz,Za,go_sem]))
 all_goals trace_state
def Xh4 (l : List Nd) (c : List Int) : List SayT := l.map (sayT c)
theorem Xgb (l : List Nd) (c : List Int) : (Xh4 l c).length = l.length := by simp [Xh4]
structure Neat (g : Gr) : Prop where
 f : Fine g.l
 s : ∀ x ∈ g.l,x.short
 len : g.l.length <= 1000
theorem Neat.small {g : Gr} (h : Neat g) : Xbt g := h.f.small
theorem Xx0 {x : Nd} {n : Int} (h : Xa9 Xal x n = true) : ∀ y ∈ Xah x,prR Xal y = true := by
 by_cases hk : x.k = 2
 ·have h1 := (Xgv h hk).1
  obtain ⟨m1,_,_⟩ := Xep h hk
  intro y hy
  unfold Xah at hy
  rw [Xb7 hk m1] at hy
  have := ((Xdd (zips x)).map Pr.key).mem_iff.1 hy
  rw [Xf4 m1] at this
  exact (List.all_eq_true.1 h1) y this
 ·intro y hy
  unfold Xah at hy
  rw [Xcx hk] at hy
  cases hy
theorem Xwm {x : Nd} : ∀ y ∈ Xah x,y ∈ x.keys := by
 intro y hy
 by_cases hk : x.k = 2 /\ x.keys.length = x.kids.length
 ·unfold Xah at hy
  rw [Xb7 hk.1 hk.2] at hy
  have := ((Xdd (zips x)).map Pr.key).mem_iff.1 hy
  rwa [Xf4 hk.2] at this
 ·unfold Xah Xab at hy
  rw [if_neg hk] at hy
  cases hy
theorem Neat.keys {g : Gr} (h : Neat g) {i : Int} (hi : inL g.l i) : ∀ y ∈ Xah (ndAt g.l i),prR Xal y = true /\ y.short := fun y hy =>
 ⟨Xx0 (h.f.node _ (Xk6 hi)) y hy,(h.s _ (Xk6 hi)).2.2.2 y (Xwm y hy)⟩
structure ClsOK (l : List Nd) (c : List Int) : Prop where
 len : c.length = l.length
 ok : ∀ n ∈ c,okI n
theorem ClsOK.kid {g : Gr} {c : List Int} (h : ClsOK g.l c) (hf : Fine g.l) (i : Int) : ∀ j ∈ Xaf (ndAt g.l i),0 <= j /\ ∃ x,c[j.toNat]? = some x /\ okI x := fun j hj => by
 have hi := hf.kid i j hj
 unfold inL at hi
 obtain ⟨x,hx⟩ := Xak (l := c) (i := j.toNat) (by rw [h.len]; omega)
 exact ⟨hi.1,x,hx,h.ok x (List.mem_of_getElem? hx)⟩
theorem Wfr {α : Type} [DecidableEq α] {l : List α} (hl : l.length <= 1000) : ∀ n ∈ rkp l,okI n := fun n hn => by
 obtain ⟨a,ha,rfl⟩ := List.mem_map.1 hn
 have h1 := List.idxOf_lt_length_of_mem (Xbh.2 ha)
 have h2 := X81 l
 unfold okI
 omega
theorem Ybj {g : Gr} (h : Neat g) (c : List Int) : ClsOK g.l (rkp (Xh4 g.l c)) := ⟨by rw [Xiu,Xgb],Wfr (by rw [Xgb]; exact h.len)⟩
def Xgy (R : List Int) (n i : Nat) : List Int := R.take i ++ Xbq (n - i)
theorem Yie {R : List Int} {n i : Nat} {y : Int} (hn : R.length = n) (h : R[i]? = some y) : i < (ints (Xgy R n i)).length /\ (ints (Xgy R n i))[i]? = some [.int .i64 0] /\ (ints (Xgy R n i)).set i [.int .i64 y] = ints (Xgy R n (i + 1)) := by
 have hi := (List.getElem?_eq_some_iff.1 h).1
 obtain ⟨d,hd⟩ : ∃ d,n - i = d + 1 := ⟨n - i - 1,by omega⟩
 have hd2 : n - (i + 1) = d := by omega
 unfold Xgy
 rw [hd,hd2,List.take_succ,h]
 have hz : (ints (R.take i)).length = i := by simp [ints]; omega
 have e : ints (R.take i ++ Xbq (d + 1)) = ints (R.take i) ++ ([.int .i64 0] :: ints (Xbq d)) := by simp [ints,Xbq,List.replicate_succ]
 rw [e]
 refine ⟨by simp [ints]; omega,?_,?_⟩
 ·rw [List.getElem?_append_right (by omega),hz,Nat.sub_self]; rfl
 ·rw [List.set_append_right _ _ (by omega),hz,Nat.sub_self,List.set_cons_zero]
  simp [ints]
theorem Yif {R : List Int} {n : Nat} (hn : R.length = n) : Xgy R n n = R := by
 unfold Xgy
 rw [Nat.sub_self,List.take_of_length_le (by omega)]
 simp [Xbq]
theorem Ybk (l : List SayT) (j : Nat) (c : Ch) : subC j c (.map (entS l)) = .map (entS l) := by
 simp only [subC,Ch.map.injEq]
 conv => rhs; rw [<- List.map_id (entS l)]
 apply List.map_congr_left
 intro e he
 obtain ⟨a,_,rfl⟩ := List.mem_map.1 he
 rfl
theorem Xro {l : List Nd} {c : List Int} {i : Nat} {x : Nd} (h : l[i]? = some x) : (Xh4 l c)[i]? = some (sayT c x) := by unfold Xh4; rw [List.getElem?_map,h]; rfl
set_option maxHeartbeats 2000000 in
theorem Y4u (hU : Xne gp) (hP : Xlh gp) {g : Gr} (hn : Neat g) {c : List Int} (hc : ClsOK g.l c) (v : Nat) :
  Tri QP gp 71 [.one (.ptr 0 0)] [pC g v,.row 1 v (ints c)] fun r post =>
   r = vi ((ddp (Xh4 g.l c)).length : Int) /\ post = [pC g v,.row 1 v (ints (rkp (Xh4 g.l c)))] := by
 have hSl := Xgb g.l c
 have hcl := hc.len
 have hgl := hn.len
 have hnode : ∀ i : Nat,∀ x,g.l[i]? = some x -> ∃ s,(Xh4 g.l c)[i]? = some s /\ Does QP gp 45 [pD g c,vi i] (sayV s) := fun i x hx => by
  have hi : inL g.l i := (Xlf hx).1
  refine ⟨_,Xro hx,?_⟩
  have := Yoz hU hP g c hn.small i hi (hn.keys hi) (hc.kid hn.f i)
  rwa [(Xlf hx).2] at this
 generalize Xh4 g.l c = S at *
 have hRl : (rkp S).length = g.l.length := by rw [Xiu,hSl]
 refine Y30 ?_
 simp only [go_sem]
 repeat' (first | refine Kn rfl ?_ | ((first | refine Ka ?_ | refine Kb ?_ | refine Kc ?_ | refine Kd ?_ | refine Ke ?_); simp only [go_sem]) | refine Kf ?_ | refine Kg ?_ | refine Kp (fun _ => ?_) (fun _ => ?_) | ((first | refine Kh ?_ | refine Ki rfl ?_); simp only [or_self,Qs,Qt,Qu,Qv,Qw,Qx,Qy,Qz,Za,go_sem]))
 refine ⟨by omega,by omega,by unfold Xad; omega,?_⟩
 repeat' (first | refine Kn rfl ?_ | ((first | refine Ka ?_ | refine Kb ?_ | refine Kc ?_ | refine Kd ?_ | refine Ke ?_); simp only [go_sem]) | refine Kf ?_ | refine Kg ?_ | refine Kp (fun _ => ?_) (fun _ => ?_) | ((first | refine Kh ?_ | refine Ki rfl ?_); simp only [or_self,Qs,Qt,Qu,Qv,Qw,Qx,Qy,Qz,Za,go_sem]))
 refine Or.inr (Or.inr ⟨[0,1],.one (.clo (.func 125) [.ptr 2 0]),[pC g v,.row 1 v (ints c),.cells [.ptr 0 0]],(by simp only [Xa5,rnVs,rnV,rnA,rnAs,rn0,rn0s,posN,rnCs,rnC,getC,List.isEmpty_nil,reduceCtorEq,↓reduceIte,Qa,Qb,Qc,Qd,Qe,Qf,Qg,Qh,Qi,Qj,Qk,Ql,Qm,Qn,Qo,Qp,Qq,Qr]; simp only [go_sem]; exact ⟨Wfk,Y4t g c v⟩),Sh.intro ?_⟩)
 simp only [go_sem]
 repeat' (first | refine Kn rfl ?_ | ((first | refine Ka ?_ | refine Kb ?_ | refine Kc ?_ | refine Kd ?_ | refine Ke ?_); simp only [go_sem]) | refine Kf ?_ | refine Kg ?_ | refine Kp (fun _ => ?_) (fun _ => ?_) | ((first | refine Kh ?_ | refine Ki rfl ?_); simp only [or_self,Qs,Qt,Qu,Qv,Qw,Qx,Qy,Qz,Za,go_sem]))
 refine G_rf (f2 := 125) (caps := [.one (.ptr 6 0)]) (fun pd own' => pd = none /\ ∃ rest,own' = pC g v :: .row 1 v (ints c) :: .map (entS (ddp S)) :: .cells [.own 2 0] :: .row 1 0 (ints (rkp S)) :: .cells [.own 4 0] :: .cells [.ptr 0 0] :: rest) rfl ?_ Y4g ?_ ?_ ?_
 ·intro y; simp only [go_sem]
 ·rintro b rc hps ⟨hs,hta,htb⟩
  refine Yh3 ?_
  simp only [go_sem]
  repeat' (first | refine Kn rfl ?_ | ((first | refine Ka ?_ | refine Kb ?_ | refine Kc ?_ | refine Kd ?_ | refine Ke ?_); simp only [go_sem]) | refine Kf ?_ | refine Kg ?_ | refine Kp (fun _ => ?_) (fun _ => ?_) | ((first | refine Kh ?_ | refine Ki rfl ?_); simp only [or_self,Qs,Qt,Qu,Qv,Qw,Qx,Qy,Qz,Za,go_sem]))
  rw [show (List.replicate c.length [D.int IntKind.i64 0]) = ints (Xgy (rkp S) g.l.length 0) from by simp [Xgy,ints,Xbq,hcl]]
  refine Kj (fr 21 [(0,.one (.d (.raw (.func (.yield b) #[] #[])))),(1,.one (.ptr 6 0)),(9,vi g.l.length),(10,vi (0 : Nat))]) (by (simp only [go_sem]; repeat' (first | refine Kp ?_ ?_ | exact Or.inl rfl | exact Or.inr rfl | rfl))) ?_
  refine Km (fun mz sz => ∃ i : Nat,i <= g.l.length /\ mz = g.l.length - i /\ (0 <= i) /\ sz = ⟨fr 21 [(0,.one (.d (.raw (.func (.yield b) #[] #[])))),(1,.one (.ptr 6 0)),(9,vi g.l.length),(10,vi i)],[pC g v,.row 1 v (ints c),.map (entS (ddp (S.take i))),.cells [.own 2 0],.row 1 0 (ints (Xgy (rkp S) g.l.length i)),.cells [.own 4 0],.cells [.ptr 0 0],.dead,.lp b _ rc .ready none]⟩) (g.l.length) ⟨0,Nat.zero_le _,(Nat.sub_zero _).symm,?_,rfl⟩ ?_
  ·exact Nat.zero_le _
  rintro _ _ ⟨i,hi,rfl,-,rfl⟩
  simp only [go_sem]
  by_cases hil : i < g.l.length
  ·obtain ⟨x,hx⟩ := Xak hil
   obtain ⟨s,hs1,hs2⟩ := hnode i x hx
   have e1 : decide ((i : Int) < (g.l.length : Int)) = true := decide_eq_true (by omega)
   obtain ⟨f1,f2,f3⟩ := Yie hRl (Xjf hs1)
   have hfl : i < (Xgy (rkp S) g.l.length i).length := by simpa [ints] using f1
   have hnx := Xv9 hs1
   have hit := Xv8 hs1 (Nat.lt_succ_self i)
   have hmem : s ∈ ddp (S.take (i + 1)) := Xbh.2 (Xf9.2 ⟨i,Nat.lt_succ_self i,hs1⟩)
   have hf2 := Xp5 (ddp (S.take (i + 1))) s
   rw [if_pos hmem,hit] at hf2
   have hf1 := Xp5 (ddp (S.take i)) s
   generalize ((ddp S).idxOf s : Int) = y at *
   repeat' (first | refine Kn rfl ?_ | ((first | refine Ka ?_ | refine Kb ?_ | refine Kc ?_ | refine Kd ?_ | refine Ke ?_); simp only [e1,go_sem]) | refine Kf ?_ | refine Kg ?_ | (refine Kp (fun _ => ?_) (fun _ => ?_) <;> try (exfalso; omega)) | ((first | refine Kh ?_ | refine Ki rfl ?_); simp only [e1,or_self,Qs,Qt,Qu,Qv,Qw,Qx,Qy,Qz,Za,go_sem]))
   refine Or.inl ⟨_,⟨hs2,rfl⟩,Sh.intro ?_⟩
   simp only [go_sem]
   repeat' (first | refine Kn rfl ?_ | ((first | refine Ka ?_ | refine Kb ?_ | refine Kc ?_ | refine Kd ?_ | refine Ke ?_); simp only [go_sem]) | refine Kf ?_ | refine Kg ?_ | (refine Kp (fun _ => ?_) (fun _ => ?_) <;> try (exfalso; omega)) | ((first | refine Kh ?_ | refine Ki rfl ?_); simp only [or_self,Qs,Qt,Qu,Qv,Qw,Qx,Qy,Qz,Za,go_sem]))
   by_cases hm : s ∈ S.take i
   ·rw [if_pos hm] at hnx
    rw [if_pos (Xbh.2 hm),<- hnx.2] at hf1
    rw [<- hnx.2]
    refine ⟨[pC g v,.row 1 v (ints c),.map (entS (ddp (S.take (i + 1)))),.cells [.own 2 0],.row 1 0 (ints (Xgy (rkp S) g.l.length (i + 1))),.cells [.own 4 0],.cells [.ptr 0 0],.dead,.lp b _ rc .ready none,.cells [.d (.int .i64 s.k),.d (.int .i64 s.x.k),.d (.int .i64 s.x.n),.d (.str s.x.s),.d (.str (bT s.ks)),.d (.str (bT s.ns))]],true,by simp,⟨8,_,rc,hs,_,_,[pC g v,.row 1 v (ints c),.map (entS (ddp (S.take (i + 1)))),.cells [.own 2 0],.row 1 0 (ints (Xgy (rkp S) g.l.length (i + 1))),.cells [.own 4 0],.cells [.ptr 0 0],.dead,.dead,.cells [.d (.int .i64 s.k),.d (.int .i64 s.x.k),.d (.int .i64 s.x.n),.d (.str s.x.s),.d (.str (bT s.ks)),.d (.str (bT s.ns))]],none,rfl,by rw [<- Array.length_toList,hps]; rfl,hta,htb,?_,rfl,rfl⟩,Sh.intro ?_⟩
    ·rw [hps]
     simp only [go_sem]
     repeat' (first | refine Kn rfl ?_ | ((first | refine Ka ?_ | refine Kb ?_ | refine Kc ?_ | refine Kd ?_ | refine Ke ?_); simp only [go_sem]) | refine Kf ?_ | refine Kg ?_ | refine Kp (fun _ => ?_) (fun _ => ?_) | ((first | refine Kh ?_ | refine Ki rfl ?_); simp only [or_self,Qs,Qt,Qu,Qv,Qw,Qx,Qy,Qz,Za,go_sem]))
     refine Xfj ⟨rfl,?_⟩
     repeat' (first | refine Kn rfl ?_ | ((first | refine Ka ?_ | refine Kb ?_ | refine Kc ?_ | refine Kd ?_ | refine Ke ?_); simp only [Xez,go_sem]) | refine Kf ?_ | refine Kg ?_ | refine ⟨_,⟨hf2,rfl⟩,Sh.intro ?_⟩ | refine ⟨Int.natCast_nonneg _,hfl,_,⟨f2,Nat.le_refl _⟩,Sh.intro ?_⟩ | refine Kp (fun _ => ?_) (fun _ => ?_) | ((first | refine Kh ?_ | refine Ki rfl ?_); simp only [Xez,or_self,Qs,Qt,Qu,Qv,Qw,Qx,Qy,Qz,Za,go_sem]))
     exact Xfj ⟨⟨rfl,rfl⟩,by rw [<- f3]; rfl⟩
    ·simp only [go_sem]
     repeat' (first | refine Kn rfl ?_ | ((first | refine Ka ?_ | refine Kb ?_ | refine Kc ?_ | refine Kd ?_ | refine Ke ?_); simp only [go_sem]) | refine Kf ?_ | refine Kg ?_ | refine Kp (fun _ => ?_) (fun _ => ?_) | ((first | refine Kh ?_ | refine Ki rfl ?_); simp only [or_self,Qs,Qt,Qu,Qv,Qw,Qx,Qy,Qz,Za,go_sem]))
     refine ⟨Xan hil (by unfold Xad; omega),?_⟩
     refine Kj (fr 21 [(0,.one (.d (.raw (.func (.yield b) #[] #[])))),(1,.one (.ptr 6 0)),(9,vi g.l.length),(10,vi (i + 1))]) (by (simp only [go_sem]; repeat' (first | refine Kp ?_ ?_ | exact Or.inl rfl | exact Or.inr rfl | rfl))) ?_
     refine Kk 9 (by simp only [List.length_nil,List.length_cons]; decide) (by simp only [go_sem]) (by simp only [List.take_succ_cons,List.take_zero,List.all_cons,List.all_nil,Xh3]; try simp only [go_sem]) ?_
     simp only [go_sem]
     refine Kl ⟨g.l.length - (i + 1),by omega,i + 1,by omega,rfl,?_,rfl⟩
     exact Nat.zero_le _
   ·rw [if_neg hm] at hnx
    have hm' : s ∉ ddp (S.take i) := fun h => hm (Xbh.1 h)
    rw [if_neg hm'] at hf1
    have hput := Yid hm'
    rw [<- hnx.2] at hput
    refine ⟨[pC g v,.row 1 v (ints c),.map (entS (ddp (S.take (i + 1)))),.cells [.own 2 0],.row 1 0 (ints (Xgy (rkp S) g.l.length (i + 1))),.cells [.own 4 0],.cells [.ptr 0 0],.dead,.lp b _ rc .ready none,.cells [.d (.int .i64 s.k),.d (.int .i64 s.x.k),.d (.int .i64 s.x.n),.d (.str s.x.s),.d (.str (bT s.ks)),.d (.str (bT s.ns))]],true,by simp,⟨8,_,rc,hs,_,_,[pC g v,.row 1 v (ints c),.map (entS (ddp (S.take (i + 1)))),.cells [.own 2 0],.row 1 0 (ints (Xgy (rkp S) g.l.length (i + 1))),.cells [.own 4 0],.cells [.ptr 0 0],.dead,.dead,.cells [.d (.int .i64 s.k),.d (.int .i64 s.x.k),.d (.int .i64 s.x.n),.d (.str s.x.s),.d (.str (bT s.ks)),.d (.str (bT s.ns))]],none,rfl,by rw [<- Array.length_toList,hps]; rfl,hta,htb,?_,rfl,rfl⟩,Sh.intro ?_⟩
    ·rw [hps]
     simp only [go_sem]
     repeat' (first | refine Kn rfl ?_ | ((first | refine Ka ?_ | refine Kb ?_ | refine Kc ?_ | refine Kd ?_ | refine Ke ?_); simp only [go_sem]) | refine Kf ?_ | refine Kg ?_ | refine Kp (fun _ => ?_) (fun _ => ?_) | ((first | refine Kh ?_ | refine Ki rfl ?_); simp only [or_self,Qs,Qt,Qu,Qv,Qw,Qx,Qy,Qz,Za,go_sem]))
     refine Xfj ⟨rfl,?_⟩
     repeat' (first | refine Kn rfl ?_ | ((first | refine Ka ?_ | refine Kb ?_ | refine Kc ?_ | refine Kd ?_ | refine Ke ?_); simp only [Xez,go_sem]) | refine Kf ?_ | refine Kg ?_ | refine ⟨_,⟨hf1,rfl⟩,Sh.intro ?_⟩ | refine ⟨_,hput,Sh.intro ?_⟩ | refine ⟨_,⟨hf2,rfl⟩,Sh.intro ?_⟩ | refine ⟨Int.natCast_nonneg _,hfl,_,⟨f2,Nat.le_refl _⟩,Sh.intro ?_⟩ | refine Kp (fun _ => ?_) (fun _ => ?_) | ((first | refine Kh ?_ | refine Ki rfl ?_); simp only [Xez,or_self,Qs,Qt,Qu,Qv,Qw,Qx,Qy,Qz,Za,go_sem]))
     exact Xfj ⟨⟨rfl,rfl⟩,by rw [<- f3]; rfl⟩
    ·simp only [go_sem]
     repeat' (first | refine Kn rfl ?_ | ((first | refine Ka ?_ | refine Kb ?_ | refine Kc ?_ | refine Kd ?_ | refine Ke ?_); simp only [go_sem]) | refine Kf ?_ | refine Kg ?_ | refine Kp (fun _ => ?_) (fun _ => ?_) | ((first | refine Kh ?_ | refine Ki rfl ?_); simp only [or_self,Qs,Qt,Qu,Qv,Qw,Qx,Qy,Qz,Za,go_sem]))
     refine ⟨Xan hil (by unfold Xad; omega),?_⟩
     refine Kj (fr 21 [(0,.one (.d (.raw (.func (.yield b) #[] #[])))),(1,.one (.ptr 6 0)),(9,vi g.l.length),(10,vi (i + 1))]) (by (simp only [go_sem]; repeat' (first | refine Kp ?_ ?_ | exact Or.inl rfl | exact Or.inr rfl | rfl))) ?_
     refine Kk 9 (by simp only [List.length_nil,List.length_cons]; decide) (by simp only [go_sem]) (by simp only [List.take_succ_cons,List.take_zero,List.all_cons,List.all_nil,Xh3]; try simp only [go_sem]) ?_
     simp only [go_sem]
     refine Kl ⟨g.l.length - (i + 1),by omega,i + 1,by omega,rfl,?_,rfl⟩
     exact Nat.zero_le _
  ·obtain rfl : i = g.l.length := by omega
   have e1 : decide ((g.l.length : Int) < (g.l.length : Int)) = false := decide_eq_false (by omega)
   rw [List.take_of_length_le (by omega),Yif hRl]
   repeat' (first | refine Kn rfl ?_ | ((first | refine Ka ?_ | refine Kb ?_ | refine Kc ?_ | refine Kd ?_ | refine Ke ?_); simp only [e1,go_sem]) | refine Kf ?_ | refine Kg ?_ | refine Kp (fun _ => ?_) (fun _ => ?_) | ((first | refine Kh ?_ | refine Ki rfl ?_); simp only [e1,or_self,Qs,Qt,Qu,Qv,Qw,Qx,Qy,Qz,Za,go_sem]))
   exact ⟨.ready,none,rfl,by simp,rfl,_,rfl⟩
 ·rintro own' ⟨_,rest,rfl⟩
  simp only [go_sem]
  refine Kk 7 (by simp only [List.length_nil,List.length_cons]; decide) (by simp only [go_sem]) (by simp only [List.take_succ_cons,List.take_zero,List.all_cons,List.all_nil,Xh3]; simp only [go_sem]) ?_
  simp only [go_sem]
  refine Xar 4 ?_
  simp only [frzS,getC,List.map_cons,List.map_nil,Ybk]
  simp only [go_sem]
  repeat' (first | refine Kn rfl ?_ | ((first | refine Ka ?_ | refine Kb ?_ | refine Kc ?_ | refine Kd ?_ | refine Ke ?_); simp only [Xez,go_sem]) | refine Kf ?_ | refine Kg ?_ | refine Kp (fun _ => ?_) (fun _ => ?_) | ((first | refine Kh ?_ | refine Ki rfl ?_); simp only [Xez,or_self,Qs,Qt,Qu,Qv,Qw,Qx,Qy,Qz,Za,go_sem]))
  refine ⟨fun p hp => by obtain ⟨_,_,rfl⟩ := List.mem_map.1 hp; rfl,by omega,?_⟩
  repeat refine Ko rfl ?_
  refine Ka ?_
  simp only [Xez,go_sem]
  refine Kj (fr 46 [(2,vi ((ddp S).length : Int))]) (by (simp only [go_sem]; repeat' (first | refine Kp ?_ ?_ | exact Or.inl rfl | exact Or.inr rfl | rfl))) ?_
  refine Kk 2 (by simp only [List.length_nil,List.length_cons]; decide) (by simp only [go_sem]) (by simp only [List.take_succ_cons,List.take_zero,List.all_cons,List.all_nil,Xh3]; simp only [go_sem]) ?_
  simp only [go_sem]
  refine Ki rfl ?_
  simp only [or_self,Qs,Qt,Qu,Qv,Qw,Qx,Qy,Qz,Za,go_sem]
 ·rintro _ _ ⟨h,_⟩; cases h
structure Env10 (gp : Heap) : Prop where
 e : Env gp
 p : Xlh gp
theorem Yo1 {g : Gr} (hn : Neat g) {c : List Int} (hc : ClsOK g.l c) {i j : Int} (hi : inL g.l i) (hj : inL g.l j) : sayT c (ndAt g.l i) = sayT c (ndAt g.l j) ↔ sayN (ndAt g.l i) c = sayN (ndAt g.l j) c := by
 have hk : ∀ i : Int,(Xaf (ndAt g.l i)).map (fun k => c[k.toNat]?) = (Xaf (ndAt g.l i)).map (fun k => some (Xey c k)) := fun i => by
  refine List.map_congr_left fun k hk => ?_
  obtain ⟨_,x,h1,_⟩ := hc.kid hn.f i k hk
  unfold Xey; rw [h1]; rfl
 unfold sayT sayN
 rw [hk i,hk j,SayT.mk.injEq,Say.mk.injEq]
 have e1 : Xgg (Xah (ndAt g.l i)) = Xgg (Xah (ndAt g.l j)) ↔ Xah (ndAt g.l i) = Xah (ndAt g.l j) :=
  ⟨X9a (fun x hx => (hn.keys hi x hx).1) (fun x hx => (hn.keys hj x hx).1),fun e => by rw [e]⟩
 have e2 : Xgf ((Xaf (ndAt g.l i)).map (Xey c)) = Xgf ((Xaf (ndAt g.l j)).map (Xey c)) ↔ (Xaf (ndAt g.l i)).map (fun k => some (Xey c k)) = (Xaf (ndAt g.l j)).map (fun k => some (Xey c k)) := by
  rw [show (Xaf (ndAt g.l i)).map (fun k => some (Xey c k)) = ((Xaf (ndAt g.l i)).map (Xey c)).map some from by rw [List.map_map]; rfl,
   show (Xaf (ndAt g.l j)).map (fun k => some (Xey c k)) = ((Xaf (ndAt g.l j)).map (Xey c)).map some from by rw [List.map_map]; rfl]
  rw [(List.map_inj_right (f := some) (by intro a b e; exact Option.some.inj e))]
  exact ⟨X84,fun e => by rw [e]⟩
 rw [e1,e2]
theorem Yig {g : Gr} (hn : Neat g) {c : List Int} (hc : ClsOK g.l c) (i j : Nat) (hi : i < g.l.length) (hj : j < g.l.length) : (Xh4 g.l c)[i]? = (Xh4 g.l c)[j]? ↔ (sayF g.l c)[i]? = (sayF g.l c)[j]? := by
 obtain ⟨x,hx⟩ := Xak hi
 obtain ⟨y,hy⟩ := Xak hj
 obtain ⟨h1,h2⟩ := Xlf hx
 obtain ⟨h3,h4⟩ := Xlf hy
 have := Yo1 hn hc h1 h3
 rw [h2,h4] at this
 rw [Xro hx,Xro hy,show (sayF g.l c)[i]? = some (sayN x c) from by unfold sayF; rw [List.getElem?_map,hx]; rfl,show (sayF g.l c)[j]? = some (sayN y c) from by unfold sayF; rw [List.getElem?_map,hy]; rfl]
 rw [Option.some.injEq,Option.some.injEq]
 exact this
theorem Xn0 {g : Gr} (hn : Neat g) {c : List Int} (hc : ClsOK g.l c) : rkp (Xh4 g.l c) = rnd (sayF g.l) c /\ (ddp (Xh4 g.l c)).length = cnt (sayF g.l) c := by
 have hl : (Xh4 g.l c).length = (sayF g.l c).length := by rw [Xgb,Xnt]
 have hk := Yig hn hc
 refine ⟨Xrh hl fun i j hi hj => by rw [Xgb] at hi hj; exact hk i j hi hj,?_⟩
 unfold cnt
 apply Nat.le_antisymm
 ·exact Xwb hl.symm fun i j hi hj e => by rw [Xnt] at hi hj; exact (hk i j hi hj).2 e
 ·exact Xwb hl fun i j hi hj e => by rw [Xgb] at hi hj; exact (hk i j hi hj).1 e
theorem Xjr {g : Gr} : ClsOK g.l (Xbq g.l.length) := ⟨by simp [Xbq],fun n hn => by
 obtain ⟨_,rfl⟩ := List.mem_replicate.1 hn
 unfold okI; omega⟩
theorem Xx1 {σ : Type} [DecidableEq σ] {f : List Int -> List σ} {k n m : Nat} {c : List Int} (h : ¬ n < m) : Xge f k n m c = c := by
 cases k with
 | zero => rfl
 | succ k => simp only [Xge]; rw [if_neg h]
set_option maxHeartbeats 1000000 in
theorem Xwn (h : Env10 gp) {g : Gr} (hn : Neat g) (v : Nat) : Tri QP gp 38 [.one (.ptr 0 0)] [pC g v,.row 1 v (ints (Xbq g.l.length))] fun r post =>
  r = .one (.own 1 v) /\ post = [pC g v,.row 1 v (ints (clsL g.l))] := by
 have hr : ∀ c,ClsOK g.l c -> Tri QP gp 71 [.one (.ptr 0 0)] [pC g v,.row 1 v (ints c)] fun r post =>
   r = vi (cnt (sayF g.l) c : Int) /\ post = [pC g v,.row 1 v (ints (rnd (sayF g.l) c))] := fun c hc => by
  have := Y4u h.e.u h.p hn hc v
  rwa [(Xn0 hn hc).1,(Xn0 hn hc).2] at this
 have hok : ∀ c,ClsOK g.l c -> ClsOK g.l (rnd (sayF g.l) c) := fun c hc => by
  rw [<- (Xn0 hn hc).1]; exact Ybj hn c
 have hcn : ∀ c,cnt (sayF g.l) c <= g.l.length := hn.f.parts.cnt_le
 have hgl := hn.len
 refine Y3d ?_
 simp only [go_sem]
 repeat' (first | refine Kn rfl ?_ | ((first | refine Ka ?_ | refine Kb ?_ | refine Kc ?_ | refine Kd ?_ | refine Ke ?_); simp only [go_sem]) | refine Kf ?_ | refine Kg ?_ | refine Kp (fun _ => ?_) (fun _ => ?_) | ((first | refine Kh ?_ | refine Ki rfl ?_); simp only [or_self,Qs,Qt,Qu,Qv,Qw,Qx,Qy,Qz,Za,go_sem]))
 refine Or.inr (Or.inr ⟨[0,1],vi (cnt (sayF g.l) (Xbq g.l.length) : Int),[pC g v,.row 1 v (ints (rnd (sayF g.l) (Xbq g.l.length)))],(by simp only [Xa5,rnVs,rnV,rnA,rnAs,rn0,rn0s,posN,rnCs,rnC,getC,List.isEmpty_nil,reduceCtorEq,↓reduceIte,Qa,Qb,Qc,Qd,Qe,Qf,Qg,Qh,Qi,Qj,Qk,Ql,Qm,Qn,Qo,Qp,Qq,Qr]; simp only [go_sem]; exact ⟨Yof,hr _ Xjr⟩),Sh.intro ?_⟩)
 simp only [go_sem]
 repeat' (first | refine Kn rfl ?_ | ((first | refine Ka ?_ | refine Kb ?_ | refine Kc ?_ | refine Kd ?_ | refine Ke ?_); simp only [go_sem]) | refine Kf ?_ | refine Kg ?_ | refine Kp (fun _ => ?_) (fun _ => ?_) | ((first | refine Kh ?_ | refine Ki rfl ?_); simp only [or_self,Qs,Qt,Qu,Qv,Qw,Qx,Qy,Qz,Za,go_sem]))
 refine Kj (fr 20 [(0,.one (.ptr 0 0)),(3,.one (.mvo (.func 71) false [.ptr 0 0])),(4,vi ((0 : Nat) : Int)),(5,vi (cnt (sayF g.l) (Xbq g.l.length) : Int))]) (by (simp only [go_sem]; repeat' (first | refine Kp ?_ ?_ | exact Or.inl rfl | exact Or.inr rfl | rfl))) ?_
 refine Kk 2 (by simp only [List.length_nil,List.length_cons]; decide) (by simp only [go_sem]) (by simp only [go_sem]) ?_
 simp only [go_sem]
 refine Km (fun mz sz => ∃ (k n m : Nat) (c : List Int),mz = k /\ Xge (sayF g.l) k n m c = clsL g.l /\ ClsOK g.l c /\ g.l.length + 1 <= k + n /\ m <= g.l.length /\ n <= g.l.length /\ sz = ⟨fr 20 [(0,.one (.ptr 0 0)),(3,.one (.mvo (.func 71) false [.ptr 0 0])),(4,vi (n : Int)),(5,vi (m : Int))],[pC g v,.row 1 v (ints c)]⟩) _ ⟨g.l.length + 1,0,_,_,rfl,rfl,hok _ Xjr,by omega,hcn _,by omega,rfl⟩ ?_
 rintro k _ ⟨_,n,m,c,rfl,hp,hc,h1,h2,h3,rfl⟩
 simp only [go_sem]
 by_cases hlt : n < m
 ·obtain ⟨k',rfl⟩ : ∃ k',k = k' + 1 := ⟨k - 1,by omega⟩
  simp only [Xge] at hp
  rw [if_pos hlt] at hp
  have e1 : decide ((m : Int) > (n : Int)) = true := decide_eq_true (by omega)
  repeat' (first | refine Kn rfl ?_ | ((first | refine Ka ?_ | refine Kb ?_ | refine Kc ?_ | refine Kd ?_ | refine Ke ?_); simp only [e1,go_sem]) | refine Kf ?_ | refine Kg ?_ | refine Kp (fun _ => ?_) (fun _ => ?_) | ((first | refine Kh ?_ | refine Ki rfl ?_); simp only [e1,or_self,Qs,Qt,Qu,Qv,Qw,Qx,Qy,Qz,Za,go_sem]))
  refine Or.inr (Or.inr ⟨[0,1],vi (cnt (sayF g.l) c : Int),[pC g v,.row 1 v (ints (rnd (sayF g.l) c))],(by simp only [Xa5,rnVs,rnV,rnA,rnAs,rn0,rn0s,posN,rnCs,rnC,getC,List.isEmpty_nil,reduceCtorEq,↓reduceIte,Qa,Qb,Qc,Qd,Qe,Qf,Qg,Qh,Qi,Qj,Qk,Ql,Qm,Qn,Qo,Qp,Qq,Qr]; simp only [go_sem]; exact ⟨Yof,hr _ hc⟩),Sh.intro ?_⟩)
  simp only [go_sem]
  repeat' (first | refine Kn rfl ?_ | ((first | refine Ka ?_ | refine Kb ?_ | refine Kc ?_ | refine Kd ?_ | refine Ke ?_); simp only [go_sem]) | refine Kf ?_ | refine Kg ?_ | refine Kp (fun _ => ?_) (fun _ => ?_) | ((first | refine Kh ?_ | refine Ki rfl ?_); simp only [or_self,Qs,Qt,Qu,Qv,Qw,Qx,Qy,Qz,Za,go_sem]))
  refine Kj (fr 20 [(0,.one (.ptr 0 0)),(3,.one (.mvo (.func 71) false [.ptr 0 0])),(4,vi (m : Int)),(5,vi (cnt (sayF g.l) c : Int))]) (by (simp only [go_sem]; repeat' (first | refine Kp ?_ ?_ | exact Or.inl rfl | exact Or.inr rfl | rfl))) ?_
  refine Kk 2 (by simp only [List.length_nil,List.length_cons]; decide) (by simp only [go_sem]) (by simp only [go_sem]) ?_
  simp only [go_sem]
  exact Kl ⟨k',by omega,k',m,_,_,rfl,hp,hok _ hc,by omega,hcn _,by omega,rfl⟩
 ·rw [Xx1 hlt] at hp
  have e1 : decide ((m : Int) > (n : Int)) = false := decide_eq_false (by omega)
  rw [hp]
  repeat' (first | refine Kn rfl ?_ | ((first | refine Ka ?_ | refine Kb ?_ | refine Kc ?_ | refine Kd ?_ | refine Ke ?_); simp only [e1,go_sem]) | refine Kf ?_ | refine Kg ?_ | refine Kp (fun _ => ?_) (fun _ => ?_) | ((first | refine Kh ?_ | refine Ki rfl ?_); simp only [e1,or_self,Qs,Qt,Qu,Qv,Qw,Qx,Qy,Qz,Za,go_sem]))
  all_goals trace_state
def cOf (g : Gr) : List Int := if chk g = none then clsL g.l else []
theorem Xwo {g : Gr} (h : Good g) : cOf g = clsL g.l := by unfold cOf; rw [if_pos h.c]
theorem Good.neat {g : Gr} (h : Good g) (hs : ∀ x ∈ g.l,x.short) : Neat g := ⟨h.fine,hs,Nat.le_trans h.len (by omega)⟩
theorem Xp6 (h : Env10 gp) (g : Gr) (hs : Xbt g) (hst : ∀ x ∈ g.l,x.short) : Does QP gp 14 [g.v] (.tup [.one (.d (.sl (ints (cOf g)))),vi (chkE g)]) := by
 refine Wdf ?_
 simp only [go_sem]
 have c1 : Does QP gp 36 [g.v] (.tup [vi ((chk g).getD (0,0)).1,vi (chkE g)]) := Xmf h.e g
 refine Xe3 15 ?_
 simp only [go_sem]
 by_cases hc : chk g = none
 ·have hg : Good g := ⟨hc,hs⟩
  have hn := hg.neat hst
  rw [Xwo hg,Xbp hc]
  rw [Xbp hc] at c1
  repeat' (first | refine Kn rfl ?_ | ((first | refine Ka ?_ | refine Kb ?_ | refine Kc ?_ | refine Kd ?_ | refine Ke ?_); simp only [go_sem]) | refine Kf ?_ | refine Kg ?_ | refine ⟨_,c1,Sh.intro ?_⟩ | refine ⟨_,⟨c1,rfl⟩,Sh.intro ?_⟩ | refine Kp (fun _ => ?_) (fun _ => ?_) | ((first | refine Kh ?_ | refine Ki rfl ?_); simp only [or_self,Qs,Qt,Qu,Qv,Qw,Qx,Qy,Qz,Za,go_sem]))
  refine Or.inr ⟨[],.one (.ptr 1 0),[.row 1 0 (ints (Xbq g.l.length)),.cells [.d (.int .i64 g.root),.d (.sl (nds g.l)),.own 0 0]],(by simp only [Xa5,rnVs,rnV,rnA,rnAs,rn0,rn0s,posN,rnCs,rnC,getC,List.isEmpty_nil,reduceCtorEq,↓reduceIte,Qa,Qb,Qc,Qd,Qe,Qf,Qg,Qh,Qi,Qj,Qk,Ql,Qm,Qn,Qo,Qp,Qq,Qr]; simp only [go_sem]; exact ⟨Yag,of10 g hn.len⟩),Sh.intro ?_⟩
  simp only [go_sem]
  repeat' (first | refine Kn rfl ?_ | ((first | refine Ka ?_ | refine Kb ?_ | refine Kc ?_ | refine Kd ?_ | refine Ke ?_); simp only [go_sem]) | refine Kf ?_ | refine Kg ?_ | refine Kp (fun _ => ?_) (fun _ => ?_) | ((first | refine Kh ?_ | refine Ki rfl ?_); simp only [or_self,Qs,Qt,Qu,Qv,Qw,Qx,Qy,Qz,Za,go_sem]))
  refine Or.inr (Or.inr ⟨[1,0],.one (.own 1 0),[pC g 0,.row 1 0 (ints (clsL g.l))],(by simp only [Xa5,rnVs,rnV,rnA,rnAs,rn0,rn0s,posN,rnCs,rnC,getC,List.isEmpty_nil,reduceCtorEq,↓reduceIte,Qa,Qb,Qc,Qd,Qe,Qf,Qg,Qh,Qi,Qj,Qk,Ql,Qm,Qn,Qo,Qp,Qq,Qr]; simp only [go_sem]; exact ⟨Ynt,Xwn h hn 0⟩),Sh.intro ?_⟩)
  simp only [go_sem]
  repeat' (first | ((first | refine Kb ?_ | refine Kc ?_ | refine Kd ?_); simp only [go_sem]) | refine Kf ?_ | refine Kg ?_)
  refine Xar 0 ?_
  simp only [go_sem]
  repeat' (first | refine Kn rfl ?_ | ((first | refine Ka ?_ | refine Kb ?_ | refine Kc ?_ | refine Kd ?_ | refine Ke ?_); simp only [go_sem]) | refine Kf ?_ | refine Kg ?_ | refine Kp (fun _ => ?_) (fun _ => ?_) | ((first | refine Kh ?_ | refine Ki rfl ?_); simp only [or_self,Qs,Qt,Qu,Qv,Qw,Qx,Qy,Qz,Za,go_sem]))
  all_goals trace_state
 ·have he := Xf6 hc
  have e0 : cOf g = [] := by unfold cOf; rw [if_neg hc]
  rw [e0]
  generalize chkE g = e at *
  repeat' (first | refine Kn rfl ?_ | ((first | refine Ka ?_ | refine Kb ?_ | refine Kc ?_ | refine Kd ?_ | refine Ke ?_); simp only [go_sem]) | refine Kf ?_ | refine Kg ?_ | refine ⟨_,c1,Sh.intro ?_⟩ | refine ⟨_,⟨c1,rfl⟩,Sh.intro ?_⟩ | refine Kp (fun _ => ?_) (fun _ => ?_) | ((first | refine Kh ?_ | refine Ki rfl ?_); simp only [or_self,Qs,Qt,Qu,Qv,Qw,Qx,Qy,Qz,Za,go_sem]))
  all_goals simp_all
end Go.Fw.L07
