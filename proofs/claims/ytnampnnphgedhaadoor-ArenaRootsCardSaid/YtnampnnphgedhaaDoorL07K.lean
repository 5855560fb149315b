/- Chapter 7, part 10: the library's decoder. -/
import Derived.Shelf.Lays
import Derived.Shelf.Unicode.DecodeAny
import Derived.Lib.RuneCountTail
import Derived.Test.YtnampnnphgedhaaDoorL07J
set_option linter.all false
namespace Go.Fw.L07
open Go Go.Fw Go.Shelf
open Go.Fw renaming vc1 → Qa, VO_nil → Qb, VO_op → Qc, nilD → Qd, evO → Qe, getV → Qf, setV → Qg, putV → Qh, getC → Qi, setC → Qj, solidAll → Qn, allD → Qo, layF → Qp, layE → Qq, zList → Qr, mkV → Qs, binD → Qx, binI → Qy, binS → Qz, binB → Za, isSh → Zb, eqV → Zc, eqLs → Zd, eqL → Ze, lendL → Zf, lendV → Zg, lendA → Zh, lendAs → Zi, CallW → Zj, renL → Zk, renV → Zl, renA → Zm, renAs → Zn, backV → Zo, back1 → Zp, backA → Zq, frzS → Zu, subT → Zv, subV → Zw, subA → Zx, sub0 → Zy, subC → Zz, WeakF → Xa, ltAll → Xb, clov → Xi, capsD → Xj, capsA → Xk, mvv → Xm, ifv → Xn, calleeV → Xo, boundV → Xp, fr → Xq, setPs → Xr, exitK → Xs, retK → Xt, FinS → Xu, resVs → Xv, resL → Xw, resV → Xx
open Go.Fw.V renaming ok → Qk, cells → Qm, nrm → Qt, nrm2 → Qu, refs0 → Zt, data → Xc, scal → Xe, scal1 → Xf, refsT → Xy, refs → Xz
open Go.Fw.A renaming solid → Ql, nrm → Qv, ofZ → Qw, data → Xd, scal → Xg, low → Xl, refs → Ja, refs0 → Jb
open Go.Fw.Ch renaming live → Zr, refs → Zs
open Go.Fw.D renaming scal → Xh
open List renaming map → Jc, length_nil → Jd, length_cons → Je, length_map → Jf, nil_append → Jg, cons_append → Jh, append_nil → Ji, take_succ_cons → Jj, take_zero → Jk, take_nil → Jl, drop_succ_cons → Jm, drop_zero → Jn, drop_nil → Jo, set_cons_zero → Jp, set_cons_succ → Jq, all_cons → Jr, all_nil → Js, flatMap_nil → Jt, flatMap_cons → Ju, replicate_succ → Jv, replicate_zero → Jw, getElem?_cons_zero → Jx, getElem?_cons_succ → Jy, isEmpty_nil → Ud, isEmpty_cons → Ue
open Go.Fw.Sq renaming true_and → Jz, and_true → Ka, and_false → Kb, false_and → Kc, or_true → Kd, true_or → Ke, false_or → Kf, or_false → Kg, and_self → Kh, not_true_eq_false → Ki, not_false_eq_true → Kj, ne_eq → Kk, if_true → Kl, if_false → Km, false_implies → Kz, implies_true → Wa, forall_const → Wb, true_implies → Wc, and_imp → Uk, eq_self → Ul, decide_true → Um, decide_false → Un, or_self → Uo, decide_eq_true_eq → Uy, decide_eq_false_iff_not → Uz
open Bool renaming false_eq_true → Kn, true_eq_false → Ko, not_true → Kp, not_false → Kq, and_true → Kr, true_and → Ks, and_false → Kt, false_and → Ku, or_true → Kv, true_or → Kw, or_false → Kx, false_or → Ky
open Nat renaming reduceAdd → Wd, reduceSub → We, reduceMul → Wf, reduceLeDiff → Wg, reduceLT → Wh, reduceEqDiff → Wi, zero_add → Wx, add_zero → Wy, zero_mul → Wz, mul_one → Ua, one_mul → Ub, le_refl → Uc
open Int renaming toNat_natCast → Wj, cast_ofNat_Int → Wk, reduceToNat → Wl, reduceLT → Wm, reduceLE → Wn, reduceGT → Wo, reduceGE → Wp, reduceEq → Wq, reduceNe → Wr, reduceBEq → Ws, reduceBNe → Wt, reduceAdd → Wu, reduceSub → Wv, reduceNeg → Ww
open Option renaming isSome_none → Uf, isSome_some → Ug, getD_none → Uh, getD_some → Ui
open Option.some renaming injEq → Uj
open Go.Fw.V.one renaming injEq → Up
open Go.Fw.V.agg renaming injEq → Uq
open Go.Fw.V.tup renaming injEq → Ur
open Go.Fw.A.d renaming injEq → Us
open Go.Fw.D.bool renaming injEq → Ut
open Go.Fw.D.int renaming injEq → Uu
open Go.Fw.D.str renaming injEq → Uv
open Go.Fw.D.sl renaming injEq → Uw
open List.cons renaming injEq → Ux
set_option maxRecDepth 4000
variable {gp : Heap}

def utfRen : Ren := ⟨fun | 197 => 68 | 260 => 73 | n => n,
  fun | 21 => 21 | 46 => 119 | 105 => 121 | 119 => 129 | 138 => 131 | 139 => 132 | n => n,
  fun | 3 => 1 | 4 => 2 | n => n⟩
theorem utfLays : Go.Proofs.Lays.n197 Go.Proofs.Tryd.prog utfRen := {
  mixed := by kernel_rfl
  f197 := by kernel_rfl
  f260 := by kernel_rfl
  t0 := by kernel_rfl
  a0 := fun w => by kernel_rfl
  z0 := fun w => by kernel_rfl
  v0 := fun w => by kernel_rfl
  t3 := by kernel_rfl
  a3 := fun w => by kernel_rfl
  z3 := fun w => by kernel_rfl
  v3 := fun w => by kernel_rfl
  t4 := by kernel_rfl
  a4 := fun w => by kernel_rfl
  z4 := fun w => by kernel_rfl
  v4 := fun w => by kernel_rfl
  t5 := by kernel_rfl
  a5 := fun w => by kernel_rfl
  z5 := fun w => by kernel_rfl
  v5 := fun w => by kernel_rfl
  t9 := by kernel_rfl
  a9 := fun w => by kernel_rfl
  z9 := fun w => by kernel_rfl
  v9 := fun w => by kernel_rfl
  t21 := by kernel_rfl
  a21 := fun w => by kernel_rfl
  z21 := fun w => by kernel_rfl
  v21 := fun w => by kernel_rfl
  t46 := by kernel_rfl
  a46 := fun w => by kernel_rfl
  z46 := fun w => by kernel_rfl
  v46 := fun w => by kernel_rfl
  t105 := by kernel_rfl
  a105 := fun w => by kernel_rfl
  z105 := fun w => by kernel_rfl
  v105 := fun w => by kernel_rfl
  t119 := by kernel_rfl
  a119 := fun w => by kernel_rfl
  z119 := fun w => by kernel_rfl
  t138 := by kernel_rfl
  a138 := fun w => by kernel_rfl
  z138 := fun w => by kernel_rfl
  v138 := fun w => by kernel_rfl
  t139 := by kernel_rfl
  a139 := fun w => by kernel_rfl
  z139 := fun w => by kernel_rfl
  v139 := fun w => by kernel_rfl
  g3 := by kernel_rfl
  g4 := by kernel_rfl }
/-- The decoder's tables are known. -/
def UtfOK (gp : Heap) : Prop := ∀ H w, Heap.Le gp H → Models w H → Lib.Utf8Tabs 1 2 w
theorem decode (hU : UtfOK gp) (s : ByteArray) : Does Go.Proofs.Tryd.prog gp 68 [vs s] (.tup [.one (.d (.int .i32 (Lib.decodeGo s).1)), vi (Lib.decodeGo s).2]) := by
  refine ⟨by kernel_rfl, ?_⟩
  intro H w an F us hgp hmod hanc hown hF hdj hargs
  obtain ⟨u, rfl, hu⟩ : ∃ u, us = [u] ∧ Den H (.str s) u := by
    cases us with
    | nil => exact hargs.elim
    | cons u us => cases us with
      | nil => exact ⟨u, rfl, hargs.1⟩
      | cons _ _ => exact hargs.2.elim
  cases hu
  have hc := Go.Proofs.Any.utf8_DecodeRuneInString utfLays s w (hU H w hgp hmod)
  intro cs
  obtain ⟨e, w', fr, ⟨rfl, hb⟩, h2, h3, h4⟩ := hc cs
  refine ⟨_, w', fr, ⟨_, _, [], H, fun _ => none, fun _ _ => False, rfl, ⟨rfl, rfl⟩, ⟨hb.os, hb.tape, hb.output, hb.size, fun b hlt _ => hb.block b hlt⟩, Heap.Le.refl _, fun b o hbo => ?_, fun b o hbo => .inl hbo, ⟨fun i p hp => ?_⟩, by simp, by simp, by simp, by simp, ?_⟩, h2, h3, h4⟩
  · have := hmod b o hbo
    exact (hb.block b (Array.getElem?_eq_some_iff.1 this).1).trans this
  · have := (hanc i).1 ⟨p, hp⟩; simp at this
  · exact ⟨_, rfl, Den.int _ _, Den.int _ _, trivial⟩
/-- Is a text right? From a place on. -/
def rightFrom (s : ByteArray) : Nat → Nat → Bool
  | 0, _ => true
  | n + 1, p => if p < s.size then (if (Utf8.decode s p).1 = 65533 ∧ (Utf8.decode s p).2 = 1 then false else rightFrom s n (p + (Utf8.decode s p).2)) else true
def rightS (s : ByteArray) : Bool := rightFrom s s.size 0
theorem right_end {s : ByteArray} {f p : Nat} (h : ¬ p < s.size) : rightFrom s f p = true := by
  cases f with
  | zero => rfl
  | succ f => simp only [rightFrom, if_neg h]
theorem decode_tail {s : ByteArray} {p : Nat} (h : p < s.size) : Lib.decodeGo (s.extract p s.size) = Utf8.decode s p := by
  unfold Lib.decodeGo
  rw [if_neg (by rw [ByteArray.size_extract]; omega), Lib.tail_decode, Nat.add_zero]
theorem right_str (hU : UtfOK gp) (s : ByteArray) : Does Go.Proofs.Tryd.prog gp 60 [vs s] (vb (rightS s)) := by
  refine f60_in ?_
  simp only [Qa,Qb,Qc,Qd,Qe,Qf,Qg,Qh,Qi,Qj,Qk,Ql,Qm,Qn,Qo,Qp,Qq,Qr,Qs,Qt,Qu,Qv,Qw,Qx,Qy,Qz,Za,Zb,Zc,Zd,Ze,Zf,Zg,Zh,Zi,Zj,Zk,Zl,Zm,Zn,Zo,Zp,Zq,Zr,Zs,Zt,Zu,Zv,Zw,Zx,Zy,Zz,Xa,Xb,Xc,Xd,Xe,Xf,Xg,Xh,Xi,Xj,Xk,Xl,Xm,Xn,Xo,Xp,Xq,Xr,Xs,Xt,Xu,Xv,Xw,Xx,Xy,Xz,Ja,Jb,Jc,Jd,Je,Jf,Jg,Jh,Ji,Jj,Jk,Jl,Jm,Jn,Jo,Jp,Jq,Jr,Js,Jt,Ju,Jv,Jw,Jx,Jy,Jz,Ka,Kb,Kc,Kd,Ke,Kf,Kg,Kh,Ki,Kj,Kk,Kl,Km,↓reduceIte,Kn,Ko,Kp,Kq,Kr,Ks,Kt,Ku,Kv,Kw,Kx,Ky,Kz,Wa,Wb,Wc,Wd,We,Wf,Wg,Wh,Wi,Wj,Wk,Wl,Wm,Wn,Wo,Wp,Wq,Wr,Ws,Wt,Wu,Wv,Ww,Wx,Wy,Wz,Ua,Ub,Uc,reduceCtorEq,Ud,Ue,Uf,Ug,Uh,Ui,Uj,Uk,Ul,Um,Un]
  repeat' (first | refine G_seq ?_ | refine G_skip ?_ | refine G_scope ?_ | refine G_blk ?_ | refine G_blk_end ?_ | ((first | refine G_reg ?_ | refine VO_chk ?_); simp only [f60_r0,f60_r1,f60_r2,f60_r6,f60_r7,f60_r8,f60_r9,f60_r23,Qa,Qb,Qc,Qd,Qe,Qf,Qg,Qh,Qi,Qj,Qk,Ql,Qm,Qn,Qo,Qp,Qq,Qr,Qs,Qt,Qu,Qv,Qw,Qx,Qy,Qz,Za,Zb,Zc,Zd,Ze,Zf,Zg,Zh,Zi,Zj,Zk,Zl,Zm,Zn,Zo,Zp,Zq,Zr,Zs,Zt,Zu,Zv,Zw,Zx,Zy,Zz,Xa,Xb,Xc,Xd,Xe,Xf,Xg,Xh,Xi,Xj,Xk,Xl,Xm,Xn,Xo,Xp,Xq,Xr,Xs,Xt,Xu,Xv,Xw,Xx,Xy,Xz,Ja,Jb,Jc,Jd,Je,Jf,Jg,Jh,Ji,Jj,Jk,Jl,Jm,Jn,Jo,Jp,Jq,Jr,Js,Jt,Ju,Jv,Jw,Jx,Jy,Jz,Ka,Kb,Kc,Kd,Ke,Kf,Kg,Kh,Ki,Kj,Kk,Kl,Km,↓reduceIte,Kn,Ko,Kp,Kq,Kr,Ks,Kt,Ku,Kv,Kw,Kx,Ky,Kz,Wa,Wb,Wc,Wd,We,Wf,Wg,Wh,Wi,Wj,Wk,Wl,Wm,Wn,Wo,Wp,Wq,Wr,Ws,Wt,Wu,Wv,Ww,Wx,Wy,Wz,Ua,Ub,Uc,reduceCtorEq,Ud,Ue,Uf,Ug,Uh,Ui,Uj,Uk,Ul,Um,Un]) | (refine G_cond ?_; simp only [f60_r0,f60_r1,f60_r2,f60_r6,f60_r7,f60_r8,f60_r9,f60_r23,Uy,Uz,Qa,Qb,Qc,Qd,Qe,Qf,Qg,Qh,Qi,Qj,Qk,Ql,Qm,Qn,Qo,Qp,Qq,Qr,Qs,Qt,Qu,Qv,Qw,Qx,Qy,Qz,Za,Zb,Zc,Zd,Ze,Zf,Zg,Zh,Zi,Zj,Zk,Zl,Zm,Zn,Zo,Zp,Zq,Zr,Zs,Zt,Zu,Zv,Zw,Zx,Zy,Zz,Xa,Xb,Xc,Xd,Xe,Xf,Xg,Xh,Xi,Xj,Xk,Xl,Xm,Xn,Xo,Xp,Xq,Xr,Xs,Xt,Xu,Xv,Xw,Xx,Xy,Xz,Ja,Jb,Jc,Jd,Je,Jf,Jg,Jh,Ji,Jj,Jk,Jl,Jm,Jn,Jo,Jp,Jq,Jr,Js,Jt,Ju,Jv,Jw,Jx,Jy,Jz,Ka,Kb,Kc,Kd,Ke,Kf,Kg,Kh,Ki,Kj,Kk,Kl,Km,↓reduceIte,Kn,Ko,Kp,Kq,Kr,Ks,Kt,Ku,Kv,Kw,Kx,Ky,Kz,Wa,Wb,Wc,Wd,We,Wf,Wg,Wh,Wi,Wj,Wk,Wl,Wm,Wn,Wo,Wp,Wq,Wr,Ws,Wt,Wu,Wv,Ww,Wx,Wy,Wz,Ua,Ub,Uc,reduceCtorEq,Ud,Ue,Uf,Ug,Uh,Ui,Uj,Uk,Ul,Um,Un]; first | refine ⟨fun _ => ?_, fun _ => ?_⟩ | skip) | refine G_exit rfl ?_ | refine And.intro (fun _ => ?_) (fun _ => ?_) | ((first | refine Sh.intro ?_); try simp only [f60_r0,f60_r1,f60_r2,f60_r6,f60_r7,f60_r8,f60_r9,f60_r23,Qa,Qb,Qc,Qd,Qe,Qf,Qg,Qh,Qi,Qj,Qk,Ql,Qm,Qn,Qo,Qp,Qq,Qr,Qs,Qt,Qu,Qv,Qw,Qx,Qy,Qz,Za,Zb,Zc,Zd,Ze,Zf,Zg,Zh,Zi,Zj,Zk,Zl,Zm,Zn,Zo,Zp,Zq,Zr,Zs,Zt,Zu,Zv,Zw,Zx,Zy,Zz,Xa,Xb,Xc,Xd,Xe,Xf,Xg,Xh,Xi,Xj,Xk,Xl,Xm,Xn,Xo,Xp,Xq,Xr,Xs,Xt,Xu,Xv,Xw,Xx,Xy,Xz,Ja,Jb,Jc,Jd,Je,Jf,Jg,Jh,Ji,Jj,Jk,Jl,Jm,Jn,Jo,Jp,Jq,Jr,Js,Jt,Ju,Jv,Jw,Jx,Jy,Jz,Ka,Kb,Kc,Kd,Ke,Kf,Kg,Kh,Ki,Kj,Kk,Kl,Km,↓reduceIte,Kn,Ko,Kp,Kq,Kr,Ks,Kt,Ku,Kv,Kw,Kx,Ky,Kz,Wa,Wb,Wc,Wd,We,Wf,Wg,Wh,Wi,Wj,Wk,Wl,Wm,Wn,Wo,Wp,Wq,Wr,Ws,Wt,Wu,Wv,Ww,Wx,Wy,Wz,Ua,Ub,Uc,reduceCtorEq,Ud,Ue,Uf,Ug,Uh,Ui,Uj,Uk,Ul,Um,Un]) | ((first | refine G_fin ?_ | refine G_ret rfl ?_); simp only [f60_r0,f60_r1,f60_r2,f60_r6,f60_r7,f60_r8,f60_r9,f60_r23,Uo,Up,Uq,Ur,Us,Ut,Uu,Uv,Uw,Ux,Qa,Qb,Qc,Qd,Qe,Qf,Qg,Qh,Qi,Qj,Qk,Ql,Qm,Qn,Qo,Qp,Qq,Qr,Qs,Qt,Qu,Qv,Qw,Qx,Qy,Qz,Za,Zb,Zc,Zd,Ze,Zf,Zg,Zh,Zi,Zj,Zk,Zl,Zm,Zn,Zo,Zp,Zq,Zr,Zs,Zt,Zu,Zv,Zw,Zx,Zy,Zz,Xa,Xb,Xc,Xd,Xe,Xf,Xg,Xh,Xi,Xj,Xk,Xl,Xm,Xn,Xo,Xp,Xq,Xr,Xs,Xt,Xu,Xv,Xw,Xx,Xy,Xz,Ja,Jb,Jc,Jd,Je,Jf,Jg,Jh,Ji,Jj,Jk,Jl,Jm,Jn,Jo,Jp,Jq,Jr,Js,Jt,Ju,Jv,Jw,Jx,Jy,Jz,Ka,Kb,Kc,Kd,Ke,Kf,Kg,Kh,Ki,Kj,Kk,Kl,Km,↓reduceIte,Kn,Ko,Kp,Kq,Kr,Ks,Kt,Ku,Kv,Kw,Kx,Ky,Kz,Wa,Wb,Wc,Wd,We,Wf,Wg,Wh,Wi,Wj,Wk,Wl,Wm,Wn,Wo,Wp,Wq,Wr,Ws,Wt,Wu,Wv,Ww,Wx,Wy,Wz,Ua,Ub,Uc,reduceCtorEq,Ud,Ue,Uf,Ug,Uh,Ui,Uj,Uk,Ul,Um,Un]))
  refine G_weak (fr 26 [(0, vs s), (8, .one (.own 0 0))]) (by (simp only [Qa,Qb,Qc,Qd,Qe,Qf,Qg,Qh,Qi,Qj,Qk,Ql,Qm,Qn,Qo,Qp,Qq,Qr,Qs,Qt,Qu,Qv,Qw,Qx,Qy,Qz,Za,Zb,Zc,Zd,Ze,Zf,Zg,Zh,Zi,Zj,Zk,Zl,Zm,Zn,Zo,Zp,Zq,Zr,Zs,Zt,Zu,Zv,Zw,Zx,Zy,Zz,Xa,Xb,Xc,Xd,Xe,Xf,Xg,Xh,Xi,Xj,Xk,Xl,Xm,Xn,Xo,Xp,Xq,Xr,Xs,Xt,Xu,Xv,Xw,Xx,Xy,Xz,Ja,Jb,Jc,Jd,Je,Jf,Jg,Jh,Ji,Jj,Jk,Jl,Jm,Jn,Jo,Jp,Jq,Jr,Js,Jt,Ju,Jv,Jw,Jx,Jy,Jz,Ka,Kb,Kc,Kd,Ke,Kf,Kg,Kh,Ki,Kj,Kk,Kl,Km,↓reduceIte,Kn,Ko,Kp,Kq,Kr,Ks,Kt,Ku,Kv,Kw,Kx,Ky,Kz,Wa,Wb,Wc,Wd,We,Wf,Wg,Wh,Wi,Wj,Wk,Wl,Wm,Wn,Wo,Wp,Wq,Wr,Ws,Wt,Wu,Wv,Ww,Wx,Wy,Wz,Ua,Ub,Uc,reduceCtorEq,Ud,Ue,Uf,Ug,Uh,Ui,Uj,Uk,Ul,Um,Un]; repeat' (first | refine And.intro ?_ ?_ | exact Or.inl rfl | exact Or.inr rfl | rfl))) ?_
  refine G_loop (fun mz sz => ∃ p f : Nat, mz = s.size - p ∧ s.size - p ≤ f ∧ rightFrom s f p = rightS s ∧ sz = ⟨fr 26 [(0, vs s), (8, .one (.own 0 0))], [.siter s p]⟩) s.size ⟨0, s.size, rfl, Nat.le_refl _, rfl, rfl⟩ ?_
  rintro _ _ ⟨p, f, rfl, hf, hr, rfl⟩
  simp only [Qa,Qb,Qc,Qd,Qe,Qf,Qg,Qh,Qi,Qj,Qk,Ql,Qm,Qn,Qo,Qp,Qq,Qr,Qs,Qt,Qu,Qv,Qw,Qx,Qy,Qz,Za,Zb,Zc,Zd,Ze,Zf,Zg,Zh,Zi,Zj,Zk,Zl,Zm,Zn,Zo,Zp,Zq,Zr,Zs,Zt,Zu,Zv,Zw,Zx,Zy,Zz,Xa,Xb,Xc,Xd,Xe,Xf,Xg,Xh,Xi,Xj,Xk,Xl,Xm,Xn,Xo,Xp,Xq,Xr,Xs,Xt,Xu,Xv,Xw,Xx,Xy,Xz,Ja,Jb,Jc,Jd,Je,Jf,Jg,Jh,Ji,Jj,Jk,Jl,Jm,Jn,Jo,Jp,Jq,Jr,Js,Jt,Ju,Jv,Jw,Jx,Jy,Jz,Ka,Kb,Kc,Kd,Ke,Kf,Kg,Kh,Ki,Kj,Kk,Kl,Km,↓reduceIte,Kn,Ko,Kp,Kq,Kr,Ks,Kt,Ku,Kv,Kw,Kx,Ky,Kz,Wa,Wb,Wc,Wd,We,Wf,Wg,Wh,Wi,Wj,Wk,Wl,Wm,Wn,Wo,Wp,Wq,Wr,Ws,Wt,Wu,Wv,Ww,Wx,Wy,Wz,Ua,Ub,Uc,reduceCtorEq,Ud,Ue,Uf,Ug,Uh,Ui,Uj,Uk,Ul,Um,Un]
  by_cases hp : p < s.size
  · obtain ⟨f, rfl⟩ : ∃ g, f = g + 1 := ⟨f - 1, by omega⟩
    have hw := Lib.decode_width_pos s p hp
    have hd := decode_tail hp
    simp only [rightFrom, if_pos hp] at hr
    have hdec := decode hU (s.extract p s.size)
    rw [hd] at hdec
    repeat' (first | refine G_seq ?_ | refine G_skip ?_ | refine G_scope ?_ | refine G_blk ?_ | refine G_blk_end ?_ | ((first | refine G_reg ?_ | refine VO_chk ?_); simp only [f60_r0,f60_r1,f60_r2,f60_r6,f60_r7,f60_r8,f60_r9,f60_r23,Qa,Qb,Qc,Qd,Qe,Qf,Qg,Qh,Qi,Qj,Qk,Ql,Qm,Qn,Qo,Qp,Qq,Qr,Qs,Qt,Qu,Qv,Qw,Qx,Qy,Qz,Za,Zb,Zc,Zd,Ze,Zf,Zg,Zh,Zi,Zj,Zk,Zl,Zm,Zn,Zo,Zp,Zq,Zr,Zs,Zt,Zu,Zv,Zw,Zx,Zy,Zz,Xa,Xb,Xc,Xd,Xe,Xf,Xg,Xh,Xi,Xj,Xk,Xl,Xm,Xn,Xo,Xp,Xq,Xr,Xs,Xt,Xu,Xv,Xw,Xx,Xy,Xz,Ja,Jb,Jc,Jd,Je,Jf,Jg,Jh,Ji,Jj,Jk,Jl,Jm,Jn,Jo,Jp,Jq,Jr,Js,Jt,Ju,Jv,Jw,Jx,Jy,Jz,Ka,Kb,Kc,Kd,Ke,Kf,Kg,Kh,Ki,Kj,Kk,Kl,Km,↓reduceIte,Kn,Ko,Kp,Kq,Kr,Ks,Kt,Ku,Kv,Kw,Kx,Ky,Kz,Wa,Wb,Wc,Wd,We,Wf,Wg,Wh,Wi,Wj,Wk,Wl,Wm,Wn,Wo,Wp,Wq,Wr,Ws,Wt,Wu,Wv,Ww,Wx,Wy,Wz,Ua,Ub,Uc,reduceCtorEq,Ud,Ue,Uf,Ug,Uh,Ui,Uj,Uk,Ul,Um,Un]) | (refine G_cond ?_; simp only [f60_r0,f60_r1,f60_r2,f60_r6,f60_r7,f60_r8,f60_r9,f60_r23,Uy,Uz,Qa,Qb,Qc,Qd,Qe,Qf,Qg,Qh,Qi,Qj,Qk,Ql,Qm,Qn,Qo,Qp,Qq,Qr,Qs,Qt,Qu,Qv,Qw,Qx,Qy,Qz,Za,Zb,Zc,Zd,Ze,Zf,Zg,Zh,Zi,Zj,Zk,Zl,Zm,Zn,Zo,Zp,Zq,Zr,Zs,Zt,Zu,Zv,Zw,Zx,Zy,Zz,Xa,Xb,Xc,Xd,Xe,Xf,Xg,Xh,Xi,Xj,Xk,Xl,Xm,Xn,Xo,Xp,Xq,Xr,Xs,Xt,Xu,Xv,Xw,Xx,Xy,Xz,Ja,Jb,Jc,Jd,Je,Jf,Jg,Jh,Ji,Jj,Jk,Jl,Jm,Jn,Jo,Jp,Jq,Jr,Js,Jt,Ju,Jv,Jw,Jx,Jy,Jz,Ka,Kb,Kc,Kd,Ke,Kf,Kg,Kh,Ki,Kj,Kk,Kl,Km,↓reduceIte,Kn,Ko,Kp,Kq,Kr,Ks,Kt,Ku,Kv,Kw,Kx,Ky,Kz,Wa,Wb,Wc,Wd,We,Wf,Wg,Wh,Wi,Wj,Wk,Wl,Wm,Wn,Wo,Wp,Wq,Wr,Ws,Wt,Wu,Wv,Ww,Wx,Wy,Wz,Ua,Ub,Uc,reduceCtorEq,Ud,Ue,Uf,Ug,Uh,Ui,Uj,Uk,Ul,Um,Un]; first | refine ⟨fun _ => ?_, fun _ => ?_⟩ | skip) | refine G_exit rfl ?_ | refine And.intro (fun _ => ?_) (fun _ => ?_) | ((first | refine Sh.intro ?_ | refine ⟨_, hdec, Sh.intro ?_⟩ | refine ⟨_, ⟨hdec, rfl⟩, Sh.intro ?_⟩ | refine ⟨p, s.size, ⟨rfl, rfl, Nat.le_of_lt hp, Nat.le_refl _⟩, Sh.intro ?_⟩); try simp only [f60_r0,f60_r1,f60_r2,f60_r6,f60_r7,f60_r8,f60_r9,f60_r23,Qa,Qb,Qc,Qd,Qe,Qf,Qg,Qh,Qi,Qj,Qk,Ql,Qm,Qn,Qo,Qp,Qq,Qr,Qs,Qt,Qu,Qv,Qw,Qx,Qy,Qz,Za,Zb,Zc,Zd,Ze,Zf,Zg,Zh,Zi,Zj,Zk,Zl,Zm,Zn,Zo,Zp,Zq,Zr,Zs,Zt,Zu,Zv,Zw,Zx,Zy,Zz,Xa,Xb,Xc,Xd,Xe,Xf,Xg,Xh,Xi,Xj,Xk,Xl,Xm,Xn,Xo,Xp,Xq,Xr,Xs,Xt,Xu,Xv,Xw,Xx,Xy,Xz,Ja,Jb,Jc,Jd,Je,Jf,Jg,Jh,Ji,Jj,Jk,Jl,Jm,Jn,Jo,Jp,Jq,Jr,Js,Jt,Ju,Jv,Jw,Jx,Jy,Jz,Ka,Kb,Kc,Kd,Ke,Kf,Kg,Kh,Ki,Kj,Kk,Kl,Km,↓reduceIte,Kn,Ko,Kp,Kq,Kr,Ks,Kt,Ku,Kv,Kw,Kx,Ky,Kz,Wa,Wb,Wc,Wd,We,Wf,Wg,Wh,Wi,Wj,Wk,Wl,Wm,Wn,Wo,Wp,Wq,Wr,Ws,Wt,Wu,Wv,Ww,Wx,Wy,Wz,Ua,Ub,Uc,reduceCtorEq,Ud,Ue,Uf,Ug,Uh,Ui,Uj,Uk,Ul,Um,Un]) | ((first | refine G_fin ?_ | refine G_ret rfl ?_); simp only [f60_r0,f60_r1,f60_r2,f60_r6,f60_r7,f60_r8,f60_r9,f60_r23,Uo,Up,Uq,Ur,Us,Ut,Uu,Uv,Uw,Ux,Qa,Qb,Qc,Qd,Qe,Qf,Qg,Qh,Qi,Qj,Qk,Ql,Qm,Qn,Qo,Qp,Qq,Qr,Qs,Qt,Qu,Qv,Qw,Qx,Qy,Qz,Za,Zb,Zc,Zd,Ze,Zf,Zg,Zh,Zi,Zj,Zk,Zl,Zm,Zn,Zo,Zp,Zq,Zr,Zs,Zt,Zu,Zv,Zw,Zx,Zy,Zz,Xa,Xb,Xc,Xd,Xe,Xf,Xg,Xh,Xi,Xj,Xk,Xl,Xm,Xn,Xo,Xp,Xq,Xr,Xs,Xt,Xu,Xv,Xw,Xx,Xy,Xz,Ja,Jb,Jc,Jd,Je,Jf,Jg,Jh,Ji,Jj,Jk,Jl,Jm,Jn,Jo,Jp,Jq,Jr,Js,Jt,Ju,Jv,Jw,Jx,Jy,Jz,Ka,Kb,Kc,Kd,Ke,Kf,Kg,Kh,Ki,Kj,Kk,Kl,Km,↓reduceIte,Kn,Ko,Kp,Kq,Kr,Ks,Kt,Ku,Kv,Kw,Kx,Ky,Kz,Wa,Wb,Wc,Wd,We,Wf,Wg,Wh,Wi,Wj,Wk,Wl,Wm,Wn,Wo,Wp,Wq,Wr,Ws,Wt,Wu,Wv,Ww,Wx,Wy,Wz,Ua,Ub,Uc,reduceCtorEq,Ud,Ue,Uf,Ug,Uh,Ui,Uj,Uk,Ul,Um,Un]))
    · rename_i h1 h2
      rw [if_pos ⟨by simp at h1; omega, by simp at h2; omega⟩] at hr
      rw [← hr]
    · rename_i h1 h2
      rw [if_neg (by intro h3; simp [h3.2] at h2)] at hr
      refine G_weak (fr 26 [(0, vs s), (8, .one (.own 0 0))]) (by (simp only [Qa,Qb,Qc,Qd,Qe,Qf,Qg,Qh,Qi,Qj,Qk,Ql,Qm,Qn,Qo,Qp,Qq,Qr,Qs,Qt,Qu,Qv,Qw,Qx,Qy,Qz,Za,Zb,Zc,Zd,Ze,Zf,Zg,Zh,Zi,Zj,Zk,Zl,Zm,Zn,Zo,Zp,Zq,Zr,Zs,Zt,Zu,Zv,Zw,Zx,Zy,Zz,Xa,Xb,Xc,Xd,Xe,Xf,Xg,Xh,Xi,Xj,Xk,Xl,Xm,Xn,Xo,Xp,Xq,Xr,Xs,Xt,Xu,Xv,Xw,Xx,Xy,Xz,Ja,Jb,Jc,Jd,Je,Jf,Jg,Jh,Ji,Jj,Jk,Jl,Jm,Jn,Jo,Jp,Jq,Jr,Js,Jt,Ju,Jv,Jw,Jx,Jy,Jz,Ka,Kb,Kc,Kd,Ke,Kf,Kg,Kh,Ki,Kj,Kk,Kl,Km,↓reduceIte,Kn,Ko,Kp,Kq,Kr,Ks,Kt,Ku,Kv,Kw,Kx,Ky,Kz,Wa,Wb,Wc,Wd,We,Wf,Wg,Wh,Wi,Wj,Wk,Wl,Wm,Wn,Wo,Wp,Wq,Wr,Ws,Wt,Wu,Wv,Ww,Wx,Wy,Wz,Ua,Ub,Uc,reduceCtorEq,Ud,Ue,Uf,Ug,Uh,Ui,Uj,Uk,Ul,Um,Un]; repeat' (first | refine And.intro ?_ ?_ | exact Or.inl rfl | exact Or.inr rfl | rfl))) ?_
      exact G_again ⟨s.size - (p + (Utf8.decode s p).2), by omega, p + (Utf8.decode s p).2, f, rfl, by omega, hr, rfl⟩
    · rename_i h1
      rw [if_neg (by intro h3; simp [h3.1] at h1)] at hr
      refine G_weak (fr 26 [(0, vs s), (8, .one (.own 0 0))]) (by (simp only [Qa,Qb,Qc,Qd,Qe,Qf,Qg,Qh,Qi,Qj,Qk,Ql,Qm,Qn,Qo,Qp,Qq,Qr,Qs,Qt,Qu,Qv,Qw,Qx,Qy,Qz,Za,Zb,Zc,Zd,Ze,Zf,Zg,Zh,Zi,Zj,Zk,Zl,Zm,Zn,Zo,Zp,Zq,Zr,Zs,Zt,Zu,Zv,Zw,Zx,Zy,Zz,Xa,Xb,Xc,Xd,Xe,Xf,Xg,Xh,Xi,Xj,Xk,Xl,Xm,Xn,Xo,Xp,Xq,Xr,Xs,Xt,Xu,Xv,Xw,Xx,Xy,Xz,Ja,Jb,Jc,Jd,Je,Jf,Jg,Jh,Ji,Jj,Jk,Jl,Jm,Jn,Jo,Jp,Jq,Jr,Js,Jt,Ju,Jv,Jw,Jx,Jy,Jz,Ka,Kb,Kc,Kd,Ke,Kf,Kg,Kh,Ki,Kj,Kk,Kl,Km,↓reduceIte,Kn,Ko,Kp,Kq,Kr,Ks,Kt,Ku,Kv,Kw,Kx,Ky,Kz,Wa,Wb,Wc,Wd,We,Wf,Wg,Wh,Wi,Wj,Wk,Wl,Wm,Wn,Wo,Wp,Wq,Wr,Ws,Wt,Wu,Wv,Ww,Wx,Wy,Wz,Ua,Ub,Uc,reduceCtorEq,Ud,Ue,Uf,Ug,Uh,Ui,Uj,Uk,Ul,Um,Un]; repeat' (first | refine And.intro ?_ ?_ | exact Or.inl rfl | exact Or.inr rfl | rfl))) ?_
      exact G_again ⟨s.size - (p + (Utf8.decode s p).2), by omega, p + (Utf8.decode s p).2, f, rfl, by omega, hr, rfl⟩
    · rename_i h; exact absurd hp h
  · repeat' (first | refine G_seq ?_ | refine G_skip ?_ | refine G_scope ?_ | refine G_blk ?_ | refine G_blk_end ?_ | ((first | refine G_reg ?_ | refine VO_chk ?_); simp only [f60_r0,f60_r1,f60_r2,f60_r6,f60_r7,f60_r8,f60_r9,f60_r23,Qa,Qb,Qc,Qd,Qe,Qf,Qg,Qh,Qi,Qj,Qk,Ql,Qm,Qn,Qo,Qp,Qq,Qr,Qs,Qt,Qu,Qv,Qw,Qx,Qy,Qz,Za,Zb,Zc,Zd,Ze,Zf,Zg,Zh,Zi,Zj,Zk,Zl,Zm,Zn,Zo,Zp,Zq,Zr,Zs,Zt,Zu,Zv,Zw,Zx,Zy,Zz,Xa,Xb,Xc,Xd,Xe,Xf,Xg,Xh,Xi,Xj,Xk,Xl,Xm,Xn,Xo,Xp,Xq,Xr,Xs,Xt,Xu,Xv,Xw,Xx,Xy,Xz,Ja,Jb,Jc,Jd,Je,Jf,Jg,Jh,Ji,Jj,Jk,Jl,Jm,Jn,Jo,Jp,Jq,Jr,Js,Jt,Ju,Jv,Jw,Jx,Jy,Jz,Ka,Kb,Kc,Kd,Ke,Kf,Kg,Kh,Ki,Kj,Kk,Kl,Km,↓reduceIte,Kn,Ko,Kp,Kq,Kr,Ks,Kt,Ku,Kv,Kw,Kx,Ky,Kz,Wa,Wb,Wc,Wd,We,Wf,Wg,Wh,Wi,Wj,Wk,Wl,Wm,Wn,Wo,Wp,Wq,Wr,Ws,Wt,Wu,Wv,Ww,Wx,Wy,Wz,Ua,Ub,Uc,reduceCtorEq,Ud,Ue,Uf,Ug,Uh,Ui,Uj,Uk,Ul,Um,Un]) | (refine G_cond ?_; simp only [f60_r0,f60_r1,f60_r2,f60_r6,f60_r7,f60_r8,f60_r9,f60_r23,Uy,Uz,Qa,Qb,Qc,Qd,Qe,Qf,Qg,Qh,Qi,Qj,Qk,Ql,Qm,Qn,Qo,Qp,Qq,Qr,Qs,Qt,Qu,Qv,Qw,Qx,Qy,Qz,Za,Zb,Zc,Zd,Ze,Zf,Zg,Zh,Zi,Zj,Zk,Zl,Zm,Zn,Zo,Zp,Zq,Zr,Zs,Zt,Zu,Zv,Zw,Zx,Zy,Zz,Xa,Xb,Xc,Xd,Xe,Xf,Xg,Xh,Xi,Xj,Xk,Xl,Xm,Xn,Xo,Xp,Xq,Xr,Xs,Xt,Xu,Xv,Xw,Xx,Xy,Xz,Ja,Jb,Jc,Jd,Je,Jf,Jg,Jh,Ji,Jj,Jk,Jl,Jm,Jn,Jo,Jp,Jq,Jr,Js,Jt,Ju,Jv,Jw,Jx,Jy,Jz,Ka,Kb,Kc,Kd,Ke,Kf,Kg,Kh,Ki,Kj,Kk,Kl,Km,↓reduceIte,Kn,Ko,Kp,Kq,Kr,Ks,Kt,Ku,Kv,Kw,Kx,Ky,Kz,Wa,Wb,Wc,Wd,We,Wf,Wg,Wh,Wi,Wj,Wk,Wl,Wm,Wn,Wo,Wp,Wq,Wr,Ws,Wt,Wu,Wv,Ww,Wx,Wy,Wz,Ua,Ub,Uc,reduceCtorEq,Ud,Ue,Uf,Ug,Uh,Ui,Uj,Uk,Ul,Um,Un]; first | refine ⟨fun _ => ?_, fun _ => ?_⟩ | skip) | refine G_exit rfl ?_ | refine And.intro (fun _ => ?_) (fun _ => ?_) | ((first | refine Sh.intro ?_); try simp only [f60_r0,f60_r1,f60_r2,f60_r6,f60_r7,f60_r8,f60_r9,f60_r23,Qa,Qb,Qc,Qd,Qe,Qf,Qg,Qh,Qi,Qj,Qk,Ql,Qm,Qn,Qo,Qp,Qq,Qr,Qs,Qt,Qu,Qv,Qw,Qx,Qy,Qz,Za,Zb,Zc,Zd,Ze,Zf,Zg,Zh,Zi,Zj,Zk,Zl,Zm,Zn,Zo,Zp,Zq,Zr,Zs,Zt,Zu,Zv,Zw,Zx,Zy,Zz,Xa,Xb,Xc,Xd,Xe,Xf,Xg,Xh,Xi,Xj,Xk,Xl,Xm,Xn,Xo,Xp,Xq,Xr,Xs,Xt,Xu,Xv,Xw,Xx,Xy,Xz,Ja,Jb,Jc,Jd,Je,Jf,Jg,Jh,Ji,Jj,Jk,Jl,Jm,Jn,Jo,Jp,Jq,Jr,Js,Jt,Ju,Jv,Jw,Jx,Jy,Jz,Ka,Kb,Kc,Kd,Ke,Kf,Kg,Kh,Ki,Kj,Kk,Kl,Km,↓reduceIte,Kn,Ko,Kp,Kq,Kr,Ks,Kt,Ku,Kv,Kw,Kx,Ky,Kz,Wa,Wb,Wc,Wd,We,Wf,Wg,Wh,Wi,Wj,Wk,Wl,Wm,Wn,Wo,Wp,Wq,Wr,Ws,Wt,Wu,Wv,Ww,Wx,Wy,Wz,Ua,Ub,Uc,reduceCtorEq,Ud,Ue,Uf,Ug,Uh,Ui,Uj,Uk,Ul,Um,Un]) | ((first | refine G_fin ?_ | refine G_ret rfl ?_); simp only [f60_r0,f60_r1,f60_r2,f60_r6,f60_r7,f60_r8,f60_r9,f60_r23,Uo,Up,Uq,Ur,Us,Ut,Uu,Uv,Uw,Ux,Qa,Qb,Qc,Qd,Qe,Qf,Qg,Qh,Qi,Qj,Qk,Ql,Qm,Qn,Qo,Qp,Qq,Qr,Qs,Qt,Qu,Qv,Qw,Qx,Qy,Qz,Za,Zb,Zc,Zd,Ze,Zf,Zg,Zh,Zi,Zj,Zk,Zl,Zm,Zn,Zo,Zp,Zq,Zr,Zs,Zt,Zu,Zv,Zw,Zx,Zy,Zz,Xa,Xb,Xc,Xd,Xe,Xf,Xg,Xh,Xi,Xj,Xk,Xl,Xm,Xn,Xo,Xp,Xq,Xr,Xs,Xt,Xu,Xv,Xw,Xx,Xy,Xz,Ja,Jb,Jc,Jd,Je,Jf,Jg,Jh,Ji,Jj,Jk,Jl,Jm,Jn,Jo,Jp,Jq,Jr,Js,Jt,Ju,Jv,Jw,Jx,Jy,Jz,Ka,Kb,Kc,Kd,Ke,Kf,Kg,Kh,Ki,Kj,Kk,Kl,Km,↓reduceIte,Kn,Ko,Kp,Kq,Kr,Ks,Kt,Ku,Kv,Kw,Kx,Ky,Kz,Wa,Wb,Wc,Wd,We,Wf,Wg,Wh,Wi,Wj,Wk,Wl,Wm,Wn,Wo,Wp,Wq,Wr,Ws,Wt,Wu,Wv,Ww,Wx,Wy,Wz,Ua,Ub,Uc,reduceCtorEq,Ud,Ue,Uf,Ug,Uh,Ui,Uj,Uk,Ul,Um,Un]))
    · rename_i h; exact absurd h hp
    · rw [← hr, right_end hp]
end Go.Fw.L07
