/- Chapter 7, part 12: a graph that is known. -/
import Derived.Test.YtnampnnphgedhaaDoorL07M
set_option linter.all false
namespace Go.Fw.L07
open Go Go.Fw
open Go.Fw renaming vc1 → Qa, VO_nil → Qb, VO_op → Qc, nilD → Qd, evO → Qe, getV → Qf, setV → Qg, putV → Qh, getC → Qi, setC → Qj, solidAll → Qn, allD → Qo, layF → Qp, layE → Qq, zList → Qr, mkV → Qs, binD → Qx, binI → Qy, binS → Qz, binB → Za, isSh → Zb, eqV → Zc, eqLs → Zd, eqL → Ze, lendL → Zf, lendV → Zg, lendA → Zh, lendAs → Zi, CallW → Zj, renL → Zk, renV → Zl, renA → Zm, renAs → Zn, backV → Zo, back1 → Zp, backA → Zq, frzS → Zu, subT → Zv, subV → Zw, subA → Zx, sub0 → Zy, subC → Zz, WeakF → Xa, ltAll → Xb, clov → Xi, capsD → Xj, capsA → Xk, mvv → Xm, ifv → Xn, calleeV → Xo, boundV → Xp, fr → Xq, setPs → Xr, exitK → Xs, retK → Xt, FinS → Xu, resVs → Xv, resL → Xw, resV → Xx
open Go.Fw.V renaming ok → Qk, cells → Qm, nrm → Qt, nrm2 → Qu, refs0 → Zt, data → Xc, scal → Xe, scal1 → Xf, refsT → Xy, refs → Xz
open Go.Fw.A renaming solid → Ql, nrm → Qv, ofZ → Qw, data → Xd, scal → Xg, low → Xl, refs → Ja, refs0 → Jb
open Go.Fw.Ch renaming live → Zr, refs → Zs
open Go.Fw.D renaming scal → Xh
open List renaming map → Jc, length_nil → Jd, length_cons → Je, length_map → Jf, nil_append → Jg, cons_append → Jh, append_nil → Ji, take_succ_cons → Jj, take_zero → Jk, take_nil → Jl, drop_succ_cons → Jm, drop_zero → Jn, drop_nil → Jo, set_cons_zero → Jp, set_cons_succ → Jq, all_cons → Jr, all_nil → Js, flatMap_nil → Jt, flatMap_cons → Ju, replicate_succ → Jv, replicate_zero → Jw, getElem?_cons_zero → Jx, getElem?_cons_succ → Jy, isEmpty_nil → Ud, isEmpty_cons → Ue
open Go.Fw.Sq renaming true_and → Jz, and_true → Ka, and_false → Kb, false_and → Kc, or_true → Kd, true_or → Ke, false_or → Kf, or_false → Kg, and_self → Kh, not_true_eq_false → Ki, not_false_eq_true → Kj, ne_eq → Kk, if_true → Kl, if_false → Km, false_implies → Kz, implies_true → Wa, forall_const → Wb, true_implies → Wc, and_imp → Uk, eq_self → Ul, decide_true → Um, decide_false → Un, or_self → Uo, decide_eq_true_eq → Uy, decide_eq_false_iff_not → Uz
open Bool renaming false_eq_true → Kn, true_eq_false → Ko, not_true → Kp, not_false → Kq, and_true → Kr, true_and → Ks, and_false → Kt, false_and → Ku, or_true → Kv, true_or → Kw, or_false → Kx, false_or → Ky
open Nat renaming reduceAdd → Wd, reduceSub → We, reduceMul → Wf, reduceLeDiff → Wg, reduceLT → Wh, reduceEqDiff → Wi, zero_add → Wx, add_zero → Wy, zero_mul → Wz, mul_one → Ua, one_mul → Ub, le_refl → Uc
open Int renaming toNat_natCast → Wj, cast_ofNat_Int → Wk, reduceToNat → Wl, reduceLT → Wm, reduceLE → Wn, reduceGT → Wo, reduceGE → Wp, reduceEq → Wq, reduceNe → Wr, reduceBEq → Ws, reduceBNe → Wt, reduceAdd → Wu, reduceSub → Wv, reduceNeg → Ww
open Option renaming isSome_none → Uf, isSome_some → Ug, getD_none → Uh, getD_some → Ui
open Option.some renaming injEq → Uj
open Go.Fw.V.one renaming injEq → Up
open Go.Fw.V.agg renaming injEq → Uq
open Go.Fw.V.tup renaming injEq → Ur
open Go.Fw.A.d renaming injEq → Us
open Go.Fw.D.bool renaming injEq → Ut
open Go.Fw.D.int renaming injEq → Uu
open Go.Fw.D.str renaming injEq → Uv
open Go.Fw.D.sl renaming injEq → Uw
open List.cons renaming injEq → Ux
set_option maxRecDepth 4000
variable {gp : Heap}

structure Env (gp : Heap) : Prop where
  u : UtfOK gp
  e : ErrOK gp
abbrev chk (g : Gr) : Option (Int × Int) := checkR rightS g
theorem chk_gr (h : Env gp) (g : Gr) : Does Go.Proofs.Tryd.prog gp 10 [g.v] (.tup [vi ((chk g).getD (0, 0)).1, vi ((chk g).getD (0, 0)).2]) :=
  check_gr rightS (right_str h.u) (as_ok h.e) (by kernel_rfl) g
def g0 : Gr := ⟨0, [⟨2, ⟨0, 0, ⟨#[]⟩⟩, [⟨3, 0, ⟨#[98]⟩⟩, ⟨2, 2, ⟨#[]⟩⟩], [0, 1]⟩, ⟨0, ⟨2, 5, ⟨#[]⟩⟩, [], []⟩]⟩
def g1 : Gr := ⟨0, [⟨1, ⟨0, 0, ⟨#[]⟩⟩, [], [1]⟩]⟩
theorem g0_small : Small g0 := by
  intro x hx
  simp [g0] at hx
  rcases hx with rfl | rfl <;> simp
theorem chk_g0 : chk g0 = none := by kernel_rfl
theorem chk_g1 : chk g1 = some (0, 70) := by kernel_rfl
theorem kids_g0 : kidsOf (ndAt g0.l 0) = [1, 0] := by kernel_rfl
theorem keys_g0 : keysOf (ndAt g0.l 0) = [⟨2, 2, ⟨#[]⟩⟩, ⟨3, 0, ⟨#[98]⟩⟩] := by kernel_rfl
theorem find_g0 : findOf (ndAt g0.l 0) ⟨2, 2, ⟨#[]⟩⟩ = (1, true) := by kernel_rfl
theorem kids_g0' : kidsOf (ndAt g0.l 2) = [] := by kernel_rfl
theorem shown_ok (h : Env gp) : Does Go.Proofs.Tryd.prog gp 8 [] (vb true) := by
  have c1 := chk_gr h g0
  rw [chk_g0] at c1
  have c2 := kids (gp := gp) g0 0 g0_small
  rw [kids_g0, show atE g0.l 0 = 0 from rfl] at c2
  have c3 := keys (gp := gp) g0 0 g0_small
  rw [keys_g0, show atE g0.l 0 = 0 from rfl] at c3
  have c4 := find_key (gp := gp) g0 0 ⟨2, 2, ⟨#[]⟩⟩ g0_small
  rw [find_g0] at c4
  have c5 := chk_gr h g1
  rw [chk_g1] at c5
  have c6 := kids (gp := gp) g0 2 g0_small
  rw [kids_g0', show atE g0.l 2 = 2 from rfl] at c6
  have c7 := ints_eq (gp := gp) [1, 0] [1, 0]
  have c8 := same_gr (gp := gp) g0 g0
  simp only [decide_true] at c7 c8
  refine f8_in ?_
  simp only [Qa,Qb,Qc,Qd,Qe,Qf,Qg,Qh,Qi,Qj,Qk,Ql,Qm,Qn,Qo,Qp,Qq,Qr,Qs,Qt,Qu,Qv,Qw,Qx,Qy,Qz,Za,Zb,Zc,Zd,Ze,Zf,Zg,Zh,Zi,Zj,Zk,Zl,Zm,Zn,Zo,Zp,Zq,Zr,Zs,Zt,Zu,Zv,Zw,Zx,Zy,Zz,Xa,Xb,Xc,Xd,Xe,Xf,Xg,Xh,Xi,Xj,Xk,Xl,Xm,Xn,Xo,Xp,Xq,Xr,Xs,Xt,Xu,Xv,Xw,Xx,Xy,Xz,Ja,Jb,Jc,Jd,Je,Jf,Jg,Jh,Ji,Jj,Jk,Jl,Jm,Jn,Jo,Jp,Jq,Jr,Js,Jt,Ju,Jv,Jw,Jx,Jy,Jz,Ka,Kb,Kc,Kd,Ke,Kf,Kg,Kh,Ki,Kj,Kk,Kl,Km,↓reduceIte,Kn,Ko,Kp,Kq,Kr,Ks,Kt,Ku,Kv,Kw,Kx,Ky,Kz,Wa,Wb,Wc,Wd,We,Wf,Wg,Wh,Wi,Wj,Wk,Wl,Wm,Wn,Wo,Wp,Wq,Wr,Ws,Wt,Wu,Wv,Ww,Wx,Wy,Wz,Ua,Ub,Uc,reduceCtorEq,Ud,Ue,Uf,Ug,Uh,Ui,Uj,Uk,Ul,Um,Un]
  repeat' (first | refine G_seq ?_ | refine G_skip ?_ | refine G_scope ?_ | refine G_blk ?_ | refine G_blk_end ?_ | ((first | refine G_reg ?_ | refine VO_chk ?_); simp only [f8_r0,f8_r1,f8_r2,f8_r3,f8_r4,f8_r5,f8_r6,f8_r7,f8_r8,Qa,Qb,Qc,Qd,Qe,Qf,Qg,Qh,Qi,Qj,Qk,Ql,Qm,Qn,Qo,Qp,Qq,Qr,Qs,Qt,Qu,Qv,Qw,Qx,Qy,Qz,Za,Zb,Zc,Zd,Ze,Zf,Zg,Zh,Zi,Zj,Zk,Zl,Zm,Zn,Zo,Zp,Zq,Zr,Zs,Zt,Zu,Zv,Zw,Zx,Zy,Zz,Xa,Xb,Xc,Xd,Xe,Xf,Xg,Xh,Xi,Xj,Xk,Xl,Xm,Xn,Xo,Xp,Xq,Xr,Xs,Xt,Xu,Xv,Xw,Xx,Xy,Xz,Ja,Jb,Jc,Jd,Je,Jf,Jg,Jh,Ji,Jj,Jk,Jl,Jm,Jn,Jo,Jp,Jq,Jr,Js,Jt,Ju,Jv,Jw,Jx,Jy,Jz,Ka,Kb,Kc,Kd,Ke,Kf,Kg,Kh,Ki,Kj,Kk,Kl,Km,↓reduceIte,Kn,Ko,Kp,Kq,Kr,Ks,Kt,Ku,Kv,Kw,Kx,Ky,Kz,Wa,Wb,Wc,Wd,We,Wf,Wg,Wh,Wi,Wj,Wk,Wl,Wm,Wn,Wo,Wp,Wq,Wr,Ws,Wt,Wu,Wv,Ww,Wx,Wy,Wz,Ua,Ub,Uc,reduceCtorEq,Ud,Ue,Uf,Ug,Uh,Ui,Uj,Uk,Ul,Um,Un]) | (refine G_cond ?_; simp only [f8_r0,f8_r1,f8_r2,f8_r3,f8_r4,f8_r5,f8_r6,f8_r7,f8_r8,Uy,Uz,Qa,Qb,Qc,Qd,Qe,Qf,Qg,Qh,Qi,Qj,Qk,Ql,Qm,Qn,Qo,Qp,Qq,Qr,Qs,Qt,Qu,Qv,Qw,Qx,Qy,Qz,Za,Zb,Zc,Zd,Ze,Zf,Zg,Zh,Zi,Zj,Zk,Zl,Zm,Zn,Zo,Zp,Zq,Zr,Zs,Zt,Zu,Zv,Zw,Zx,Zy,Zz,Xa,Xb,Xc,Xd,Xe,Xf,Xg,Xh,Xi,Xj,Xk,Xl,Xm,Xn,Xo,Xp,Xq,Xr,Xs,Xt,Xu,Xv,Xw,Xx,Xy,Xz,Ja,Jb,Jc,Jd,Je,Jf,Jg,Jh,Ji,Jj,Jk,Jl,Jm,Jn,Jo,Jp,Jq,Jr,Js,Jt,Ju,Jv,Jw,Jx,Jy,Jz,Ka,Kb,Kc,Kd,Ke,Kf,Kg,Kh,Ki,Kj,Kk,Kl,Km,↓reduceIte,Kn,Ko,Kp,Kq,Kr,Ks,Kt,Ku,Kv,Kw,Kx,Ky,Kz,Wa,Wb,Wc,Wd,We,Wf,Wg,Wh,Wi,Wj,Wk,Wl,Wm,Wn,Wo,Wp,Wq,Wr,Ws,Wt,Wu,Wv,Ww,Wx,Wy,Wz,Ua,Ub,Uc,reduceCtorEq,Ud,Ue,Uf,Ug,Uh,Ui,Uj,Uk,Ul,Um,Un]; first | refine ⟨fun _ => ?_, fun _ => ?_⟩ | skip) | refine G_exit rfl ?_ | refine And.intro (fun _ => ?_) (fun _ => ?_) | ((first | refine Sh.intro ?_ | refine ⟨_, c1, Sh.intro ?_⟩ | refine ⟨_, ⟨c1, rfl⟩, Sh.intro ?_⟩ | refine ⟨_, c2, Sh.intro ?_⟩ | refine ⟨_, ⟨c2, rfl⟩, Sh.intro ?_⟩ | refine ⟨_, c3, Sh.intro ?_⟩ | refine ⟨_, ⟨c3, rfl⟩, Sh.intro ?_⟩ | refine ⟨_, c4, Sh.intro ?_⟩ | refine ⟨_, ⟨c4, rfl⟩, Sh.intro ?_⟩ | refine ⟨_, c5, Sh.intro ?_⟩ | refine ⟨_, ⟨c5, rfl⟩, Sh.intro ?_⟩ | refine ⟨_, c6, Sh.intro ?_⟩ | refine ⟨_, ⟨c6, rfl⟩, Sh.intro ?_⟩ | refine ⟨_, c7, Sh.intro ?_⟩ | refine ⟨_, ⟨c7, rfl⟩, Sh.intro ?_⟩ | refine ⟨_, c8, Sh.intro ?_⟩ | refine ⟨_, ⟨c8, rfl⟩, Sh.intro ?_⟩ | refine ⟨_, ⟨rfl, rfl⟩, Sh.intro ?_⟩); try simp only [f8_r0,f8_r1,f8_r2,f8_r3,f8_r4,f8_r5,f8_r6,f8_r7,f8_r8,Qa,Qb,Qc,Qd,Qe,Qf,Qg,Qh,Qi,Qj,Qk,Ql,Qm,Qn,Qo,Qp,Qq,Qr,Qs,Qt,Qu,Qv,Qw,Qx,Qy,Qz,Za,Zb,Zc,Zd,Ze,Zf,Zg,Zh,Zi,Zj,Zk,Zl,Zm,Zn,Zo,Zp,Zq,Zr,Zs,Zt,Zu,Zv,Zw,Zx,Zy,Zz,Xa,Xb,Xc,Xd,Xe,Xf,Xg,Xh,Xi,Xj,Xk,Xl,Xm,Xn,Xo,Xp,Xq,Xr,Xs,Xt,Xu,Xv,Xw,Xx,Xy,Xz,Ja,Jb,Jc,Jd,Je,Jf,Jg,Jh,Ji,Jj,Jk,Jl,Jm,Jn,Jo,Jp,Jq,Jr,Js,Jt,Ju,Jv,Jw,Jx,Jy,Jz,Ka,Kb,Kc,Kd,Ke,Kf,Kg,Kh,Ki,Kj,Kk,Kl,Km,↓reduceIte,Kn,Ko,Kp,Kq,Kr,Ks,Kt,Ku,Kv,Kw,Kx,Ky,Kz,Wa,Wb,Wc,Wd,We,Wf,Wg,Wh,Wi,Wj,Wk,Wl,Wm,Wn,Wo,Wp,Wq,Wr,Ws,Wt,Wu,Wv,Ww,Wx,Wy,Wz,Ua,Ub,Uc,reduceCtorEq,Ud,Ue,Uf,Ug,Uh,Ui,Uj,Uk,Ul,Um,Un]) | ((first | refine G_fin ?_ | refine G_ret rfl ?_); simp only [f8_r0,f8_r1,f8_r2,f8_r3,f8_r4,f8_r5,f8_r6,f8_r7,f8_r8,Uo,Up,Uq,Ur,Us,Ut,Uu,Uv,Uw,Ux,Qa,Qb,Qc,Qd,Qe,Qf,Qg,Qh,Qi,Qj,Qk,Ql,Qm,Qn,Qo,Qp,Qq,Qr,Qs,Qt,Qu,Qv,Qw,Qx,Qy,Qz,Za,Zb,Zc,Zd,Ze,Zf,Zg,Zh,Zi,Zj,Zk,Zl,Zm,Zn,Zo,Zp,Zq,Zr,Zs,Zt,Zu,Zv,Zw,Zx,Zy,Zz,Xa,Xb,Xc,Xd,Xe,Xf,Xg,Xh,Xi,Xj,Xk,Xl,Xm,Xn,Xo,Xp,Xq,Xr,Xs,Xt,Xu,Xv,Xw,Xx,Xy,Xz,Ja,Jb,Jc,Jd,Je,Jf,Jg,Jh,Ji,Jj,Jk,Jl,Jm,Jn,Jo,Jp,Jq,Jr,Js,Jt,Ju,Jv,Jw,Jx,Jy,Jz,Ka,Kb,Kc,Kd,Ke,Kf,Kg,Kh,Ki,Kj,Kk,Kl,Km,↓reduceIte,Kn,Ko,Kp,Kq,Kr,Ks,Kt,Ku,Kv,Kw,Kx,Ky,Kz,Wa,Wb,Wc,Wd,We,Wf,Wg,Wh,Wi,Wj,Wk,Wl,Wm,Wn,Wo,Wp,Wq,Wr,Ws,Wt,Wu,Wv,Ww,Wx,Wy,Wz,Ua,Ub,Uc,reduceCtorEq,Ud,Ue,Uf,Ug,Uh,Ui,Uj,Uk,Ul,Um,Un]))
end Go.Fw.L07
