/- Chapter 7, part 13: the laws on roots and finds. -/
import Derived.Test.YtnampnnphgedhaaDoorL07N
set_option linter.all false
namespace Go.Fw.L07
open Go Go.Fw
open Go.Fw renaming vc1 → Qa, VO_nil → Qb, VO_op → Qc, nilD → Qd, evO → Qe, getV → Qf, setV → Qg, putV → Qh, getC → Qi, setC → Qj, solidAll → Qn, allD → Qo, layF → Qp, layE → Qq, zList → Qr, mkV → Qs, binD → Qx, binI → Qy, binS → Qz, binB → Za, isSh → Zb, eqV → Zc, eqLs → Zd, eqL → Ze, lendL → Zf, lendV → Zg, lendA → Zh, lendAs → Zi, CallW → Zj, renL → Zk, renV → Zl, renA → Zm, renAs → Zn, backV → Zo, back1 → Zp, backA → Zq, frzS → Zu, subT → Zv, subV → Zw, subA → Zx, sub0 → Zy, subC → Zz, WeakF → Xa, ltAll → Xb, clov → Xi, capsD → Xj, capsA → Xk, mvv → Xm, ifv → Xn, calleeV → Xo, boundV → Xp, fr → Xq, setPs → Xr, exitK → Xs, retK → Xt, FinS → Xu, resVs → Xv, resL → Xw, resV → Xx
open Go.Fw.V renaming ok → Qk, cells → Qm, nrm → Qt, nrm2 → Qu, refs0 → Zt, data → Xc, scal → Xe, scal1 → Xf, refsT → Xy, refs → Xz
open Go.Fw.A renaming solid → Ql, nrm → Qv, ofZ → Qw, data → Xd, scal → Xg, low → Xl, refs → Ja, refs0 → Jb
open Go.Fw.Ch renaming live → Zr, refs → Zs
open Go.Fw.D renaming scal → Xh
open List renaming map → Jc, length_nil → Jd, length_cons → Je, length_map → Jf, nil_append → Jg, cons_append → Jh, append_nil → Ji, take_succ_cons → Jj, take_zero → Jk, take_nil → Jl, drop_succ_cons → Jm, drop_zero → Jn, drop_nil → Jo, set_cons_zero → Jp, set_cons_succ → Jq, all_cons → Jr, all_nil → Js, flatMap_nil → Jt, flatMap_cons → Ju, replicate_succ → Jv, replicate_zero → Jw, getElem?_cons_zero → Jx, getElem?_cons_succ → Jy, isEmpty_nil → Ud, isEmpty_cons → Ue
open Go.Fw.Sq renaming true_and → Jz, and_true → Ka, and_false → Kb, false_and → Kc, or_true → Kd, true_or → Ke, false_or → Kf, or_false → Kg, and_self → Kh, not_true_eq_false → Ki, not_false_eq_true → Kj, ne_eq → Kk, if_true → Kl, if_false → Km, false_implies → Kz, implies_true → Wa, forall_const → Wb, true_implies → Wc, and_imp → Uk, eq_self → Ul, decide_true → Um, decide_false → Un, or_self → Uo, decide_eq_true_eq → Uy, decide_eq_false_iff_not → Uz
open Bool renaming false_eq_true → Kn, true_eq_false → Ko, not_true → Kp, not_false → Kq, and_true → Kr, true_and → Ks, and_false → Kt, false_and → Ku, or_true → Kv, true_or → Kw, or_false → Kx, false_or → Ky
open Nat renaming reduceAdd → Wd, reduceSub → We, reduceMul → Wf, reduceLeDiff → Wg, reduceLT → Wh, reduceEqDiff → Wi, zero_add → Wx, add_zero → Wy, zero_mul → Wz, mul_one → Ua, one_mul → Ub, le_refl → Uc
open Int renaming toNat_natCast → Wj, cast_ofNat_Int → Wk, reduceToNat → Wl, reduceLT → Wm, reduceLE → Wn, reduceGT → Wo, reduceGE → Wp, reduceEq → Wq, reduceNe → Wr, reduceBEq → Ws, reduceBNe → Wt, reduceAdd → Wu, reduceSub → Wv, reduceNeg → Ww
open Option renaming isSome_none → Uf, isSome_some → Ug, getD_none → Uh, getD_some → Ui
open Option.some renaming injEq → Uj
open Go.Fw.V.one renaming injEq → Up
open Go.Fw.V.agg renaming injEq → Uq
open Go.Fw.V.tup renaming injEq → Ur
open Go.Fw.A.d renaming injEq → Us
open Go.Fw.D.bool renaming injEq → Ut
open Go.Fw.D.int renaming injEq → Uu
open Go.Fw.D.str renaming injEq → Uv
open Go.Fw.D.sl renaming injEq → Uw
open List.cons renaming injEq → Ux
set_option maxRecDepth 4000
variable {gp : Heap}

/-! ### What is wrong -/
theorem chk_ok {g : Gr} (h : chk g = none) : g.l.length ≤ 200 ∧ (0 ≤ g.root ∧ g.root < g.l.length) ∧ ∀ x ∈ g.l, nodeR rightS x g.l.length = true := by
  unfold chk checkR at h
  split at h
  · cases h
  · split at h
    · cases h
    · rename_i h1 h2
      refine ⟨by omega, Classical.not_not.1 h2, ?_⟩
      cases e : g.l.findIdx? fun x => !nodeR rightS x g.l.length with
      | none =>
        rw [List.findIdx?_eq_none_iff] at e
        intro x hx; simpa using e x hx
      | some i => rw [e] at h; cases h
theorem chk_of {g : Gr} (h1 : g.l.length ≤ 200) (h2 : 0 ≤ g.root ∧ g.root < g.l.length) (h3 : ∀ x ∈ g.l, nodeR rightS x g.l.length = true) : chk g = none := by
  unfold chk checkR
  rw [if_neg (by omega), if_neg (Classical.not_not.2 h2), List.findIdx?_eq_none_iff.2 fun x hx => by simp [h3 x hx]]
  rfl
theorem chk_bad {g : Gr} (h1 : g.l.length ≤ 200) (h2 : ¬ (0 ≤ g.root ∧ g.root < g.l.length)) : chk g = some (-1, 70) := by
  unfold chk checkR
  rw [if_neg (by omega), if_pos h2]
theorem chk_some {g : Gr} (h : chk g ≠ none) : ∃ a e, chk g = some (a, e) ∧ e ≠ 0 := by
  unfold chk checkR at h ⊢
  split
  · exact ⟨_, _, rfl, by decide⟩
  · split
    · exact ⟨_, _, rfl, by decide⟩
    · cases e : g.l.findIdx? fun x => !nodeR rightS x g.l.length with
      | none => rename_i h1 h2; rw [if_neg h1, if_neg h2, e] at h; exact absurd rfl h
      | some i => exact ⟨_, _, rfl, by decide⟩

theorem arena_roots (h : Env gp) (g : Gr) (root : Int) : Does Go.Proofs.Tryd.prog gp 7 [g.v, vi root] (vb true) := by
  refine f7_in ?_
  simp only [Qa,Qb,Qc,Qd,Qe,Qf,Qg,Qh,Qi,Qj,Qk,Ql,Qm,Qn,Qo,Qp,Qq,Qr,Qs,Qt,Qu,Qv,Qw,Qx,Qy,Qz,Za,Zb,Zc,Zd,Ze,Zf,Zg,Zh,Zi,Zj,Zk,Zl,Zm,Zn,Zo,Zp,Zq,Zr,Zs,Zt,Zu,Zv,Zw,Zx,Zy,Zz,Xa,Xb,Xc,Xd,Xe,Xf,Xg,Xh,Xi,Xj,Xk,Xl,Xm,Xn,Xo,Xp,Xq,Xr,Xs,Xt,Xu,Xv,Xw,Xx,Xy,Xz,Ja,Jb,Jc,Jd,Je,Jf,Jg,Jh,Ji,Jj,Jk,Jl,Jm,Jn,Jo,Jp,Jq,Jr,Js,Jt,Ju,Jv,Jw,Jx,Jy,Jz,Ka,Kb,Kc,Kd,Ke,Kf,Kg,Kh,Ki,Kj,Kk,Kl,Km,↓reduceIte,Kn,Ko,Kp,Kq,Kr,Ks,Kt,Ku,Kv,Kw,Kx,Ky,Kz,Wa,Wb,Wc,Wd,We,Wf,Wg,Wh,Wi,Wj,Wk,Wl,Wm,Wn,Wo,Wp,Wq,Wr,Ws,Wt,Wu,Wv,Ww,Wx,Wy,Wz,Ua,Ub,Uc,reduceCtorEq,Ud,Ue,Uf,Ug,Uh,Ui,Uj,Uk,Ul,Um,Un]
  have c1 := chk_gr h g.cut
  have c2 := chk_gr h ⟨root, g.cut.l⟩
  by_cases hc : chk g.cut = none
  · obtain ⟨h1, h2, h3⟩ := chk_ok hc
    rw [hc] at c1
    by_cases hr : 0 ≤ root ∧ root < g.cut.l.length
    · rw [show chk ⟨root, g.cut.l⟩ = none from chk_of h1 hr h3] at c2
      repeat' (first | refine G_seq ?_ | refine G_skip ?_ | refine G_scope ?_ | refine G_blk ?_ | refine G_blk_end ?_ | ((first | refine G_reg ?_ | refine VO_chk ?_); simp only [f7_r0,f7_r1,f7_r2,f7_r3,f7_r4,f7_r5,f7_r6,f7_r12,f7_r13,f7_r19,Qa,Qb,Qc,Qd,Qe,Qf,Qg,Qh,Qi,Qj,Qk,Ql,Qm,Qn,Qo,Qp,Qq,Qr,Qs,Qt,Qu,Qv,Qw,Qx,Qy,Qz,Za,Zb,Zc,Zd,Ze,Zf,Zg,Zh,Zi,Zj,Zk,Zl,Zm,Zn,Zo,Zp,Zq,Zr,Zs,Zt,Zu,Zv,Zw,Zx,Zy,Zz,Xa,Xb,Xc,Xd,Xe,Xf,Xg,Xh,Xi,Xj,Xk,Xl,Xm,Xn,Xo,Xp,Xq,Xr,Xs,Xt,Xu,Xv,Xw,Xx,Xy,Xz,Ja,Jb,Jc,Jd,Je,Jf,Jg,Jh,Ji,Jj,Jk,Jl,Jm,Jn,Jo,Jp,Jq,Jr,Js,Jt,Ju,Jv,Jw,Jx,Jy,Jz,Ka,Kb,Kc,Kd,Ke,Kf,Kg,Kh,Ki,Kj,Kk,Kl,Km,↓reduceIte,Kn,Ko,Kp,Kq,Kr,Ks,Kt,Ku,Kv,Kw,Kx,Ky,Kz,Wa,Wb,Wc,Wd,We,Wf,Wg,Wh,Wi,Wj,Wk,Wl,Wm,Wn,Wo,Wp,Wq,Wr,Ws,Wt,Wu,Wv,Ww,Wx,Wy,Wz,Ua,Ub,Uc,reduceCtorEq,Ud,Ue,Uf,Ug,Uh,Ui,Uj,Uk,Ul,Um,Un]) | (refine G_cond ?_; simp only [f7_r0,f7_r1,f7_r2,f7_r3,f7_r4,f7_r5,f7_r6,f7_r12,f7_r13,f7_r19,Uy,Uz,Qa,Qb,Qc,Qd,Qe,Qf,Qg,Qh,Qi,Qj,Qk,Ql,Qm,Qn,Qo,Qp,Qq,Qr,Qs,Qt,Qu,Qv,Qw,Qx,Qy,Qz,Za,Zb,Zc,Zd,Ze,Zf,Zg,Zh,Zi,Zj,Zk,Zl,Zm,Zn,Zo,Zp,Zq,Zr,Zs,Zt,Zu,Zv,Zw,Zx,Zy,Zz,Xa,Xb,Xc,Xd,Xe,Xf,Xg,Xh,Xi,Xj,Xk,Xl,Xm,Xn,Xo,Xp,Xq,Xr,Xs,Xt,Xu,Xv,Xw,Xx,Xy,Xz,Ja,Jb,Jc,Jd,Je,Jf,Jg,Jh,Ji,Jj,Jk,Jl,Jm,Jn,Jo,Jp,Jq,Jr,Js,Jt,Ju,Jv,Jw,Jx,Jy,Jz,Ka,Kb,Kc,Kd,Ke,Kf,Kg,Kh,Ki,Kj,Kk,Kl,Km,↓reduceIte,Kn,Ko,Kp,Kq,Kr,Ks,Kt,Ku,Kv,Kw,Kx,Ky,Kz,Wa,Wb,Wc,Wd,We,Wf,Wg,Wh,Wi,Wj,Wk,Wl,Wm,Wn,Wo,Wp,Wq,Wr,Ws,Wt,Wu,Wv,Ww,Wx,Wy,Wz,Ua,Ub,Uc,reduceCtorEq,Ud,Ue,Uf,Ug,Uh,Ui,Uj,Uk,Ul,Um,Un]; first | refine ⟨fun _ => ?_, fun _ => ?_⟩ | skip) | refine G_exit rfl ?_ | refine And.intro (fun _ => ?_) (fun _ => ?_) | ((first | refine Sh.intro ?_ | refine ⟨_, shown_ok h, Sh.intro ?_⟩ | refine ⟨_, ⟨shown_ok h, rfl⟩, Sh.intro ?_⟩ | refine ⟨_, cut_gr g, Sh.intro ?_⟩ | refine ⟨_, ⟨cut_gr g, rfl⟩, Sh.intro ?_⟩ | refine ⟨_, c1, Sh.intro ?_⟩ | refine ⟨_, ⟨c1, rfl⟩, Sh.intro ?_⟩ | refine ⟨_, c2, Sh.intro ?_⟩ | refine ⟨_, ⟨c2, rfl⟩, Sh.intro ?_⟩); try simp only [f7_r0,f7_r1,f7_r2,f7_r3,f7_r4,f7_r5,f7_r6,f7_r12,f7_r13,f7_r19,Qa,Qb,Qc,Qd,Qe,Qf,Qg,Qh,Qi,Qj,Qk,Ql,Qm,Qn,Qo,Qp,Qq,Qr,Qs,Qt,Qu,Qv,Qw,Qx,Qy,Qz,Za,Zb,Zc,Zd,Ze,Zf,Zg,Zh,Zi,Zj,Zk,Zl,Zm,Zn,Zo,Zp,Zq,Zr,Zs,Zt,Zu,Zv,Zw,Zx,Zy,Zz,Xa,Xb,Xc,Xd,Xe,Xf,Xg,Xh,Xi,Xj,Xk,Xl,Xm,Xn,Xo,Xp,Xq,Xr,Xs,Xt,Xu,Xv,Xw,Xx,Xy,Xz,Ja,Jb,Jc,Jd,Je,Jf,Jg,Jh,Ji,Jj,Jk,Jl,Jm,Jn,Jo,Jp,Jq,Jr,Js,Jt,Ju,Jv,Jw,Jx,Jy,Jz,Ka,Kb,Kc,Kd,Ke,Kf,Kg,Kh,Ki,Kj,Kk,Kl,Km,↓reduceIte,Kn,Ko,Kp,Kq,Kr,Ks,Kt,Ku,Kv,Kw,Kx,Ky,Kz,Wa,Wb,Wc,Wd,We,Wf,Wg,Wh,Wi,Wj,Wk,Wl,Wm,Wn,Wo,Wp,Wq,Wr,Ws,Wt,Wu,Wv,Ww,Wx,Wy,Wz,Ua,Ub,Uc,reduceCtorEq,Ud,Ue,Uf,Ug,Uh,Ui,Uj,Uk,Ul,Um,Un]) | ((first | refine G_fin ?_ | refine G_ret rfl ?_); simp only [f7_r0,f7_r1,f7_r2,f7_r3,f7_r4,f7_r5,f7_r6,f7_r12,f7_r13,f7_r19,Uo,Up,Uq,Ur,Us,Ut,Uu,Uv,Uw,Ux,Qa,Qb,Qc,Qd,Qe,Qf,Qg,Qh,Qi,Qj,Qk,Ql,Qm,Qn,Qo,Qp,Qq,Qr,Qs,Qt,Qu,Qv,Qw,Qx,Qy,Qz,Za,Zb,Zc,Zd,Ze,Zf,Zg,Zh,Zi,Zj,Zk,Zl,Zm,Zn,Zo,Zp,Zq,Zr,Zs,Zt,Zu,Zv,Zw,Zx,Zy,Zz,Xa,Xb,Xc,Xd,Xe,Xf,Xg,Xh,Xi,Xj,Xk,Xl,Xm,Xn,Xo,Xp,Xq,Xr,Xs,Xt,Xu,Xv,Xw,Xx,Xy,Xz,Ja,Jb,Jc,Jd,Je,Jf,Jg,Jh,Ji,Jj,Jk,Jl,Jm,Jn,Jo,Jp,Jq,Jr,Js,Jt,Ju,Jv,Jw,Jx,Jy,Jz,Ka,Kb,Kc,Kd,Ke,Kf,Kg,Kh,Ki,Kj,Kk,Kl,Km,↓reduceIte,Kn,Ko,Kp,Kq,Kr,Ks,Kt,Ku,Kv,Kw,Kx,Ky,Kz,Wa,Wb,Wc,Wd,We,Wf,Wg,Wh,Wi,Wj,Wk,Wl,Wm,Wn,Wo,Wp,Wq,Wr,Ws,Wt,Wu,Wv,Ww,Wx,Wy,Wz,Ua,Ub,Uc,reduceCtorEq,Ud,Ue,Uf,Ug,Uh,Ui,Uj,Uk,Ul,Um,Un]))
      all_goals (exfalso; simp only [decide_eq_true_eq, decide_eq_false_iff_not] at *; omega)
    · rw [show chk ⟨root, g.cut.l⟩ = some (-1, 70) from chk_bad h1 hr] at c2
      repeat' (first | refine G_seq ?_ | refine G_skip ?_ | refine G_scope ?_ | refine G_blk ?_ | refine G_blk_end ?_ | ((first | refine G_reg ?_ | refine VO_chk ?_); simp only [f7_r0,f7_r1,f7_r2,f7_r3,f7_r4,f7_r5,f7_r6,f7_r12,f7_r13,f7_r19,Qa,Qb,Qc,Qd,Qe,Qf,Qg,Qh,Qi,Qj,Qk,Ql,Qm,Qn,Qo,Qp,Qq,Qr,Qs,Qt,Qu,Qv,Qw,Qx,Qy,Qz,Za,Zb,Zc,Zd,Ze,Zf,Zg,Zh,Zi,Zj,Zk,Zl,Zm,Zn,Zo,Zp,Zq,Zr,Zs,Zt,Zu,Zv,Zw,Zx,Zy,Zz,Xa,Xb,Xc,Xd,Xe,Xf,Xg,Xh,Xi,Xj,Xk,Xl,Xm,Xn,Xo,Xp,Xq,Xr,Xs,Xt,Xu,Xv,Xw,Xx,Xy,Xz,Ja,Jb,Jc,Jd,Je,Jf,Jg,Jh,Ji,Jj,Jk,Jl,Jm,Jn,Jo,Jp,Jq,Jr,Js,Jt,Ju,Jv,Jw,Jx,Jy,Jz,Ka,Kb,Kc,Kd,Ke,Kf,Kg,Kh,Ki,Kj,Kk,Kl,Km,↓reduceIte,Kn,Ko,Kp,Kq,Kr,Ks,Kt,Ku,Kv,Kw,Kx,Ky,Kz,Wa,Wb,Wc,Wd,We,Wf,Wg,Wh,Wi,Wj,Wk,Wl,Wm,Wn,Wo,Wp,Wq,Wr,Ws,Wt,Wu,Wv,Ww,Wx,Wy,Wz,Ua,Ub,Uc,reduceCtorEq,Ud,Ue,Uf,Ug,Uh,Ui,Uj,Uk,Ul,Um,Un]) | (refine G_cond ?_; simp only [f7_r0,f7_r1,f7_r2,f7_r3,f7_r4,f7_r5,f7_r6,f7_r12,f7_r13,f7_r19,Uy,Uz,Qa,Qb,Qc,Qd,Qe,Qf,Qg,Qh,Qi,Qj,Qk,Ql,Qm,Qn,Qo,Qp,Qq,Qr,Qs,Qt,Qu,Qv,Qw,Qx,Qy,Qz,Za,Zb,Zc,Zd,Ze,Zf,Zg,Zh,Zi,Zj,Zk,Zl,Zm,Zn,Zo,Zp,Zq,Zr,Zs,Zt,Zu,Zv,Zw,Zx,Zy,Zz,Xa,Xb,Xc,Xd,Xe,Xf,Xg,Xh,Xi,Xj,Xk,Xl,Xm,Xn,Xo,Xp,Xq,Xr,Xs,Xt,Xu,Xv,Xw,Xx,Xy,Xz,Ja,Jb,Jc,Jd,Je,Jf,Jg,Jh,Ji,Jj,Jk,Jl,Jm,Jn,Jo,Jp,Jq,Jr,Js,Jt,Ju,Jv,Jw,Jx,Jy,Jz,Ka,Kb,Kc,Kd,Ke,Kf,Kg,Kh,Ki,Kj,Kk,Kl,Km,↓reduceIte,Kn,Ko,Kp,Kq,Kr,Ks,Kt,Ku,Kv,Kw,Kx,Ky,Kz,Wa,Wb,Wc,Wd,We,Wf,Wg,Wh,Wi,Wj,Wk,Wl,Wm,Wn,Wo,Wp,Wq,Wr,Ws,Wt,Wu,Wv,Ww,Wx,Wy,Wz,Ua,Ub,Uc,reduceCtorEq,Ud,Ue,Uf,Ug,Uh,Ui,Uj,Uk,Ul,Um,Un]; first | refine ⟨fun _ => ?_, fun _ => ?_⟩ | skip) | refine G_exit rfl ?_ | refine And.intro (fun _ => ?_) (fun _ => ?_) | ((first | refine Sh.intro ?_ | refine ⟨_, shown_ok h, Sh.intro ?_⟩ | refine ⟨_, ⟨shown_ok h, rfl⟩, Sh.intro ?_⟩ | refine ⟨_, cut_gr g, Sh.intro ?_⟩ | refine ⟨_, ⟨cut_gr g, rfl⟩, Sh.intro ?_⟩ | refine ⟨_, c1, Sh.intro ?_⟩ | refine ⟨_, ⟨c1, rfl⟩, Sh.intro ?_⟩ | refine ⟨_, c2, Sh.intro ?_⟩ | refine ⟨_, ⟨c2, rfl⟩, Sh.intro ?_⟩); try simp only [f7_r0,f7_r1,f7_r2,f7_r3,f7_r4,f7_r5,f7_r6,f7_r12,f7_r13,f7_r19,Qa,Qb,Qc,Qd,Qe,Qf,Qg,Qh,Qi,Qj,Qk,Ql,Qm,Qn,Qo,Qp,Qq,Qr,Qs,Qt,Qu,Qv,Qw,Qx,Qy,Qz,Za,Zb,Zc,Zd,Ze,Zf,Zg,Zh,Zi,Zj,Zk,Zl,Zm,Zn,Zo,Zp,Zq,Zr,Zs,Zt,Zu,Zv,Zw,Zx,Zy,Zz,Xa,Xb,Xc,Xd,Xe,Xf,Xg,Xh,Xi,Xj,Xk,Xl,Xm,Xn,Xo,Xp,Xq,Xr,Xs,Xt,Xu,Xv,Xw,Xx,Xy,Xz,Ja,Jb,Jc,Jd,Je,Jf,Jg,Jh,Ji,Jj,Jk,Jl,Jm,Jn,Jo,Jp,Jq,Jr,Js,Jt,Ju,Jv,Jw,Jx,Jy,Jz,Ka,Kb,Kc,Kd,Ke,Kf,Kg,Kh,Ki,Kj,Kk,Kl,Km,↓reduceIte,Kn,Ko,Kp,Kq,Kr,Ks,Kt,Ku,Kv,Kw,Kx,Ky,Kz,Wa,Wb,Wc,Wd,We,Wf,Wg,Wh,Wi,Wj,Wk,Wl,Wm,Wn,Wo,Wp,Wq,Wr,Ws,Wt,Wu,Wv,Ww,Wx,Wy,Wz,Ua,Ub,Uc,reduceCtorEq,Ud,Ue,Uf,Ug,Uh,Ui,Uj,Uk,Ul,Um,Un]) | ((first | refine G_fin ?_ | refine G_ret rfl ?_); simp only [f7_r0,f7_r1,f7_r2,f7_r3,f7_r4,f7_r5,f7_r6,f7_r12,f7_r13,f7_r19,Uo,Up,Uq,Ur,Us,Ut,Uu,Uv,Uw,Ux,Qa,Qb,Qc,Qd,Qe,Qf,Qg,Qh,Qi,Qj,Qk,Ql,Qm,Qn,Qo,Qp,Qq,Qr,Qs,Qt,Qu,Qv,Qw,Qx,Qy,Qz,Za,Zb,Zc,Zd,Ze,Zf,Zg,Zh,Zi,Zj,Zk,Zl,Zm,Zn,Zo,Zp,Zq,Zr,Zs,Zt,Zu,Zv,Zw,Zx,Zy,Zz,Xa,Xb,Xc,Xd,Xe,Xf,Xg,Xh,Xi,Xj,Xk,Xl,Xm,Xn,Xo,Xp,Xq,Xr,Xs,Xt,Xu,Xv,Xw,Xx,Xy,Xz,Ja,Jb,Jc,Jd,Je,Jf,Jg,Jh,Ji,Jj,Jk,Jl,Jm,Jn,Jo,Jp,Jq,Jr,Js,Jt,Ju,Jv,Jw,Jx,Jy,Jz,Ka,Kb,Kc,Kd,Ke,Kf,Kg,Kh,Ki,Kj,Kk,Kl,Km,↓reduceIte,Kn,Ko,Kp,Kq,Kr,Ks,Kt,Ku,Kv,Kw,Kx,Ky,Kz,Wa,Wb,Wc,Wd,We,Wf,Wg,Wh,Wi,Wj,Wk,Wl,Wm,Wn,Wo,Wp,Wq,Wr,Ws,Wt,Wu,Wv,Ww,Wx,Wy,Wz,Ua,Ub,Uc,reduceCtorEq,Ud,Ue,Uf,Ug,Uh,Ui,Uj,Uk,Ul,Um,Un]))
      all_goals (exfalso; simp only [decide_eq_true_eq, decide_eq_false_iff_not] at *; omega)
  · obtain ⟨a, e, hs, he⟩ := chk_some hc
    rw [hs] at c1
    repeat' (first | refine G_seq ?_ | refine G_skip ?_ | refine G_scope ?_ | refine G_blk ?_ | refine G_blk_end ?_ | ((first | refine G_reg ?_ | refine VO_chk ?_); simp only [f7_r0,f7_r1,f7_r2,f7_r3,f7_r4,f7_r5,f7_r6,f7_r12,f7_r13,f7_r19,Qa,Qb,Qc,Qd,Qe,Qf,Qg,Qh,Qi,Qj,Qk,Ql,Qm,Qn,Qo,Qp,Qq,Qr,Qs,Qt,Qu,Qv,Qw,Qx,Qy,Qz,Za,Zb,Zc,Zd,Ze,Zf,Zg,Zh,Zi,Zj,Zk,Zl,Zm,Zn,Zo,Zp,Zq,Zr,Zs,Zt,Zu,Zv,Zw,Zx,Zy,Zz,Xa,Xb,Xc,Xd,Xe,Xf,Xg,Xh,Xi,Xj,Xk,Xl,Xm,Xn,Xo,Xp,Xq,Xr,Xs,Xt,Xu,Xv,Xw,Xx,Xy,Xz,Ja,Jb,Jc,Jd,Je,Jf,Jg,Jh,Ji,Jj,Jk,Jl,Jm,Jn,Jo,Jp,Jq,Jr,Js,Jt,Ju,Jv,Jw,Jx,Jy,Jz,Ka,Kb,Kc,Kd,Ke,Kf,Kg,Kh,Ki,Kj,Kk,Kl,Km,↓reduceIte,Kn,Ko,Kp,Kq,Kr,Ks,Kt,Ku,Kv,Kw,Kx,Ky,Kz,Wa,Wb,Wc,Wd,We,Wf,Wg,Wh,Wi,Wj,Wk,Wl,Wm,Wn,Wo,Wp,Wq,Wr,Ws,Wt,Wu,Wv,Ww,Wx,Wy,Wz,Ua,Ub,Uc,reduceCtorEq,Ud,Ue,Uf,Ug,Uh,Ui,Uj,Uk,Ul,Um,Un]) | (refine G_cond ?_; simp only [f7_r0,f7_r1,f7_r2,f7_r3,f7_r4,f7_r5,f7_r6,f7_r12,f7_r13,f7_r19,Uy,Uz,Qa,Qb,Qc,Qd,Qe,Qf,Qg,Qh,Qi,Qj,Qk,Ql,Qm,Qn,Qo,Qp,Qq,Qr,Qs,Qt,Qu,Qv,Qw,Qx,Qy,Qz,Za,Zb,Zc,Zd,Ze,Zf,Zg,Zh,Zi,Zj,Zk,Zl,Zm,Zn,Zo,Zp,Zq,Zr,Zs,Zt,Zu,Zv,Zw,Zx,Zy,Zz,Xa,Xb,Xc,Xd,Xe,Xf,Xg,Xh,Xi,Xj,Xk,Xl,Xm,Xn,Xo,Xp,Xq,Xr,Xs,Xt,Xu,Xv,Xw,Xx,Xy,Xz,Ja,Jb,Jc,Jd,Je,Jf,Jg,Jh,Ji,Jj,Jk,Jl,Jm,Jn,Jo,Jp,Jq,Jr,Js,Jt,Ju,Jv,Jw,Jx,Jy,Jz,Ka,Kb,Kc,Kd,Ke,Kf,Kg,Kh,Ki,Kj,Kk,Kl,Km,↓reduceIte,Kn,Ko,Kp,Kq,Kr,Ks,Kt,Ku,Kv,Kw,Kx,Ky,Kz,Wa,Wb,Wc,Wd,We,Wf,Wg,Wh,Wi,Wj,Wk,Wl,Wm,Wn,Wo,Wp,Wq,Wr,Ws,Wt,Wu,Wv,Ww,Wx,Wy,Wz,Ua,Ub,Uc,reduceCtorEq,Ud,Ue,Uf,Ug,Uh,Ui,Uj,Uk,Ul,Um,Un]; first | refine ⟨fun _ => ?_, fun _ => ?_⟩ | skip) | refine G_exit rfl ?_ | refine And.intro (fun _ => ?_) (fun _ => ?_) | ((first | refine Sh.intro ?_ | refine ⟨_, shown_ok h, Sh.intro ?_⟩ | refine ⟨_, ⟨shown_ok h, rfl⟩, Sh.intro ?_⟩ | refine ⟨_, cut_gr g, Sh.intro ?_⟩ | refine ⟨_, ⟨cut_gr g, rfl⟩, Sh.intro ?_⟩ | refine ⟨_, c1, Sh.intro ?_⟩ | refine ⟨_, ⟨c1, rfl⟩, Sh.intro ?_⟩ | refine ⟨_, c2, Sh.intro ?_⟩ | refine ⟨_, ⟨c2, rfl⟩, Sh.intro ?_⟩); try simp only [f7_r0,f7_r1,f7_r2,f7_r3,f7_r4,f7_r5,f7_r6,f7_r12,f7_r13,f7_r19,Qa,Qb,Qc,Qd,Qe,Qf,Qg,Qh,Qi,Qj,Qk,Ql,Qm,Qn,Qo,Qp,Qq,Qr,Qs,Qt,Qu,Qv,Qw,Qx,Qy,Qz,Za,Zb,Zc,Zd,Ze,Zf,Zg,Zh,Zi,Zj,Zk,Zl,Zm,Zn,Zo,Zp,Zq,Zr,Zs,Zt,Zu,Zv,Zw,Zx,Zy,Zz,Xa,Xb,Xc,Xd,Xe,Xf,Xg,Xh,Xi,Xj,Xk,Xl,Xm,Xn,Xo,Xp,Xq,Xr,Xs,Xt,Xu,Xv,Xw,Xx,Xy,Xz,Ja,Jb,Jc,Jd,Je,Jf,Jg,Jh,Ji,Jj,Jk,Jl,Jm,Jn,Jo,Jp,Jq,Jr,Js,Jt,Ju,Jv,Jw,Jx,Jy,Jz,Ka,Kb,Kc,Kd,Ke,Kf,Kg,Kh,Ki,Kj,Kk,Kl,Km,↓reduceIte,Kn,Ko,Kp,Kq,Kr,Ks,Kt,Ku,Kv,Kw,Kx,Ky,Kz,Wa,Wb,Wc,Wd,We,Wf,Wg,Wh,Wi,Wj,Wk,Wl,Wm,Wn,Wo,Wp,Wq,Wr,Ws,Wt,Wu,Wv,Ww,Wx,Wy,Wz,Ua,Ub,Uc,reduceCtorEq,Ud,Ue,Uf,Ug,Uh,Ui,Uj,Uk,Ul,Um,Un]) | ((first | refine G_fin ?_ | refine G_ret rfl ?_); simp only [f7_r0,f7_r1,f7_r2,f7_r3,f7_r4,f7_r5,f7_r6,f7_r12,f7_r13,f7_r19,Uo,Up,Uq,Ur,Us,Ut,Uu,Uv,Uw,Ux,Qa,Qb,Qc,Qd,Qe,Qf,Qg,Qh,Qi,Qj,Qk,Ql,Qm,Qn,Qo,Qp,Qq,Qr,Qs,Qt,Qu,Qv,Qw,Qx,Qy,Qz,Za,Zb,Zc,Zd,Ze,Zf,Zg,Zh,Zi,Zj,Zk,Zl,Zm,Zn,Zo,Zp,Zq,Zr,Zs,Zt,Zu,Zv,Zw,Zx,Zy,Zz,Xa,Xb,Xc,Xd,Xe,Xf,Xg,Xh,Xi,Xj,Xk,Xl,Xm,Xn,Xo,Xp,Xq,Xr,Xs,Xt,Xu,Xv,Xw,Xx,Xy,Xz,Ja,Jb,Jc,Jd,Je,Jf,Jg,Jh,Ji,Jj,Jk,Jl,Jm,Jn,Jo,Jp,Jq,Jr,Js,Jt,Ju,Jv,Jw,Jx,Jy,Jz,Ka,Kb,Kc,Kd,Ke,Kf,Kg,Kh,Ki,Kj,Kk,Kl,Km,↓reduceIte,Kn,Ko,Kp,Kq,Kr,Ks,Kt,Ku,Kv,Kw,Kx,Ky,Kz,Wa,Wb,Wc,Wd,We,Wf,Wg,Wh,Wi,Wj,Wk,Wl,Wm,Wn,Wo,Wp,Wq,Wr,Ws,Wt,Wu,Wv,Ww,Wx,Wy,Wz,Ua,Ub,Uc,reduceCtorEq,Ud,Ue,Uf,Ug,Uh,Ui,Uj,Uk,Ul,Um,Un]))
    all_goals (exfalso; simp_all)
end Go.Fw.L07
