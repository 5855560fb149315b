/- Chapter 7: the row of ArenaRoots. -/
import Derived.Test.YtnampnnphgedhaaDoorL07R
import Derived.Test.YtnampnnphgedhaaDoorL07O
import Derived.Test.YtnampnnphgedhaaDoorFwZc
import Derived.Stop.Joined
set_option linter.all false
namespace Go.Fw.L07
open Go Go.Fw Go.Proofs Go.RowKit Go.Proofs.YtnampnnphgedhaaDoor
open Go.Fw renaming vc1 → Qa, VO_nil → Qb, VO_op → Qc, nilD → Qd, evO → Qe, getV → Qf, setV → Qg, putV → Qh, getC → Qi, setC → Qj, solidAll → Qn, allD → Qo, layF → Qp, layE → Qq, zList → Qr, mkV → Qs, binD → Qx, binI → Qy, binS → Qz, binB → Za, isSh → Zb, eqV → Zc, eqLs → Zd, eqL → Ze, lendL → Zf, lendV → Zg, lendA → Zh, lendAs → Zi, CallW → Zj, renL → Zk, renV → Zl, renA → Zm, renAs → Zn, backV → Zo, back1 → Zp, backA → Zq, frzS → Zu, subT → Zv, subV → Zw, subA → Zx, sub0 → Zy, subC → Zz, WeakF → Xa, ltAll → Xb, clov → Xi, capsD → Xj, capsA → Xk, mvv → Xm, ifv → Xn, calleeV → Xo, boundV → Xp, fr → Xq, setPs → Xr, exitK → Xs, retK → Xt, FinS → Xu, resVs → Xv, resL → Xw, resV → Xx
open Go.Fw.V renaming ok → Qk, cells → Qm, nrm → Qt, nrm2 → Qu, refs0 → Zt, data → Xc, scal → Xe, scal1 → Xf, refsT → Xy, refs → Xz
open Go.Fw.A renaming solid → Ql, nrm → Qv, ofZ → Qw, data → Xd, scal → Xg, low → Xl, refs → Ja, refs0 → Jb
open Go.Fw.Ch renaming live → Zr, refs → Zs
open Go.Fw.D renaming scal → Xh
open List renaming map → Jc, length_nil → Jd, length_cons → Je, length_map → Jf, nil_append → Jg, cons_append → Jh, append_nil → Ji, take_succ_cons → Jj, take_zero → Jk, take_nil → Jl, drop_succ_cons → Jm, drop_zero → Jn, drop_nil → Jo, set_cons_zero → Jp, set_cons_succ → Jq, all_cons → Jr, all_nil → Js, flatMap_nil → Jt, flatMap_cons → Ju, replicate_succ → Jv, replicate_zero → Jw, getElem?_cons_zero → Jx, getElem?_cons_succ → Jy, isEmpty_nil → Ud, isEmpty_cons → Ue
open Go.Fw.Sq renaming true_and → Jz, and_true → Ka, and_false → Kb, false_and → Kc, or_true → Kd, true_or → Ke, false_or → Kf, or_false → Kg, and_self → Kh, not_true_eq_false → Ki, not_false_eq_true → Kj, ne_eq → Kk, if_true → Kl, if_false → Km, false_implies → Kz, implies_true → Wa, forall_const → Wb, true_implies → Wc, and_imp → Uk, eq_self → Ul, decide_true → Um, decide_false → Un, or_self → Uo, decide_eq_true_eq → Uy, decide_eq_false_iff_not → Uz
open Bool renaming false_eq_true → Kn, true_eq_false → Ko, not_true → Kp, not_false → Kq, and_true → Kr, true_and → Ks, and_false → Kt, false_and → Ku, or_true → Kv, true_or → Kw, or_false → Kx, false_or → Ky
open Nat renaming reduceAdd → Wd, reduceSub → We, reduceMul → Wf, reduceLeDiff → Wg, reduceLT → Wh, reduceEqDiff → Wi, zero_add → Wx, add_zero → Wy, zero_mul → Wz, mul_one → Ua, one_mul → Ub, le_refl → Uc
open Int renaming toNat_natCast → Wj, cast_ofNat_Int → Wk, reduceToNat → Wl, reduceLT → Wm, reduceLE → Wn, reduceGT → Wo, reduceGE → Wp, reduceEq → Wq, reduceNe → Wr, reduceBEq → Ws, reduceBNe → Wt, reduceAdd → Wu, reduceSub → Wv, reduceNeg → Ww
open Option renaming isSome_none → Uf, isSome_some → Ug, getD_none → Uh, getD_some → Ui
open Option.some renaming injEq → Uj
open Go.Fw.V.one renaming injEq → Up
open Go.Fw.V.agg renaming injEq → Uq
open Go.Fw.V.tup renaming injEq → Ur
open Go.Fw.A.d renaming injEq → Us
open Go.Fw.D.bool renaming injEq → Ut
open Go.Fw.D.int renaming injEq → Uu
open Go.Fw.D.str renaming injEq → Uv
open Go.Fw.D.sl renaming injEq → Uw
open List.cons renaming injEq → Ux
set_option maxRecDepth 4000

set_option maxRecDepth 100000 in
theorem arenaRoots_lifted (os : Os) (started : os.Started) (H : Type) (enc : TypeId × Value → H) :
    ReturnsInHanded {} Tryd.checked os 7 .any (fun w args => (Rows.arenaRootsSpec.pre enc Tryd.prog Tryd.f7 [] false w args ∧ laidMetH Tryd.prog laidL w) ∧ sizedMet enc Tryd.prog Tryd.f7 (OpenSpec.ofChange Rows.arenaRootsSpec) false w args)
      (Rows.arenaRootsSpec.post enc Tryd.prog Tryd.f7 false true false false) := by
  refine row_true (C := Tryd.checked) (tb := 4) (X := fun w => laidMetH Tryd.prog laidL w) 8 (fun _ _ hh h => laidMetH.of_heap hh h) own started (by kernel_rfl) Tryd.func7
    (ChangeSpec.witness_at (enc := enc) (C := Tryd.checked) (os := os) (X := fun w _ => laidMetH Tryd.prog laidL w) false (laidWorld os) #[.agg #[.int .i64 0, .slice none 0 0], .int .i64 0] 8 (laidWorld_os os) (by kernel_rfl) (by kernel_rfl) (by kernel_rfl) (by kernel_rfl) (by kernel_rfl) (laidWorld_met os _))
    laidOut rfl (by kernel_rfl) bool_row (by kernel_rfl) (by kernel_rfl) (fun ds h => ?_) (fun W dss hL hsh => ?_)
  · match ds, h with
    | [_, _], _ => rfl
  · have hsh' : All2 (Shape Tryd.prog 9) [24, 3] dss := hsh
    obtain ⟨d1, d2, rfl, h1, h2⟩ := all2_two hsh'
    obtain ⟨g, rfl⟩ := gr_of h1
    obtain ⟨m, rfl⟩ := int_of h2
    exact arena_roots (env_of_laid hL) g m

theorem arenaRoots_holds : Rows.ArenaRootsSaid :=
  OpenClaim.holds_of_wide 7 Tryd.f7 rfl rfl rfl rfl rfl rfl rfl ⟨rfl, rfl, rfl, rfl, rfl⟩ rfl rfl rfl rfl rfl (by kernel_rfl) Tryd.func7 (by kernel_rfl)
    (of_decide_eq_true (by kernel_rfl)) (by unfold Func.isWrapper; rw [if_neg (of_decide_eq_false (by kernel_rfl))]; exact ⟨rfl, rfl⟩)
    (fun os started H enc _ => arenaRoots_lifted os started H enc)
end Go.Fw.L07
