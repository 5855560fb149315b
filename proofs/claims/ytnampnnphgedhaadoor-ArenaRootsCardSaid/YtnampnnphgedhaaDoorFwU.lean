/- The framework, part 21: what must be shown of a region, as a function that is worked out ('VO'); it is enough. -/
import Derived.Test.YtnampnnphgedhaaDoorFwT
set_option linter.all false
namespace Go.Fw
open Go

/-- A call, as far as it can be worked out. -/
def CallW (S : Sx) (f : FuncId) (args : List V) (own : List Ch) (v : V) : Prop := match lendL own args with
  | some l => Does S.P S.gp f l v ∧ (args.all V.data = true ∨ v.scal = true)
  | none => False
theorem CallW.to {S : Sx} {f : FuncId} {args : List V} {own : List Ch} {v : V} (h : CallW S f args own v) : CallV S f args own v := by
  unfold CallW at h
  split at h
  · rename_i l hl; exact ⟨l, hl, h⟩
  · exact h.elim

/-- A call that writes one own chunk, as far as it can be worked out. -/
def CallN (S : Sx) (f : FuncId) (args : List V) (own : List Ch) (j : Nat) (v0 : V) (c' : Ch) : Prop := match renL j args with
  | some l => (args.flatMap V.refs).contains j = true ∧ (args.flatMap V.refs0).contains j = true ∧ (getC own j).live = true ∧ (getC own j).refs = [] ∧ c'.refs = [] ∧ callable S.P f = true ∧ Tri S.P S.gp f l [getC own j] (fun r post => r = v0 ∧ post = [c'])
  | none => False
theorem CallN.to {S : Sx} {f : FuncId} {args : List V} {own : List Ch} {j : Nat} {v0 : V} {c' : Ch} (h : CallN S f args own j v0 c') : (args.flatMap V.refs0).contains j = true ∧ CallM S f args own j v0 c' := by
  unfold CallN at h
  split at h
  · rename_i l hl; exact ⟨h.2.1, l, hl, h.1, h.2.2⟩
  · exact h.elim

/-- What is shut until it is opened. -/
structure Sh (K : St → Prop) (s : St) : Prop where
  intro ::
  get : K s
def vc1 (S : Sx) (q : Bool) (K K2 : St → Prop) : MO → St → Prop
  | .chk t b d, s => (match getV s.fr t with
    | .one (.d (.bool c)) => (c = b → K ⟨setV s.fr t (.one (.d (.bool b))), s.own⟩) ∧ (c ≠ b → K2 ⟨putV (setV s.fr t (.one (.d (.bool (!b))))) d (.tup []), s.own⟩)
    | .tup [] => K2 ⟨putV s.fr d (.tup []), s.own⟩
    | _ => False)
  | .op d (.mv x), s => K ⟨putV s.fr d (evO s.fr x), s.own⟩
  | .op d (.pick c x y), s => (match evO s.fr c with
    | .one (.d (.bool b)) => K ⟨putV s.fr d (if b then evO s.fr x else evO s.fr y), s.own⟩
    | _ => False)
  | .op d (.alloc z), s => K ⟨putV s.fr d (.one (.ptr s.own.length 0)), s.own ++ [.cells (z.map A.ofZ)]⟩
  | .op d (.box x), s => (evO s.fr x).ok = true ∧ solidAll (evO s.fr x).cells = true ∧ K ⟨putV s.fr d (.one (.ptr s.own.length 0)), s.own ++ [.cells (evO s.fr x).cells]⟩
  | .op d (.ibox x), s => (evO s.fr x).ok = true ∧ (match allD (evO s.fr x).cells with
    | some ds => K ⟨putV s.fr d (.one (.d (.bx ds))), s.own⟩
    | none => False)
  | .op d (.build z ps), s => (ps.all fun p => (evO s.fr p.2.2).ok) = true ∧ (match layF (evO s.fr) (z.map A.ofZ) ps with
    | some cs => K ⟨putV s.fr d (.agg cs), s.own⟩
    | none => False)
  | .op d (.bslice sz z n ps), s => z.length = sz ∧ n * sz ≤ 16777216 ∧ 0 < sz ∧ (ps.all fun p => (evO s.fr p.2).ok) = true ∧ (match layE (evO s.fr) sz (zList z n) ps with
    | some xs => K ⟨putV s.fr d (.one (.d (.sl xs))), s.own⟩
    | none => False)
  | .op d (.bslO sz z n ps), s => z.length = sz ∧ n * sz ≤ 16777216 ∧ 0 < sz ∧ (ps.all fun p => (evO s.fr p.2).ok) = true ∧ (match layE (evO s.fr) sz (zList z n) ps with
    | some xs => K ⟨putV s.fr d (.one (.own s.own.length 0)), s.own ++ [.row sz 0 xs]⟩
    | none => False)
  | .op d (.load n ag x), s => (ag = true ∨ n = 1) ∧ (match evO s.fr x with
    | .one (.ptr i off) => (match getC s.own i with
      | .cells cs => off + n ≤ cs.length ∧ K ⟨putV s.fr d (mkV ag ((cs.drop off).take n)), s.own⟩
      | _ => False)
    | .one (.d (.bx cs)) => n ≤ cs.length ∧ K ⟨putV s.fr d (mkV ag ((cs.take n).map .d)), s.own⟩
    | .one (.rp i ver sz e off) => (match getC s.own i with
      | .row sz' ver' xs => sz' = sz ∧ ver' = ver ∧ ∃ x, (xs[e]? = some x ∧ off + n ≤ x.length) ∧ Sh K ⟨putV s.fr d (mkV ag (((x.drop off).take n).map .d)), s.own⟩
      | _ => False)
    | .one (.d (.raw (.pointer (some ⟨g, 0, none⟩)))) => ∃ cells T fz ds, (S.gp g = some (.cells cells T fz) ∧ dsOf cells.toList = some ds ∧ n ≤ ds.length) ∧ Sh K ⟨putV s.fr d (mkV ag ((ds.take n).map .d)), s.own⟩
    | _ => False)
  | .op d (.store n x y), s => (evO s.fr y).ok = true ∧ (evO s.fr y).cells.length = n ∧ (match evO s.fr x with
    | .one (.ptr i off) => (match getC s.own i with
      | .cells cs => off + n ≤ cs.length ∧ solidAll (evO s.fr y).cells = true ∧ K ⟨putV s.fr d .un, setC s.own i (.cells (cs.take off ++ (evO s.fr y).cells ++ cs.drop (off + n)))⟩
      | _ => False)
    | .one (.rp i ver sz e off) => (match getC s.own i with
      | .row sz' ver' xs => sz' = sz ∧ ver' = ver ∧ (match allD (evO s.fr y).cells with
        | some ds => ∃ x, (xs[e]? = some x ∧ off + n ≤ x.length) ∧ Sh K ⟨putV s.fr d .un, setC s.own i (.row sz ver (xs.set e (x.take off ++ ds ++ x.drop (off + n))))⟩
        | none => False)
      | _ => False)
    | _ => False)
  | .op d (.fad off x), s => (match evO s.fr x with
    | .one (.ptr i o) => K ⟨putV s.fr d (.one (.ptr i (o + off))), s.own⟩
    | .one (.d (.bx cs)) => K ⟨putV s.fr d (.one (.d (.bx (cs.drop off)))), s.own⟩
    | .one (.rp i ver sz e o) => K ⟨putV s.fr d (.one (.rp i ver sz e (o + off))), s.own⟩
    | _ => False)
  | .op d (.iad sz x i), s => (match evO s.fr x, evO s.fr i with
    | .one (.d (.sl xs)), .one (.d (.int _ n)) => ∃ cs, (0 ≤ n ∧ xs[n.toNat]? = some cs ∧ cs.length = sz) ∧ Sh K ⟨putV s.fr d (.one (.d (.bx cs))), s.own⟩
    | .one (.own j ver), .one (.d (.int _ n)) => (match getC s.own j with
      | .row sz' ver' xs => sz' = sz ∧ ver' = ver ∧ 0 ≤ n ∧ n.toNat < xs.length ∧ K ⟨putV s.fr d (.one (.rp j ver sz n.toNat 0)), s.own⟩
      | _ => False)
    | _, _ => False)
  | .op d (.iadA len sz x i), s => (match evO s.fr x, evO s.fr i with
    | .one (.ptr j off), .one (.d (.int _ n)) => ∃ m : Nat, (n = m ∧ m < len) ∧ Sh K ⟨putV s.fr d (.one (.ptr j (off + m * sz))), s.own⟩
    | .one (.d (.bx cs)), .one (.d (.int _ n)) => ∃ m : Nat, (n = m ∧ m < len) ∧ Sh K ⟨putV s.fr d (.one (.d (.bx (cs.drop (m * sz))))), s.own⟩
    | .one (.d (.raw (.pointer (some ⟨g, 0, none⟩)))), .one (.d (.int _ n)) => ∃ (m : Nat) (cells : Array Value) (T : TypeId) (fz : Nat × Nat) (ds : List D), (n = m ∧ m < len ∧ S.gp g = some (.cells cells T fz) ∧ dsOf cells.toList = some ds) ∧
        Sh K ⟨putV s.fr d (.one (.d (.bx (ds.drop (m * sz))))), s.own⟩
    | _, _ => False)
  | .op d (.idxS x i), s => (match evO s.fr x, evO s.fr i with
    | .one (.d (.str st)), .one (.d (.int _ n)) => ∃ (m : Nat) (b : UInt8), (n = m ∧ st[m]? = some b) ∧ Sh K ⟨putV s.fr d (.one (.d (.int .u8 b.toNat))), s.own⟩
    | _, _ => False)
  | .op d (.len kd x), s => (match kd, (evO s.fr x).nrm with
    | .s, .one (.d (.str st)) => K ⟨putV s.fr d (.one (.d (.int .i64 st.size))), s.own⟩
    | .i, .one (.d (.sl xs)) => K ⟨putV s.fr d (.one (.d (.int .i64 xs.length))), s.own⟩
    | .i, .one (.own j ver) => (match getC s.own j with
      | .row _ ver' xs => ver' = ver ∧ K ⟨putV s.fr d (.one (.d (.int .i64 xs.length))), s.own⟩
      | _ => False)
    | .b, .one (.own j 0) => (match getC s.own j with
      | .map es => K ⟨putV s.fr d (.one (.d (.int .i64 es.length))), s.own⟩
      | _ => False)
    | _, _ => False)
  | .op d (.app sz bytes x y), s => (match (evO s.fr y).nrm, evO s.fr x with
    | .one (.d (.sl ys)), .one .nil => (∀ p ∈ ys, p.length = sz) ∧ 0 < sz ∧ ys.length * bytes ≤ 140737488355328 ∧ ys.length < lenMax ∧ K ⟨putV s.fr d (.one (.own s.own.length 0)), s.own ++ [.row sz 0 ys]⟩
    | .one (.d (.sl ys)), .one (.own j ver) => (match getC s.own j with
      | .row sz' ver' xs => (∀ p ∈ ys, p.length = sz) ∧ sz' = sz ∧ ver' = ver ∧ (xs.length + ys.length) * bytes ≤ 140737488355328 ∧ xs.length + ys.length < lenMax ∧
          K ⟨putV s.fr d (.one (.own j (ver + 1))), setC s.own j (.row sz (ver + 1) (xs ++ ys))⟩
      | _ => False)
    | _, _ => False)
  | .op d (.min x y), s => (match evO s.fr x, evO s.fr y with
    | .one (.d (.int kk a)), .one (.d (.int _ b)) => K ⟨putV s.fr d (.one (.d (.int kk (if b < a then b else a)))), s.own⟩
    | _, _ => False)
  | .op d (.max x y), s => (match evO s.fr x, evO s.fr y with
    | .one (.d (.int kk a)), .one (.d (.int _ b)) => K ⟨putV s.fr d (.one (.d (.int kk (if a < b then b else a)))), s.own⟩
    | _, _ => False)
  | .op d (.bin kd o x y), s => (match binD kd o (evO s.fr x) (evO s.fr y) with
    | (c, v) => c ∧ K ⟨putV s.fr d (.one (.d v)), s.own⟩)
  | .op d (.eqs neg ks x y), s => (match evO s.fr x, evO s.fr y with
    | .agg a, .agg b => (match eqLs ks a b with
      | some e => K ⟨putV s.fr d (.one (.d (.bool (if neg then !e else e)))), s.own⟩
      | none => False)
    | _, _ => False)
  | .op d (.nilq kd neg x), s => (match nilD kd (evO s.fr x) with
    | some b => K ⟨putV s.fr d (.one (.d (.bool (if neg then !b else b)))), s.own⟩
    | none => False)
  | .op d (.not x), s => (match evO s.fr x with
    | .one (.d (.bool b)) => K ⟨putV s.fr d (.one (.d (.bool !b))), s.own⟩
    | _ => False)
  | .op d (.conv kk x), s => (match evO s.fr x with
    | .one (.d (.int _ n)) => inK kk n ∧ K ⟨putV s.fr d (.one (.d (.int kk n))), s.own⟩
    | _ => False)
  | .op d (.mkI t x), s => (match ifv t (evO s.fr x) with
    | some a => K ⟨putV s.fr d (.one a), s.own⟩
    | none => False)
  | .op d (.mkF f caps), s => (match clov f (caps.map (evO s.fr)) with
    | some a => K ⟨putV s.fr d (.one a), s.own⟩
    | none => False)
  | .op d (.mkMv f x), s => (match mvv f (evO s.fr x) with
    | some a => K ⟨putV s.fr d (.one a), s.own⟩
    | none => False)
  | .op d .mkM, s => K ⟨putV s.fr d (.one (.own s.own.length 0)), s.own ++ [.map []]⟩
  | .op d (.lkp ok z kag ks m kx), s => eqV kag ks (evO s.fr kx) (evO s.fr kx) ≠ none ∧ (match evO s.fr m with
    | .one (.own j 0) => (match getC s.own j with
      | .map es => ∃ e, (findV kag ks es (evO s.fr kx) = some e ∧ (e.getD z).ok = true) ∧ Sh K ⟨putV s.fr d (if ok then .tup [e.getD z, .one (.d (.bool e.isSome))] else e.getD z), s.own⟩
      | _ => False)
    | .one (.d (.raw (.map none))) => z.ok = true ∧ K ⟨putV s.fr d (if ok then .tup [z, .one (.d (.bool false))] else z), s.own⟩
    | _ => False)
  | .op d (.mupd kag ks m kx x), s => eqV kag ks (evO s.fr kx) (evO s.fr kx) ≠ none ∧ (evO s.fr kx).ok = true ∧ (evO s.fr x).ok = true ∧ (match evO s.fr m with
    | .one (.own j 0) => (match getC s.own j with
      | .map es => ∃ e, putM kag ks es (evO s.fr kx) (evO s.fr x) = some e ∧ Sh K ⟨putV s.fr d .un, setC s.own j (.map e)⟩
      | _ => False)
    | _ => False)
  | .op d (.mkS sz bytes z l), s => (match evO s.fr l with
    | .one (.d (.int _ n)) => 0 ≤ n ∧ 0 < sz ∧ z.length = sz ∧ n * bytes ≤ 140737488355328 ∧ n < lenMax ∧ K ⟨putV s.fr d (.one (.own s.own.length 0)), s.own ++ [.row sz 0 (List.replicate n.toNat z)]⟩
    | _ => False)
  | .op d (.slcS x lo hi), s => (match evO s.fr x with
    | .one (.d (.str st)) => ∃ l h : Nat, (boundV (evO s.fr) lo 0 l ∧ boundV (evO s.fr) hi st.size h ∧ l ≤ h ∧ h ≤ st.size) ∧ Sh K ⟨putV s.fr d (.one (.d (.str (st.extract l h)))), s.own⟩
    | _ => False)
  | .op d (.slc sz x lo hi), s => (match (evO s.fr x).nrm with
    | .one (.d (.sl xs)) => ∃ l h : Nat, (boundV (evO s.fr) lo 0 l ∧ boundV (evO s.fr) hi xs.length h ∧ l ≤ h ∧ h ≤ xs.length ∧ (∀ p ∈ xs, p.length = sz)) ∧ Sh K ⟨putV s.fr d (.one (.d (.sl ((xs.take h).drop l)))), s.own⟩
    | .one (.own j ver) => (match getC s.own j with
      | .row sz' ver' xs => q = false ∧ sz' = sz ∧ ver' = ver ∧ ∃ l h : Nat, (boundV (evO s.fr) lo 0 l ∧ boundV (evO s.fr) hi xs.length h ∧ l ≤ h ∧ h ≤ xs.length) ∧
          Sh K ⟨putV s.fr d (.one (.own j (ver + 1))), setC s.own j (.row sz (ver + 1) ((xs.take h).drop l))⟩
      | _ => False)
    | _ => False)
  | .op d (.ext x i), s => (match evO s.fr x with
    | .tup l => i < l.length ∧ K ⟨putV s.fr d (getV l i), s.own⟩
    | _ => False)
  | .op d (.rng x), s => (match evO s.fr x with
    | .one (.d (.str st)) => K ⟨putV s.fr d (.one (.own s.own.length 0)), s.own ++ [.siter st 0]⟩
    | _ => False)
  | .op d (.nxt x), s => (match evO s.fr x with
    | .one (.own j 0) => (match getC s.own j with
      | .siter st pos => (pos < st.size → Sh K ⟨putV s.fr d (.tup [.one (.d (.bool true)), .one (.d (.int .i64 pos)), .one (.d (.int .i32 (Utf8.decode st pos).1))]), setC s.own j (.siter st (pos + (Utf8.decode st pos).2))⟩) ∧
          (¬ pos < st.size → Sh K ⟨putV s.fr d (.tup [.one (.d (.bool false))]), s.own⟩)
      | _ => False)
    | _ => False)
  | .op d (.tas t ok z x), s => (match evO s.fr x with
    | .one (.d (.ifc t' ag cs)) => (t' = t → K ⟨putV s.fr d (if ok then .tup [mkV ag (cs.map .d), .one (.d (.bool true))] else mkV ag (cs.map .d)), s.own⟩) ∧
        (t' ≠ t → ok = true ∧ z.ok = true ∧ K ⟨putV s.fr d (.tup [z, .one (.d (.bool false))]), s.own⟩)
    | .one (.d .nilI) => ok = true ∧ z.ok = true ∧ K ⟨putV s.fr d (.tup [z, .one (.d (.bool false))]), s.own⟩
    | _ => False)
  | .op d (.call f args), s => (∃ v, CallW S f (args.map (evO s.fr)) s.own v ∧ Sh K ⟨putV s.fr d v, s.own⟩) ∨
      (((args.map (evO s.fr)).flatMap V.refs0).isEmpty = false ∧ q = false ∧ ∃ j v0 c', CallN S f (args.map (evO s.fr)) s.own j v0 c' ∧ Sh K ⟨putV s.fr d (backV j v0), setC s.own j c'⟩) ∨
      (((args.map (evO s.fr)).flatMap V.refs).isEmpty = false ∧ q = false ∧ ∃ v own1, s.own.length ≤ own1.length ∧ CallA S f (args.map (evO s.fr)) s.own v own1 ∧ Sh K ⟨putV s.fr d v, own1 ++ [.dead]⟩)
  | .op d (.callv g args), s => (match calleeV (evO s.fr g) (args.map (evO s.fr)) with
    | some (f, l) => (∃ v, CallW S f l s.own v ∧ Sh K ⟨putV s.fr d v, s.own⟩) ∨
        ((l.flatMap V.refs0).isEmpty = false ∧ q = false ∧ ∃ j v0 c', CallN S f l s.own j v0 c' ∧ Sh K ⟨putV s.fr d (backV j v0), setC s.own j c'⟩) ∨
        ((l.flatMap V.refs).isEmpty = false ∧ q = false ∧ ∃ v own1, s.own.length ≤ own1.length ∧ CallA S f l s.own v own1 ∧ Sh K ⟨putV s.fr d v, own1 ++ [.dead]⟩)
    | none => match evO s.fr g with
      | .one (.d (.raw (.func (.yield l) fs cs))) => fs = #[] ∧ cs = #[] ∧ q = false ∧ ∃ own1 b, s.own.length ≤ own1.length ∧ RoundOK S l (args.map (evO s.fr)) s.own own1 b ∧ Sh K ⟨putV s.fr d (.one (.d (.bool b))), own1 ++ [.dead]⟩
      | _ => False)

/-- What must be shown of a region's operations. -/
def VO (S : Sx) (q : Bool) (k : List MI) : List MO → St → Prop
  | [] => fun s => G S k s
  | x :: r => fun s => vc1 S q (VO S q k r) (match r with | _ :: r' => VO S q k r' | [] => fun _ => False) x s
theorem VO_nil (S : Sx) (q : Bool) (k : List MI) (s : St) : VO S q k [] s = G S k s := rfl
theorem VO_cons {S : Sx} {q : Bool} {k : List MI} (x : MO) (r : List MO) (s : St) : VO S q k (x :: r) s = vc1 S q (VO S q k r) (match r with | _ :: r' => VO S q k r' | [] => fun _ => False) x s := by
  cases r <;> rfl
theorem VO_op (S : Sx) (q : Bool) (k : List MI) (d : Option Nat) (o : MOp) (r : List MO) (s : St) : VO S q k (.op d o :: r) s = vc1 S q (VO S q k r) (fun _ => False) (.op d o) s := by
  rw [VO_cons]
  cases o <;> rfl
theorem VO_chk {S : Sx} {q : Bool} {k : List MI} {t : Nat} {b : Bool} {d : Option Nat} {x : MO} {r : List MO} {s : St} (h : vc1 S q (VO S q k (x :: r)) (VO S q k r) (.chk t b d) s) : VO S q k (.chk t b d :: x :: r) s := by
  rw [VO_cons]; exact h

section
variable {S : Sx} {q : Bool} {k : List MI}

theorem setV_same : ∀ (l : List V) (t : Nat) (v : V), getV l t = v → setV l t v = l
  | [], _, _, _ => rfl
  | _ :: _, 0, _, h => by simp [getV] at h; simp [setV, h]
  | _ :: l, t + 1, v, h => by simp [setV, setV_same l t v (by simpa [getV] using h)]

theorem vc_op {o : MOp} {d : Option Nat} {s : St} {K K2 : St → Prop} (h : vc1 S q K K2 (.op d o) s) :
    ∃ v own', Ev S o (evO s.fr) s.own v own' ∧ (q = true → quiet o = true → own' = s.own) ∧ K ⟨putV s.fr d v, own'⟩ := by
  have nq : ∀ {o : MOp} {own' own : List Ch}, quiet o = false → q = true → quiet o = true → own' = own := fun h1 _ h2 => by rw [h1] at h2; cases h2
  cases o with
  | mv x => exact ⟨_, _, ⟨rfl, rfl⟩, nq rfl, h⟩
  | pick c x y =>
    simp only [vc1] at h
    split at h
    · rename_i b e; exact ⟨_, _, ⟨rfl, by rw [e]⟩, nq rfl, h⟩
    · exact h.elim
  | alloc z => exact ⟨_, _, ⟨rfl, rfl⟩, nq rfl, h⟩
  | box x => obtain ⟨h1, h2, h3⟩ := h; exact ⟨_, _, ⟨h1, h2, rfl, rfl⟩, nq rfl, h3⟩
  | ibox x =>
    obtain ⟨h1, h2⟩ := h
    split at h2
    · rename_i ds e; exact ⟨_, _, ⟨h1, rfl, ds, e, rfl⟩, nq rfl, h2⟩
    · exact h2.elim
  | build z ps =>
    obtain ⟨h1, h2⟩ := h
    split at h2
    · rename_i cs e; exact ⟨_, _, ⟨rfl, cs, e, h1, rfl⟩, nq rfl, h2⟩
    · exact h2.elim
  | bslice sz z n ps =>
    obtain ⟨h1, h2, h3, h4, h5⟩ := h
    split at h5
    · rename_i cs e; exact ⟨_, _, ⟨rfl, h1, h2, h3, cs, e, h4, rfl⟩, nq rfl, h5⟩
    · exact h5.elim
  | bslO sz z n ps =>
    obtain ⟨h1, h2, h3, h4, h5⟩ := h
    split at h5
    · rename_i cs e; exact ⟨_, _, ⟨h1, h2, h3, cs, e, h4, rfl, rfl⟩, nq rfl, h5⟩
    · exact h5.elim
  | load n ag x =>
    obtain ⟨h1, h2⟩ := h
    split at h2
    · rename_i i off e
      split at h2
      · rename_i cs hc; exact ⟨_, _, ⟨(by trivial), h1, by simp only [e, hc]; exact ⟨h2.1, (by trivial)⟩⟩, nq (by trivial), h2.2⟩
      · exact h2.elim
    · rename_i cs e; exact ⟨_, _, ⟨(by trivial), h1, by simp only [e]; exact ⟨h2.1, (by trivial)⟩⟩, nq (by trivial), h2.2⟩
    · rename_i i ver sz e off e'
      split at h2
      · rename_i sz' ver' xs hc
        obtain ⟨e1, e2, x, h3, h4⟩ := h2
        exact ⟨_, _, ⟨rfl, h1, by simp only [e', hc]; exact ⟨e1, e2, x, h3.1, h3.2, rfl⟩⟩, nq rfl, (h4).get⟩
      · exact h2.elim
    · rename_i g e
      obtain ⟨cells, T, fz, ds, h3, h4⟩ := h2
      exact ⟨_, _, ⟨rfl, h1, by simp only [e]; exact ⟨cells, T, fz, ds, h3.1, h3.2.1, h3.2.2, rfl⟩⟩, nq rfl, (h4).get⟩
    · exact h2.elim
  | store n x y =>
    obtain ⟨h1, h2, h3⟩ := h
    split at h3
    · rename_i i off e
      split at h3
      · rename_i cs hc; exact ⟨_, _, ⟨h1, h2, (by trivial), by simp only [e, hc]; exact ⟨h3.1, h3.2.1, (by trivial)⟩⟩, nq (by trivial), h3.2.2⟩
      · exact h3.elim
    · rename_i i ver sz e off e'
      split at h3
      · rename_i sz' ver' xs hc
        obtain ⟨e1, e2, h3⟩ := h3
        split at h3
        · rename_i ds hds
          obtain ⟨x, h3, h4⟩ := h3
          exact ⟨_, _, ⟨h1, h2, rfl, by simp only [e', hc]; exact ⟨e1, e2, x, ds, h3.1, h3.2, hds, rfl⟩⟩, nq rfl, (h4).get⟩
        · exact h3.elim
      · exact h3.elim
    · exact h3.elim
  | fad off x =>
    simp only [vc1] at h
    split at h
    · rename_i e; exact ⟨_, _, ⟨rfl, by simp only [e]⟩, nq rfl, h⟩
    · rename_i e; exact ⟨_, _, ⟨rfl, by simp only [e]⟩, nq rfl, h⟩
    · rename_i e; exact ⟨_, _, ⟨rfl, by simp only [e]⟩, nq rfl, h⟩
    · exact h.elim
  | iad sz x i =>
    simp only [vc1] at h
    split at h
    · rename_i e1 e2; obtain ⟨cs, h3, h4⟩ := h; exact ⟨_, _, ⟨rfl, by simp only [e1, e2]; exact ⟨cs, h3.1, h3.2.1, h3.2.2, rfl⟩⟩, nq rfl, (h4).get⟩
    · rename_i e1 e2
      split at h
      · rename_i hc; exact ⟨_, _, ⟨(by trivial), by simp only [e1, e2, hc]; exact ⟨h.1, h.2.1, h.2.2.1, h.2.2.2.1, (by trivial)⟩⟩, nq (by trivial), h.2.2.2.2⟩
      · exact h.elim
    · exact h.elim
  | iadA len sz x i =>
    simp only [vc1] at h
    split at h
    · rename_i e1 e2; obtain ⟨m, h3, h4⟩ := h; exact ⟨_, _, ⟨rfl, by simp only [e1, e2]; exact ⟨m, h3.1, h3.2, rfl⟩⟩, nq rfl, (h4).get⟩
    · rename_i e1 e2; obtain ⟨m, h3, h4⟩ := h; exact ⟨_, _, ⟨rfl, by simp only [e1, e2]; exact ⟨m, h3.1, h3.2, rfl⟩⟩, nq rfl, (h4).get⟩
    · rename_i e1 e2; obtain ⟨m, cells, T, fz, ds, h3, h4⟩ := h; exact ⟨_, _, ⟨rfl, by simp only [e1, e2]; exact ⟨m, cells, T, fz, ds, h3.1, h3.2.1, h3.2.2.1, h3.2.2.2, rfl⟩⟩, nq rfl, (h4).get⟩
    · exact h.elim
  | idxS x i =>
    simp only [vc1] at h
    split at h
    · rename_i e1 e2; obtain ⟨m, b, h3, h4⟩ := h; exact ⟨_, _, ⟨rfl, by simp only [e1, e2]; exact ⟨m, b, h3.1, h3.2, rfl⟩⟩, nq rfl, (h4).get⟩
    · exact h.elim
  | len kd x =>
    simp only [vc1] at h
    split at h
    · rename_i e; exact ⟨_, _, ⟨rfl, by simp only [LenV, e]⟩, nq rfl, h⟩
    · rename_i e; exact ⟨_, _, ⟨rfl, by simp only [LenV, e]⟩, nq rfl, h⟩
    · rename_i e
      split at h
      · rename_i hc; exact ⟨_, _, ⟨(by trivial), by simp only [LenV, e, hc]; exact ⟨h.1, (by trivial)⟩⟩, nq (by trivial), h.2⟩
      · exact h.elim
    · rename_i e
      split at h
      · rename_i hc; exact ⟨_, _, ⟨rfl, by simp only [LenV, e, hc]⟩, nq rfl, h⟩
      · exact h.elim
    · exact h.elim
  | app sz bytes x y =>
    simp only [vc1] at h
    split at h
    · rename_i e1 e2; exact ⟨_, _, (by simp only [Ev, e1, e2]; exact ⟨h.1, h.2.1, h.2.2.1, h.2.2.2.1, (by trivial), (by trivial)⟩), nq (by trivial), h.2.2.2.2⟩
    · rename_i e1 e2
      split at h
      · rename_i hc; exact ⟨_, _, (by simp only [Ev, e1, e2, hc]; exact ⟨h.1, h.2.1, h.2.2.1, h.2.2.2.1, h.2.2.2.2.1, (by trivial), (by trivial)⟩), nq (by trivial), h.2.2.2.2.2⟩
      · exact h.elim
    · exact h.elim
  | min x y =>
    simp only [vc1] at h
    split at h
    · rename_i e1 e2; exact ⟨_, _, ⟨rfl, by simp only [e1, e2]⟩, nq rfl, h⟩
    · exact h.elim
  | max x y =>
    simp only [vc1] at h
    split at h
    · rename_i e1 e2; exact ⟨_, _, ⟨rfl, by simp only [e1, e2]⟩, nq rfl, h⟩
    · exact h.elim
  | bin kd o x y => exact ⟨_, _, ⟨rfl, h.1, rfl⟩, nq rfl, h.2⟩
  | eqs neg ks x y =>
    simp only [vc1] at h
    split at h
    · rename_i e1 e2
      split at h
      · rename_i e he; exact ⟨_, _, ⟨rfl, by simp only [e1, e2]; exact ⟨e, he, rfl⟩⟩, nq rfl, h⟩
      · exact h.elim
    · exact h.elim
  | nilq kd neg x =>
    simp only [vc1] at h
    split at h
    · rename_i b e; exact ⟨_, _, ⟨rfl, b, e, rfl⟩, nq rfl, h⟩
    · exact h.elim
  | not x =>
    simp only [vc1] at h
    split at h
    · rename_i e; exact ⟨_, _, ⟨rfl, by simp only [e]⟩, nq rfl, h⟩
    · exact h.elim
  | conv kk x =>
    simp only [vc1] at h
    split at h
    · rename_i e; exact ⟨_, _, ⟨(by trivial), by simp only [e]; exact ⟨h.1, (by trivial)⟩⟩, nq (by trivial), h.2⟩
    · exact h.elim
  | mkI t x =>
    simp only [vc1] at h
    split at h
    · rename_i a e; exact ⟨_, _, ⟨rfl, a, e, rfl⟩, nq rfl, h⟩
    · exact h.elim
  | mkF f caps =>
    simp only [vc1] at h
    split at h
    · rename_i a e; exact ⟨_, _, ⟨rfl, a, e, rfl⟩, nq rfl, h⟩
    · exact h.elim
  | mkMv f x =>
    simp only [vc1] at h
    split at h
    · rename_i a e; exact ⟨_, _, ⟨rfl, a, e, rfl⟩, nq rfl, h⟩
    · exact h.elim
  | mkM => exact ⟨_, _, ⟨rfl, rfl⟩, nq rfl, h⟩
  | lkp ok z kag ks m kx =>
    obtain ⟨h1, h⟩ := h
    split at h
    · rename_i j e
      split at h
      · rename_i es hc
        obtain ⟨e', h2, h3⟩ := h
        exact ⟨_, _, ⟨rfl, e', _, by simp only [e, hc]; exact h2.1, h1, rfl, h2.2, rfl⟩, nq rfl, (h3).get⟩
      · exact h.elim
    · rename_i e; exact ⟨_, _, ⟨rfl, none, _, by simp only [e], h1, rfl, h.1, rfl⟩, nq rfl, h.2⟩
    · exact h.elim
  | mupd kag ks m kx x =>
    obtain ⟨h1, h2, h3, h⟩ := h
    split at h
    · rename_i j e
      split at h
      · rename_i es hc
        obtain ⟨e', h4, h5⟩ := h
        exact ⟨_, _, ⟨rfl, h1, h2, h3, by simp only [e, hc]; exact ⟨e', h4, rfl⟩⟩, nq rfl, (h5).get⟩
      · exact h.elim
    · exact h.elim
  | mkS sz bytes z l =>
    simp only [vc1] at h
    split at h
    · rename_i e; exact ⟨_, _, (by simp only [Ev, e]; exact ⟨h.1, h.2.1, h.2.2.1, h.2.2.2.1, h.2.2.2.2.1, (by trivial), (by trivial)⟩), nq (by trivial), h.2.2.2.2.2⟩
    · exact h.elim
  | slcS x lo hi =>
    simp only [vc1] at h
    split at h
    · rename_i e; obtain ⟨l, u, h1, h2⟩ := h; exact ⟨_, _, ⟨rfl, by simp only [e]; exact ⟨l, u, h1.1, h1.2.1, h1.2.2.1, h1.2.2.2, rfl⟩⟩, nq rfl, (h2).get⟩
    · exact h.elim
  | slc sz x lo hi =>
    simp only [vc1] at h
    split at h
    · rename_i e; obtain ⟨l, u, h1, h2⟩ := h; exact ⟨_, _, (by simp only [Ev, e]; exact ⟨(by trivial), l, u, h1.1, h1.2.1, h1.2.2.1, h1.2.2.2.1, h1.2.2.2.2, (by trivial)⟩), fun _ _ => (by trivial), (h2).get⟩
    · rename_i e
      split at h
      · rename_i hc
        obtain ⟨hq, e1, e2, l, u, h1, h2⟩ := h
        exact ⟨_, _, (by simp only [Ev, e, hc]; exact ⟨e1, e2, l, u, h1.1, h1.2.1, h1.2.2.1, h1.2.2.2, (by trivial), (by trivial)⟩), (fun h3 _ => by rw [hq] at h3; cases h3), (h2).get⟩
      · exact h.elim
    · exact h.elim
  | ext x i =>
    simp only [vc1] at h
    split at h
    · rename_i e; exact ⟨_, _, ⟨(by trivial), by simp only [e]; exact ⟨(by trivial), h.1⟩⟩, nq (by trivial), h.2⟩
    · exact h.elim
  | rng x =>
    simp only [vc1] at h
    split at h
    · rename_i e; exact ⟨_, _, (by simp only [Ev, e]; exact ⟨(by trivial), (by trivial)⟩), nq (by trivial), h⟩
    · exact h.elim
  | nxt x =>
    simp only [vc1] at h
    split at h
    · rename_i e
      split at h
      · rename_i st pos hc
        by_cases hp : pos < st.size
        · exact ⟨_, _, (by simp only [Ev, e, hc, hp, if_true]; exact ⟨(by trivial), (by trivial)⟩), nq rfl, (h.1 hp).get⟩
        · exact ⟨_, _, (by simp only [Ev, e, hc, hp, if_false]; exact ⟨(by trivial), (by trivial)⟩), nq rfl, (h.2 hp).get⟩
      · exact h.elim
    · exact h.elim
  | tas t ok z x =>
    simp only [vc1] at h
    split at h
    · rename_i t' ag cs e
      by_cases ht : t' = t
      · exact ⟨_, _, ⟨rfl, by simp only [e, if_pos ht]⟩, nq rfl, h.1 ht⟩
      · exact ⟨_, _, ⟨rfl, by simp only [e, if_neg ht]; exact ⟨(h.2 ht).1, (h.2 ht).2.1, (by trivial)⟩⟩, nq rfl, (h.2 ht).2.2⟩
    · rename_i e; exact ⟨_, _, ⟨(by trivial), by simp only [e]; exact ⟨h.1, h.2.1, (by trivial)⟩⟩, nq (by trivial), h.2.2⟩
    · exact h.elim
  | call f args =>
    rcases h with ⟨v, h1, h2⟩ | ⟨_, hq, j, v0, c', h1, h2⟩ | ⟨_, hq, v, own1, hl, h1, h2⟩
    · exact ⟨v, _, .inl ⟨rfl, h1.to⟩, fun _ _ => rfl, (h2).get⟩
    · exact ⟨_, _, .inr (.inl ⟨j, v0, c', rfl, rfl, h1.to.2⟩), (fun h3 _ => by rw [hq] at h3; cases h3), (h2).get⟩
    · exact ⟨_, _, .inr (.inr ⟨own1, rfl, hl, h1⟩), (fun h3 _ => by rw [hq] at h3; cases h3), (h2).get⟩
  | callv g args =>
    simp only [vc1] at h
    split at h
    · rename_i f l e
      rcases h with ⟨v, h1, h2⟩ | ⟨_, hq, j, v0, c', h1, h2⟩ | ⟨_, hq, v, own1, hl, h1, h2⟩
      · exact ⟨v, _, .inl ⟨f, l, e, .inl ⟨rfl, h1.to⟩⟩, fun _ _ => rfl, (h2).get⟩
      · exact ⟨_, _, .inl ⟨f, l, e, .inr (.inl ⟨j, v0, c', rfl, rfl, h1.to.1, h1.to.2⟩)⟩, (fun h3 _ => by rw [hq] at h3; cases h3), (h2).get⟩
      · exact ⟨_, _, .inl ⟨f, l, e, .inr (.inr ⟨own1, rfl, hl, h1⟩)⟩, (fun h3 _ => by rw [hq] at h3; cases h3), (h2).get⟩
    · split at h
      · rename_i l fs cs e
        obtain ⟨rfl, rfl, hq, own1, b, hl, h1, h2⟩ := h
        exact ⟨_, _, .inr ⟨l, own1, b, e, rfl, hl, rfl, h1⟩, (fun h3 _ => by rw [hq] at h3; cases h3), (h2).get⟩
      · exact h.elim

theorem vc_runs : ∀ {rs : List Rc} {s : St}, VO S q k (mosOf rs) s → Runs S q (G S k) rs s
  | [], _, h => h
  | ⟨none, d, o⟩ :: rs, s, h => by
    simp only [mosOf] at h
    rw [VO_op] at h
    obtain ⟨v, own', h1, h2, h3⟩ := vc_op (o := o) (d := d) (K := VO S q k (mosOf rs)) h
    exact .inl ⟨v, own', by simp, h1, h2, vc_runs h3⟩
  | ⟨some (t, b), d, o⟩ :: rs, s, h => by
    have h : vc1 S q (VO S q k (.op d o :: mosOf rs)) (VO S q k (mosOf rs)) (.chk t b d) s := by
      simp only [mosOf] at h
      rw [VO_cons] at h; exact h
    simp only [vc1] at h
    split at h
    · rename_i c hc
      by_cases hcb : c = b
      · have h := h.1 hcb
        rw [setV_same _ _ _ (by rw [hc, hcb]), VO_op] at h
        obtain ⟨v, own', h1, h2, h3⟩ := vc_op (o := o) (d := d) (K := VO S q k (mosOf rs)) h
        exact .inl ⟨v, own', fun t' b' e => by cases e; rw [hc, hcb], h1, h2, vc_runs h3⟩
      · have h := h.2 hcb
        rw [setV_same _ _ _ (by rw [hc]; cases b <;> cases c <;> first | rfl | exact absurd rfl hcb)] at h
        exact .inr ⟨t, b, rfl, .inr ⟨c, hc, hcb⟩, vc_runs h⟩
    · rename_i hc; exact .inr ⟨t, b, rfl, .inl hc, vc_runs h⟩
    · exact h.elim
end
end Go.Fw
