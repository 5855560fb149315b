/- The framework,part 21: what must be shown of a region,as a function that is worked out ('VO'); it is enough. -/
import Derived.Test.YtejnfjophhnaeaaGreatDoorFc
import Derived.Attr
set_option linter.all false
namespace Go.Fw
open Go
def Xw7 (S : Sx) (f : FuncId) (args : List V) (own : List Ch) (v : V) : Prop := match Xgr own args with
 | some l => Does S.P S.gp f l v /\ (args.all V.data = true \/ v.scal = true)
 | none => False
theorem Xw7.to {S : Sx} {f : FuncId} {args : List V} {own : List Ch} {v : V} (h : Xw7 S f args own v) : Xqg S f args own v := by
 unfold Xw7 at h
 split at h
 ·rename_i l hl; exact ⟨l,hl,h⟩
 ·exact h.elim
def Xow (S : Sx) (f : FuncId) (args : List V) (own : List Ch) (j : Nat) (v0 : V) (c' : Ch) : Prop := match renL j args with
 | some l => (args.flatMap V.refs).contains j = true /\ (args.flatMap V.refs0).contains j = true /\ (getC own j).live = true /\ (getC own j).refs = [] /\ c'.refs = [] /\ Xaa S.P f = true /\ Tri S.P S.gp f l [getC own j] (fun r post => r = v0 /\ post = [c'])
 | none => False
theorem Xow.to {S : Sx} {f : FuncId} {args : List V} {own : List Ch} {j : Nat} {v0 : V} {c' : Ch} (h : Xow S f args own j v0 c') : (args.flatMap V.refs0).contains j = true /\ Xqh S f args own j v0 c' := by
 unfold Xow at h
 split at h
 ·rename_i l hl; exact ⟨h.2.1,l,hl,h.1,h.2.2⟩
 ·exact h.elim
theorem Xa5.len {S : Sx} {f : FuncId} {args : List V} {own : List Ch} {js : List Nat} {v0 : V} {post : List Ch} (h : Xa5 S f args own js v0 post) : own.length <= (bkO own.length js js own post).length := by
 unfold Xa5 at h
 split at h
 ·rw [Xmz h.2.1]; omega
 ·obtain ⟨rfl,_⟩ := h
  simp [bkO]
structure Sh (K : St -> Prop) (s : St) : Prop where
 intro ::
 get : K s
def Ypj (fr : List V) : Option Nat -> Bool
 | some d => (match getV fr d with | .one .un => true | _ => false)
 | none => false
def Ypk : IntKind -> Bool
 | .u8 => true
 | .u32 => true
 | _ => false
def vc1 (S : Sx) (q : Bool) (K K2 : St -> Prop) : MO -> St -> Prop
 | .opx ..,_ => False
 | .chk t b d,s => (match getV s.fr t with
  | .one (.d (.bool c)) => (c = b -> K ⟨setV s.fr t (.one (.d (.bool b))),s.own⟩) /\ (c ≠ b -> K2 ⟨putV (setV s.fr t (.one (.d (.bool (!b))))) d (.tup []),s.own⟩)
  | .tup [] => K2 ⟨putV s.fr d (.tup []),s.own⟩
  | _ => False)
 | .op d (.mv x),s => K ⟨putV s.fr d (evO s.fr x),s.own⟩
 | .op d (.pick c x y),s => (match evO s.fr c with
  | .one (.d (.bool b)) => K ⟨putV s.fr d (if b then evO s.fr x else evO s.fr y),s.own⟩
  | _ => False)
 | .op d (.alloc z),s => K ⟨putV s.fr d (.one (.ptr s.own.length 0)),s.own ++ [.cells (z.map A.ofZ)]⟩
 | .op d (.bldN T e),s => K ⟨putV s.fr d (.one (.ptr s.own.length 0)),s.own ++ [.bld T (.own (s.own.length + 1) 0),.brow e 0 []]⟩
 | .op d (.appS e x y),s => (match evO s.fr x,evO s.fr y with
  | .one (.own j ver),.one (.d (.str t)) => (match getC s.own j with
   | .brow e' ver' bs => e' = e /\ ver' = ver /\ bs.length + t.size <= 140737488355328 /\ K ⟨putV s.fr d (.one (.own j (ver + 1))),setC s.own j (.brow e (ver + 1) (bs ++ t.data.toList))⟩
   | _ => False)
  | _,_ => False)
 | .op d (.box x),s => (evO s.fr x).ok = true /\ Xbs (evO s.fr x).cells = true /\ K ⟨putV s.fr d (.one (.ptr s.own.length 0)),s.own ++ [.cells (evO s.fr x).cells]⟩
 | .op d (.ibox x),s => (evO s.fr x).ok = true /\ (match allD (evO s.fr x).cells with
  | some ds => K ⟨putV s.fr d (.one (.d (.bx ds))),s.own⟩
  | none => False)
 | .op d (.build z ps),s => (ps.all fun p => (evO s.fr p.2.2).ok) = true /\ (match layF (evO s.fr) (z.map A.ofZ) ps with
  | some cs => K ⟨putV s.fr d (.agg cs),s.own⟩
  | none => False)
 | .op d (.bslice sz z n ps),s => z.length = sz /\ n * sz <= 16777216 /\ 0 < sz /\ (ps.all fun p => (evO s.fr p.2).ok) = true /\ (match layE (evO s.fr) sz (Xc4 z n) ps with
  | some xs => K ⟨putV s.fr d (.one (.d (.sl xs))),s.own⟩
  | none => False)
 | .op d (.bslO sz z n ps),s => z.length = sz /\ n * sz <= 16777216 /\ 0 < sz /\ (ps.all fun p => (evO s.fr p.2).ok) = true /\ (match layE (evO s.fr) sz (Xc4 z n) ps with
  | some xs => K ⟨putV s.fr d (.one (.own s.own.length 0)),s.own ++ [.row sz 0 xs]⟩
  | none => False)
 | .op d (.load n ag x),s => (ag = true \/ n = 1) /\ (match evO s.fr x with
  | .one (.ptr i off) => (match getC s.own i with
   | .cells cs => off + n <= cs.length /\ K ⟨putV s.fr d (mkV ag ((cs.drop off).take n)),s.own⟩
   | _ => False)
  | .one (.d (.bx cs)) => n <= cs.length /\ K ⟨putV s.fr d (mkV ag ((cs.take n).map .d)),s.own⟩
  | .one (.rp i ver sz e off) => (match getC s.own i with
   | .row sz' ver' xs => sz' = sz /\ ver' = ver /\ ∃ x,(xs[e]? = some x /\ off + n <= x.length) /\ Sh K ⟨putV s.fr d (mkV ag (((x.drop off).take n).map .d)),s.own⟩
   | _ => False)
  | .one (.d (.raw (.pointer (some ⟨g,0,none⟩)))) => ∃ cells T fz ds,(S.gp g = some (.cells cells T fz) /\ dsOf cells.toList = some ds /\ n <= ds.length) /\ Sh K ⟨putV s.fr d (mkV ag ((ds.take n).map .d)),s.own⟩
  | _ => False)
 | .op d (.ild n ag x),s => (ag = true \/ n = 1) /\ (match evO s.fr x with
  | .one (.d (.bx cs)) => n <= cs.length /\ K ⟨putV s.fr d (mkV ag ((cs.take n).map .d)),s.own⟩
  | _ => False)
 | .op d (.cld n ag x),s => (ag = true \/ n = 1) /\ (match evO s.fr x with
  | .one (.ptr i off) => (match getC s.own i with
   | .cells cs => off + n <= cs.length /\ K ⟨putV s.fr d (mkV ag ((cs.drop off).take n)),s.own⟩
   | _ => False)
  | .one (.d (.bx cs)) => n <= cs.length /\ K ⟨putV s.fr d (mkV ag ((cs.take n).map .d)),s.own⟩
  | _ => False)
 | .op d (.slcR sz x lo hi),s => (match evO s.fr x with
  | .one (.own j ver) => (match getC s.own j with
   | .row sz' ver' xs => sz' = sz /\ ver' = ver /\ ∃ l h : Nat,(Xap (evO s.fr) lo 0 l /\ Xap (evO s.fr) hi xs.length h /\ l <= h /\ h <= xs.length) /\
     Sh K ⟨putV s.fr d (.one (.own j (ver + 1))),setC s.own j (.row sz (ver + 1) ((xs.take h).drop l))⟩
   | _ => False)
  | _ => False)
 | .op d (.iadD sz x i),s => (match evO s.fr x,evO s.fr i with
  | .one (.d (.sl xs)),.one (.d (.int _ n)) => ∃ cs,(0 <= n /\ xs[n.toNat]? = some cs /\ cs.length = sz) /\ Sh K ⟨putV s.fr d (.one (.d (.bx cs))),s.own⟩
  | _,_ => False)
 | .op d (.strB x),s => ∃ bs : List UInt8,(bs ≠ [] /\ evO s.fr x = .one (.d (.sl (bs.map fun b => [.int .u8 b.toNat])))) /\ Sh K ⟨putV s.fr d (.one (.d (.str ⟨bs.toArray⟩))),s.own⟩
 | .op d (.holes ts),s => (ts.all fun t => isBx t.2 (evO s.fr (.t t.1))) = true /\ K ⟨putV s.fr d .un,s.own ++ List.replicate ts.length .dead⟩
 | .op d (.store n x y),s => (evO s.fr y).ok = true /\ (evO s.fr y).cells.length = n /\ (match evO s.fr x with
  | .one (.ptr i off) => (match getC s.own i with
   | .cells cs => off + n <= cs.length /\ Xbs (evO s.fr y).cells = true /\ K ⟨putV s.fr d .un,setC s.own i (.cells (cs.take off ++ (evO s.fr y).cells ++ cs.drop (off + n)))⟩
   | _ => False)
  | .one (.rp i ver sz e off) => (match getC s.own i with
   | .row sz' ver' xs => sz' = sz /\ ver' = ver /\ (match allD (evO s.fr y).cells with
    | some ds => ∃ x,(xs[e]? = some x /\ off + n <= x.length) /\ Sh K ⟨putV s.fr d .un,setC s.own i (.row sz ver (xs.set e (x.take off ++ ds ++ x.drop (off + n))))⟩
    | none => False)
   | _ => False)
  | _ => False)
 | .op d (.fad off x),s => (match evO s.fr x with
  | .one (.ptr i o) => K ⟨putV s.fr d (.one (.ptr i (o + off))),s.own⟩
  | .one (.d (.bx cs)) => K ⟨putV s.fr d (.one (.d (.bx (cs.drop off)))),s.own⟩
  | .one (.rp i ver sz e o) => K ⟨putV s.fr d (.one (.rp i ver sz e (o + off))),s.own⟩
  | _ => False)
 | .op d (.iad sz x i),s => (match evO s.fr x,evO s.fr i with
  | .one (.d (.sl xs)),.one (.d (.int _ n)) => ∃ cs,(0 <= n /\ xs[n.toNat]? = some cs /\ cs.length = sz) /\ Sh K ⟨putV s.fr d (.one (.d (.bx cs))),s.own⟩
  | .one (.own j ver),.one (.d (.int _ n)) => (match getC s.own j with
   | .row sz' ver' xs => sz' = sz /\ ver' = ver /\ 0 <= n /\ n.toNat < xs.length /\ K ⟨putV s.fr d (.one (.rp j ver sz n.toNat 0)),s.own⟩
   | _ => False)
  | _,_ => False)
 | .op d (.iadA len sz x i),s => (match evO s.fr x,evO s.fr i with
  | .one (.ptr j off),.one (.d (.int _ n)) => ∃ m : Nat,(n = m /\ m < len) /\ Sh K ⟨putV s.fr d (.one (.ptr j (off + m * sz))),s.own⟩
  | .one (.d (.bx cs)),.one (.d (.int _ n)) => ∃ m : Nat,(n = m /\ m < len) /\ Sh K ⟨putV s.fr d (.one (.d (.bx (cs.drop (m * sz))))),s.own⟩
  | .one (.d (.raw (.pointer (some ⟨g,0,none⟩)))),.one (.d (.int _ n)) => ∃ (m : Nat) (cells : Array Value) (T : TypeId) (fz : Nat × Nat) (ds : List D),(n = m /\ m < len /\ S.gp g = some (.cells cells T fz) /\ dsOf cells.toList = some ds) /\
    Sh K ⟨putV s.fr d (.one (.d (.bx (ds.drop (m * sz))))),s.own⟩
  | _,_ => False)
 | .op d (.idxS x i),s => (match evO s.fr x,evO s.fr i with
  | .one (.d (.str st)),.one (.d (.int _ n)) => ∃ (m : Nat) (b : UInt8),(n = m /\ st[m]? = some b) /\ Sh K ⟨putV s.fr d (.one (.d (.int .u8 b.toNat))),s.own⟩
  | _,_ => False)
 | .op d (.len kd x),s => (match kd,(evO s.fr x).nrm with
  | .s,.one (.d (.str st)) => K ⟨putV s.fr d (.one (.d (.int .i64 st.size))),s.own⟩
  | .i,.one (.d (.sl xs)) => K ⟨putV s.fr d (.one (.d (.int .i64 xs.length))),s.own⟩
  | .i,.one (.own j ver) => (match getC s.own j with
   | .row _ ver' xs => ver' = ver /\ K ⟨putV s.fr d (.one (.d (.int .i64 xs.length))),s.own⟩
   | .brow _ ver' bs => ver' = ver /\ K ⟨putV s.fr d (.one (.d (.int .i64 bs.length))),s.own⟩
   | _ => False)
  | .b,.one (.own j 0) => (match getC s.own j with
   | .map es => K ⟨putV s.fr d (.one (.d (.int .i64 es.length))),s.own⟩
   | _ => False)
  | _,_ => False)
 | .op d (.app e sz bytes x y),s => (match (evO s.fr y).nrm,evO s.fr x with
  | .one (.d (.sl ys)),.one .nil => (∀ p ∈ ys,p.length = sz) /\ 0 < sz /\ ys.length * bytes <= 140737488355328 /\ ys.length < Xad /\ K ⟨putV s.fr d (.one (.own s.own.length 0)),s.own ++ [.row sz 0 ys]⟩
  | .one (.d (.sl ys)),.one (.own j ver) => (match getC s.own j with
   | .row sz' ver' xs => (∀ p ∈ ys,p.length = sz) /\ sz' = sz /\ ver' = ver /\ (xs.length + ys.length) * bytes <= 140737488355328 /\ xs.length + ys.length < Xad /\
     K ⟨putV s.fr d (.one (.own j (ver + 1))),setC s.own j (.row sz (ver + 1) (xs ++ ys))⟩
   | .brow e' ver' bs => (∀ p ∈ ys,p.length = sz) /\ e' = e /\ sz = 1 /\ bytes = 1 /\ ver' = ver /\ bs.length + ys.length <= 140737488355328 /\ ∃ cs : List UInt8,ys = bysD cs /\ Sh K ⟨putV s.fr d (.one (.own j (ver + 1))),setC s.own j (.brow e (ver + 1) (bs ++ cs))⟩
   | _ => False)
  | _,_ => False)
 | .op d (.min x y),s => (match evO s.fr x,evO s.fr y with
  | .one (.d (.int kk a)),.one (.d (.int _ b)) => K ⟨putV s.fr d (.one (.d (.int kk (if b < a then b else a)))),s.own⟩
  | _,_ => False)
 | .op d (.max x y),s => (match evO s.fr x,evO s.fr y with
  | .one (.d (.int kk a)),.one (.d (.int _ b)) => K ⟨putV s.fr d (.one (.d (.int kk (if a < b then b else a)))),s.own⟩
  | _,_ => False)
 | .op d (.bin kd o x y),s => (match binD kd o (evO s.fr x) (evO s.fr y) with
  | (c,v) => c /\ K ⟨putV s.fr d (.one (.d v)),s.own⟩)
 | .op d (.eqs neg ks x y),s => (match evO s.fr x,evO s.fr y with
  | .agg a,.agg b => (match eqLs ks a b with
   | some e => K ⟨putV s.fr d (.one (.d (.bool (if neg then !e else e)))),s.own⟩
   | none => False)
  | _,_ => False)
 | .op d (.nilq kd neg x),s => (match nilD kd (evO s.fr x) with
  | some b => K ⟨putV s.fr d (.one (.d (.bool (if neg then !b else b)))),s.own⟩
  | none => False)
 | .op d (.not x),s => (match evO s.fr x with
  | .one (.d (.bool b)) => K ⟨putV s.fr d (.one (.d (.bool !b))),s.own⟩
  | _ => False)
 | .op d (.conv kk x),s => (match evO s.fr x with
  | .one (.d (.int _ n)) => (Ypk kk = true \/ inK kk n) /\ K ⟨putV s.fr d (.one (.d (.int kk (if Ypk kk = true then kk.wrap n else n)))),s.own⟩
  | _ => False)
 | .op d (.mkI t x),s => (match ifv t (evO s.fr x) with
  | some a => K ⟨putV s.fr d (.one a),s.own⟩
  | none => False)
 | .op d (.mkF f caps),s => (match clov f (caps.map (evO s.fr)) with
  | some a => K ⟨putV s.fr d (.one a),s.own⟩
  | none => False)
 | .op d (.mkMv f x),s => (match mvv f (evO s.fr x) with
  | some a => K ⟨putV s.fr d (.one a),s.own⟩
  | none => False)
 | .op d .mkM,s => K ⟨putV s.fr d (.one (.own s.own.length 0)),s.own ++ [.map []]⟩
 | .op d (.lkp ok z kag ks m kx),s => eqV kag ks (evO s.fr kx) (evO s.fr kx) ≠ none /\ (match evO s.fr m with
  | .one (.own j 0) => (match getC s.own j with
   | .map es => ∃ e,(Xcr kag ks es (evO s.fr kx) = some e /\ (e.getD z).ok = true) /\ Sh K ⟨putV s.fr d (if ok then .tup [e.getD z,.one (.d (.bool e.isSome))] else e.getD z),s.own⟩
   | _ => False)
  | .one (.d (.raw (.map none))) => z.ok = true /\ K ⟨putV s.fr d (if ok then .tup [z,.one (.d (.bool false))] else z),s.own⟩
  | _ => False)
 | .op d (.mupd kag ks m kx x),s => eqV kag ks (evO s.fr kx) (evO s.fr kx) ≠ none /\ (evO s.fr kx).ok = true /\ (evO s.fr x).ok = true /\ (match evO s.fr m with
  | .one (.own j 0) => (match getC s.own j with
   | .map es => ∃ e,putM kag ks es (evO s.fr kx) (evO s.fr x) = some e /\ Sh K ⟨putV s.fr d .un,setC s.own j (.map e)⟩
   | _ => False)
  | _ => False)
 | .op d (.mkS sz bytes z l),s => (match evO s.fr l with
  | .one (.d (.int _ n)) => 0 <= n /\ 0 < sz /\ z.length = sz /\ n * bytes <= 140737488355328 /\ n < Xad /\ K ⟨putV s.fr d (.one (.own s.own.length 0)),s.own ++ [.row sz 0 (List.replicate n.toNat z)]⟩
  | _ => False)
 | .op d (.slcS x lo hi),s => (match evO s.fr x with
  | .one (.d (.str st)) => ∃ l h : Nat,(Xap (evO s.fr) lo 0 l /\ Xap (evO s.fr) hi st.size h /\ l <= h /\ h <= st.size) /\ Sh K ⟨putV s.fr d (.one (.d (.str (st.extract l h)))),s.own⟩
  | _ => False)
 | .op d (.slc sz x lo hi),s => (match (evO s.fr x).nrm with
  | .one (.d (.sl xs)) => ∃ l h : Nat,(Xap (evO s.fr) lo 0 l /\ Xap (evO s.fr) hi xs.length h /\ l <= h /\ h <= xs.length /\ (∀ p ∈ xs,p.length = sz)) /\ Sh K ⟨putV s.fr d (.one (.d (.sl ((xs.take h).drop l)))),s.own⟩
  | .one (.own j ver) => (match getC s.own j with
   | .row sz' ver' xs => q = false /\ sz' = sz /\ ver' = ver /\ ∃ l h : Nat,(Xap (evO s.fr) lo 0 l /\ Xap (evO s.fr) hi xs.length h /\ l <= h /\ h <= xs.length) /\
     Sh K ⟨putV s.fr d (.one (.own j (ver + 1))),setC s.own j (.row sz (ver + 1) ((xs.take h).drop l))⟩
   | _ => False)
  | _ => False)
 | .op d (.ext x i),s => (match evO s.fr x with
  | .tup l => i < l.length /\ K ⟨putV s.fr d (getV l i),s.own⟩
  | _ => False)
 | .op d (.rng x),s => (match evO s.fr x with
  | .one (.d (.str st)) => K ⟨putV s.fr d (.one (.own s.own.length 0)),s.own ++ [.siter st 0]⟩
  | _ => False)
 | .op d (.nxt x),s => (match evO s.fr x with
  | .one (.own j 0) => (match getC s.own j with
   | .siter st pos => (pos < st.size -> Sh K ⟨putV s.fr d (.tup [.one (.d (.bool true)),.one (.d (.int .i64 pos)),.one (.d (.int .i32 (Utf8.decode st pos).1))]),setC s.own j (.siter st (pos + (Utf8.decode st pos).2))⟩) /\
     (¬ pos < st.size -> Sh K ⟨putV s.fr d (.tup [.one (.d (.bool false))]),s.own⟩)
   | _ => False)
  | _ => False)
 | .op d (.tas t ok z x),s => (match evO s.fr x with
  | .one (.d (.ifc t' ag cs)) => (t' = t -> K ⟨putV s.fr d (if ok then .tup [mkV ag (cs.map .d),.one (.d (.bool true))] else mkV ag (cs.map .d)),s.own⟩) /\
    (t' ≠ t -> ok = true /\ z.ok = true /\ K ⟨putV s.fr d (.tup [z,.one (.d (.bool false))]),s.own⟩)
  | .one (.d .nilI) => ok = true /\ z.ok = true /\ K ⟨putV s.fr d (.tup [z,.one (.d (.bool false))]),s.own⟩
  | _ => False)
 | .op d (.idxA len x i),s => (match evO s.fr x,evO s.fr i with
  | .agg cs,.one (.d (.int _ n)) => ∃ (m : Nat) (c : A),(n = m /\ m < len /\ cs[m]? = some c) /\ Sh K ⟨putV s.fr d (.one c),s.own⟩
  | _,_ => False)
 | .op d (.nck x),s => (match nilD .ptr (evO s.fr x) with
  | some false => K ⟨putV s.fr d (evO s.fr x),s.own⟩
  | _ => False)
 | .op d (.cpy sz x y),s => (match evO s.fr x,(evO s.fr y).nrm with
  | .one (.own j ver),.one (.d (.sl ys)) => (match getC s.own j with
   | .row sz' ver' xs => (∀ p ∈ ys,p.length = sz) /\ sz' = sz /\ ver' = ver /\ ys.length = xs.length /\ K ⟨putV s.fr d (.one (.d (.int .i64 ys.length))),setC s.own j (.row sz ver ys)⟩
   | _ => False)
  | _,_ => False)
 | .op d (.call f args),s => (∃ v,Xw7 S f (args.map (evO s.fr)) s.own v /\ Sh K ⟨putV s.fr d v,s.own⟩) \/
   (((args.map (evO s.fr)).flatMap V.refs0).isEmpty = false /\ q = false /\ ∃ j v0 c',Xow S f (args.map (evO s.fr)) s.own j v0 c' /\ Sh K ⟨putV s.fr d (Xn8 j v0),setC s.own j c'⟩) \/
   ((((args.map (evO s.fr)).flatMap V.refs).isEmpty = false \/ Ypj s.fr d = true) /\ q = false /\ ∃ js v0 post,Xa5 S f (args.map (evO s.fr)) s.own js v0 post /\ Sh K ⟨putV s.fr d (bkV s.own.length js v0),bkO s.own.length js js s.own post ++ [.dead]⟩)
 | .op d (.appF e sz bytes x y),s => (match (evO s.fr y).nrm,evO s.fr x with
  | .one (.d (.sl ys)),.one (.own j ver) => (match getC s.own j with
   | .row sz' ver' xs => (∀ p ∈ ys,p.length = sz) /\ sz' = sz /\ ver' = ver /\ (xs.length + ys.length) * bytes <= 140737488355328 /\ xs.length + ys.length < Xad /\ K ⟨putV s.fr d (.one (.d (.sl (xs ++ ys)))),setC s.own j .dead⟩
   | _ => False)
  | _,_ => False)
 | .op d (.callN f args),s => ∃ v0 post,Xa5 S f (args.map (evO s.fr)) s.own [] v0 post /\ Sh K ⟨putV s.fr d (bkV s.own.length [] v0),(s.own ++ post.map (bkC s.own.length [])) ++ [.dead]⟩
 | .op d (.callv g args),s => (match Xfa (evO s.fr g) (args.map (evO s.fr)) with
  | some (f,l) => (∃ v,Xw7 S f l s.own v /\ Sh K ⟨putV s.fr d v,s.own⟩) \/
    ((l.flatMap V.refs0).isEmpty = false /\ q = false /\ ∃ j v0 c',Xow S f l s.own j v0 c' /\ Sh K ⟨putV s.fr d (Xn8 j v0),setC s.own j c'⟩) \/
    (((l.flatMap V.refs).isEmpty = false \/ Ypj s.fr d = true) /\ q = false /\ ∃ js v0 post,Xa5 S f l s.own js v0 post /\ Sh K ⟨putV s.fr d (bkV s.own.length js v0),bkO s.own.length js js s.own post ++ [.dead]⟩)
  | none => match evO s.fr g with
   | .one (.d (.raw (.func (.yield l) fs cs))) => fs = #[] /\ cs = #[] /\ q = false /\ ∃ own1 b,s.own.length <= own1.length /\ Xqi S l (args.map (evO s.fr)) s.own own1 b /\ Sh K ⟨putV s.fr d (.one (.d (.bool b))),own1 ++ [.dead]⟩
   | _ => False)
def vcx (S : Sx) (q : Bool) (K K2 : St -> Prop) : MO -> St -> Prop
 | .opx d o,s => vc1 S false K K2 (.op d o) s
 | .op d o,s => vc1 S q K K2 (.op d o) s
 | .chk t b d,s => vc1 S q K K2 (.chk t b d) s
def VO (S : Sx) (q : Bool) (k : List MI) : List MO -> St -> Prop
 | [] => fun s => G S k s
 | x :: r => fun s => vcx S q (VO S q k r) (match r with | _ :: r' => VO S q k r' | [] => fun _ => False) x s
theorem Y5f (S : Sx) (q : Bool) (k : List MI) (s : St) : VO S q k [] s = G S k s := rfl
theorem Xko {S : Sx} {q : Bool} {k : List MI} (x : MO) (r : List MO) (s : St) : VO S q k (x :: r) s = vcx S q (VO S q k r) (match r with | _ :: r' => VO S q k r' | [] => fun _ => False) x s := by
 cases r <;> rfl
theorem Yct (S : Sx) (q : Bool) (k : List MI) (d : Option Nat) (o : MOp) (r : List MO) (s : St) : VO S q k (.op d o :: r) s = vc1 S q (VO S q k r) (fun _ => False) (.op d o) s := by
 rw [Xko]
 cases o <;> rfl
theorem Xsh (S : Sx) (q : Bool) (k : List MI) (d : Option Nat) (o : MOp) (r : List MO) (s : St) : VO S q k (.opx d o :: r) s = vc1 S false (VO S q k r) (fun _ => False) (.op d o) s := by
 rw [Xko]
 cases o <;> rfl
theorem Xeh {S : Sx} {q : Bool} {k : List MI} {t : Nat} {b : Bool} {d : Option Nat} {x : MO} {r : List MO} {s : St} (h : vc1 S q (VO S q k (x :: r)) (VO S q k r) (.chk t b d) s) : VO S q k (.chk t b d :: x :: r) s := by
 rw [Xko]; exact h
section
variable {S : Sx} {q : Bool} {k : List MI}
theorem Xkp : ∀ (l : List V) (t : Nat) (v : V),getV l t = v -> setV l t v = l
 | [],_,_,_ => rfl
 | _ :: _,0,_,h => by simp [getV] at h; simp [setV,h]
 | _ :: l,t + 1,v,h => by simp [setV,Xkp l t v (by simpa [getV] using h)]
theorem Y5g {o : MOp} {d : Option Nat} {s : St} {K K2 : St -> Prop} (h : vc1 S q K K2 (.op d o) s) :
  ∃ v own',Ev S o (evO s.fr) s.own v own' /\ (q = true -> Xqj o = true -> own' = s.own) /\ K ⟨putV s.fr d v,own'⟩ := by
 have nq : ∀ {o : MOp} {own' own : List Ch},Xqj o = false -> q = true -> Xqj o = true -> own' = own := fun h1 _ h2 => by rw [h1] at h2; cases h2
 cases o with
 | mv x => exact ⟨_,_,⟨rfl,rfl⟩,nq rfl,h⟩
 | pick c x y =>
  simp only [vc1] at h
  split at h
  ·rename_i b e; exact ⟨_,_,⟨rfl,by rw [e]⟩,nq rfl,h⟩
  ·exact h.elim
 | alloc z => exact ⟨_,_,⟨rfl,rfl⟩,nq rfl,h⟩
 | bldN T e => exact ⟨_,_,⟨rfl,rfl⟩,nq rfl,h⟩
 | appS e x y =>
  simp only [vc1] at h
  split at h
  ·rename_i e1 e2
   split at h
   ·rename_i hc; exact ⟨_,_,(by simp only [Ev,e1,e2,hc]; exact ⟨h.1,h.2.1,h.2.2.1,(by trivial),(by trivial)⟩),nq (by trivial),h.2.2.2⟩
   ·exact h.elim
  ·exact h.elim
 | box x => obtain ⟨h1,h2,h3⟩ := h; exact ⟨_,_,⟨h1,h2,rfl,rfl⟩,nq rfl,h3⟩
 | ibox x =>
  obtain ⟨h1,h2⟩ := h
  split at h2
  ·rename_i ds e; exact ⟨_,_,⟨h1,rfl,ds,e,rfl⟩,nq rfl,h2⟩
  ·exact h2.elim
 | build z ps =>
  obtain ⟨h1,h2⟩ := h
  split at h2
  ·rename_i cs e; exact ⟨_,_,⟨rfl,cs,e,h1,rfl⟩,nq rfl,h2⟩
  ·exact h2.elim
 | bslice sz z n ps =>
  obtain ⟨h1,h2,h3,h4,h5⟩ := h
  split at h5
  ·rename_i cs e; exact ⟨_,_,⟨rfl,h1,h2,h3,cs,e,h4,rfl⟩,nq rfl,h5⟩
  ·exact h5.elim
 | bslO sz z n ps =>
  obtain ⟨h1,h2,h3,h4,h5⟩ := h
  split at h5
  ·rename_i cs e; exact ⟨_,_,⟨h1,h2,h3,cs,e,h4,rfl,rfl⟩,nq rfl,h5⟩
  ·exact h5.elim
 | load n ag x =>
  obtain ⟨h1,h2⟩ := h
  split at h2
  ·rename_i i off e
   split at h2
   ·rename_i cs hc; exact ⟨_,_,⟨(by trivial),h1,by simp only [e,hc]; exact ⟨h2.1,(by trivial)⟩⟩,nq (by trivial),h2.2⟩
   ·exact h2.elim
  ·rename_i cs e; exact ⟨_,_,⟨(by trivial),h1,by simp only [e]; exact ⟨h2.1,(by trivial)⟩⟩,nq (by trivial),h2.2⟩
  ·rename_i i ver sz e off e'
   split at h2
   ·rename_i sz' ver' xs hc
    obtain ⟨e1,e2,x,h3,h4⟩ := h2
    exact ⟨_,_,⟨rfl,h1,by simp only [e',hc]; exact ⟨e1,e2,x,h3.1,h3.2,rfl⟩⟩,nq rfl,(h4).get⟩
   ·exact h2.elim
  ·rename_i g e
   obtain ⟨cells,T,fz,ds,h3,h4⟩ := h2
   exact ⟨_,_,⟨rfl,h1,by simp only [e]; exact ⟨cells,T,fz,ds,h3.1,h3.2.1,h3.2.2,rfl⟩⟩,nq rfl,(h4).get⟩
  ·exact h2.elim
 | store n x y =>
  obtain ⟨h1,h2,h3⟩ := h
  split at h3
  ·rename_i i off e
   split at h3
   ·rename_i cs hc; exact ⟨_,_,⟨h1,h2,(by trivial),by simp only [e,hc]; exact ⟨h3.1,h3.2.1,(by trivial)⟩⟩,nq (by trivial),h3.2.2⟩
   ·exact h3.elim
  ·rename_i i ver sz e off e'
   split at h3
   ·rename_i sz' ver' xs hc
    obtain ⟨e1,e2,h3⟩ := h3
    split at h3
    ·rename_i ds hds
     obtain ⟨x,h3,h4⟩ := h3
     exact ⟨_,_,⟨h1,h2,rfl,by simp only [e',hc]; exact ⟨e1,e2,x,ds,h3.1,h3.2,hds,rfl⟩⟩,nq rfl,(h4).get⟩
    ·exact h3.elim
   ·exact h3.elim
  ·exact h3.elim
 | fad off x =>
  simp only [vc1] at h
  split at h
  ·rename_i e; exact ⟨_,_,⟨rfl,by simp only [e]⟩,nq rfl,h⟩
  ·rename_i e; exact ⟨_,_,⟨rfl,by simp only [e]⟩,nq rfl,h⟩
  ·rename_i e; exact ⟨_,_,⟨rfl,by simp only [e]⟩,nq rfl,h⟩
  ·exact h.elim
 | ild n ag x =>
  obtain ⟨h1,h2⟩ := h
  split at h2
  ·rename_i cs e; exact ⟨_,_,⟨(by trivial),h1,by simp only [e]; exact ⟨h2.1,(by trivial)⟩⟩,nq (by trivial),h2.2⟩
  ·exact h2.elim
 | cld n ag x =>
  obtain ⟨h1,h2⟩ := h
  split at h2
  ·rename_i i off e
   split at h2
   ·rename_i cs hc; exact ⟨_,_,⟨(by trivial),h1,by simp only [e,hc]; exact ⟨h2.1,(by trivial)⟩⟩,nq (by trivial),h2.2⟩
   ·exact h2.elim
  ·rename_i cs e; exact ⟨_,_,⟨(by trivial),h1,by simp only [e]; exact ⟨h2.1,(by trivial)⟩⟩,nq (by trivial),h2.2⟩
  ·exact h2.elim
 | slcR sz x lo hi =>
  simp only [vc1] at h
  split at h
  ·rename_i j ver e
   split at h
   ·rename_i sz' ver' xs hc
    obtain ⟨e1,e2,l,h',h3,h4⟩ := h
    exact ⟨_,_,by simp only [Ev,e,hc]; exact ⟨e1,e2,l,h',h3.1,h3.2.1,h3.2.2.1,h3.2.2.2,(by trivial),(by trivial)⟩,fun _ hq => (by cases hq),(h4).get⟩
   ·exact h.elim
  ·exact h.elim
 | iadD sz x i =>
  simp only [vc1] at h
  split at h
  ·rename_i e1 e2; obtain ⟨cs,h3,h4⟩ := h; exact ⟨_,_,⟨rfl,by simp only [e1,e2]; exact ⟨cs,h3.1,h3.2.1,h3.2.2,rfl⟩⟩,nq rfl,(h4).get⟩
  ·exact h.elim
 | strB x =>
  obtain ⟨bs,h1,h2⟩ := h
  exact ⟨_,_,⟨rfl,bs,h1.1,h1.2,rfl⟩,nq rfl,h2.get⟩
 | holes ts => exact ⟨_,_,⟨rfl,rfl,h.1⟩,fun _ hq => (by cases hq),h.2⟩
 | iad sz x i =>
  simp only [vc1] at h
  split at h
  ·rename_i e1 e2; obtain ⟨cs,h3,h4⟩ := h; exact ⟨_,_,⟨rfl,by simp only [e1,e2]; exact ⟨cs,h3.1,h3.2.1,h3.2.2,rfl⟩⟩,nq rfl,(h4).get⟩
  ·rename_i e1 e2
   split at h
   ·rename_i hc; exact ⟨_,_,⟨(by trivial),by simp only [e1,e2,hc]; exact ⟨h.1,h.2.1,h.2.2.1,h.2.2.2.1,(by trivial)⟩⟩,nq (by trivial),h.2.2.2.2⟩
   ·exact h.elim
  ·exact h.elim
 | iadA len sz x i =>
  simp only [vc1] at h
  split at h
  ·rename_i e1 e2; obtain ⟨m,h3,h4⟩ := h; exact ⟨_,_,⟨rfl,by simp only [e1,e2]; exact ⟨m,h3.1,h3.2,rfl⟩⟩,nq rfl,(h4).get⟩
  ·rename_i e1 e2; obtain ⟨m,h3,h4⟩ := h; exact ⟨_,_,⟨rfl,by simp only [e1,e2]; exact ⟨m,h3.1,h3.2,rfl⟩⟩,nq rfl,(h4).get⟩
  ·rename_i e1 e2; obtain ⟨m,cells,T,fz,ds,h3,h4⟩ := h; exact ⟨_,_,⟨rfl,by simp only [e1,e2]; exact ⟨m,cells,T,fz,ds,h3.1,h3.2.1,h3.2.2.1,h3.2.2.2,rfl⟩⟩,nq rfl,(h4).get⟩
  ·exact h.elim
 | idxS x i =>
  simp only [vc1] at h
  split at h
  ·rename_i e1 e2; obtain ⟨m,b,h3,h4⟩ := h; exact ⟨_,_,⟨rfl,by simp only [e1,e2]; exact ⟨m,b,h3.1,h3.2,rfl⟩⟩,nq rfl,(h4).get⟩
  ·exact h.elim
 | len kd x =>
  simp only [vc1] at h
  split at h
  ·rename_i e; exact ⟨_,_,⟨rfl,by simp only [LenV,e]⟩,nq rfl,h⟩
  ·rename_i e; exact ⟨_,_,⟨rfl,by simp only [LenV,e]⟩,nq rfl,h⟩
  ·rename_i e
   split at h
   ·rename_i hc; exact ⟨_,_,⟨(by trivial),by simp only [LenV,e,hc]; exact ⟨h.1,(by trivial)⟩⟩,nq (by trivial),h.2⟩
   ·rename_i hc; exact ⟨_,_,⟨(by trivial),by simp only [LenV,e,hc]; exact ⟨h.1,(by trivial)⟩⟩,nq (by trivial),h.2⟩
   ·exact h.elim
  ·rename_i e
   split at h
   ·rename_i hc; exact ⟨_,_,⟨rfl,by simp only [LenV,e,hc]⟩,nq rfl,h⟩
   ·exact h.elim
  ·exact h.elim
 | app e sz bytes x y =>
  simp only [vc1] at h
  split at h
  ·rename_i e1 e2; exact ⟨_,_,(by simp only [Ev,e1,e2]; exact ⟨h.1,h.2.1,h.2.2.1,h.2.2.2.1,(by trivial),(by trivial)⟩),nq (by trivial),h.2.2.2.2⟩
  ·rename_i e1 e2
   split at h
   ·rename_i hc; exact ⟨_,_,(by simp only [Ev,e1,e2,hc]; exact ⟨h.1,h.2.1,h.2.2.1,h.2.2.2.1,h.2.2.2.2.1,(by trivial),(by trivial)⟩),nq (by trivial),h.2.2.2.2.2⟩
   ·rename_i hc
    obtain ⟨h1,h2,g1,g2,h3,h4,cs,h5,h6⟩ := h
    exact ⟨_,_,(by simp only [Ev,e1,e2,hc]; exact ⟨h1,h2,g1,g2,h3,h4,cs,h5,(by trivial),(by trivial)⟩),nq (by trivial),h6.get⟩
   ·exact h.elim
  ·exact h.elim
 | min x y =>
  simp only [vc1] at h
  split at h
  ·rename_i e1 e2; exact ⟨_,_,⟨rfl,by simp only [e1,e2]⟩,nq rfl,h⟩
  ·exact h.elim
 | max x y =>
  simp only [vc1] at h
  split at h
  ·rename_i e1 e2; exact ⟨_,_,⟨rfl,by simp only [e1,e2]⟩,nq rfl,h⟩
  ·exact h.elim
 | bin kd o x y => exact ⟨_,_,⟨rfl,h.1,rfl⟩,nq rfl,h.2⟩
 | eqs neg ks x y =>
  simp only [vc1] at h
  split at h
  ·rename_i e1 e2
   split at h
   ·rename_i e he; exact ⟨_,_,⟨rfl,by simp only [e1,e2]; exact ⟨e,he,rfl⟩⟩,nq rfl,h⟩
   ·exact h.elim
  ·exact h.elim
 | nilq kd neg x =>
  simp only [vc1] at h
  split at h
  ·rename_i b e; exact ⟨_,_,⟨rfl,b,e,rfl⟩,nq rfl,h⟩
  ·exact h.elim
 | not x =>
  simp only [vc1] at h
  split at h
  ·rename_i e; exact ⟨_,_,⟨rfl,by simp only [e]⟩,nq rfl,h⟩
  ·exact h.elim
 | conv kk x =>
  simp only [vc1] at h
  split at h
  ·rename_i kq n e
   refine ⟨_,_,⟨rfl,?_⟩,nq rfl,h.2⟩
   simp only [e]
   split
   ·rfl
   ·rename_i hw
    rw [Xfw (h.1.resolve_left hw)]
  ·exact h.elim
 | mkI t x =>
  simp only [vc1] at h
  split at h
  ·rename_i a e; exact ⟨_,_,⟨rfl,a,e,rfl⟩,nq rfl,h⟩
  ·exact h.elim
 | mkF f caps =>
  simp only [vc1] at h
  split at h
  ·rename_i a e; exact ⟨_,_,⟨rfl,a,e,rfl⟩,nq rfl,h⟩
  ·exact h.elim
 | mkMv f x =>
  simp only [vc1] at h
  split at h
  ·rename_i a e; exact ⟨_,_,⟨rfl,a,e,rfl⟩,nq rfl,h⟩
  ·exact h.elim
 | mkM => exact ⟨_,_,⟨rfl,rfl⟩,nq rfl,h⟩
 | lkp ok z kag ks m kx =>
  obtain ⟨h1,h⟩ := h
  split at h
  ·rename_i j e
   split at h
   ·rename_i es hc
    obtain ⟨e',h2,h3⟩ := h
    exact ⟨_,_,⟨rfl,e',_,by simp only [e,hc]; exact h2.1,h1,rfl,h2.2,rfl⟩,nq rfl,(h3).get⟩
   ·exact h.elim
  ·rename_i e; exact ⟨_,_,⟨rfl,none,_,by simp only [e],h1,rfl,h.1,rfl⟩,nq rfl,h.2⟩
  ·exact h.elim
 | mupd kag ks m kx x =>
  obtain ⟨h1,h2,h3,h⟩ := h
  split at h
  ·rename_i j e
   split at h
   ·rename_i es hc
    obtain ⟨e',h4,h5⟩ := h
    exact ⟨_,_,⟨rfl,h1,h2,h3,by simp only [e,hc]; exact ⟨e',h4,rfl⟩⟩,nq rfl,(h5).get⟩
   ·exact h.elim
  ·exact h.elim
 | mkS sz bytes z l =>
  simp only [vc1] at h
  split at h
  ·rename_i e; exact ⟨_,_,(by simp only [Ev,e]; exact ⟨h.1,h.2.1,h.2.2.1,h.2.2.2.1,h.2.2.2.2.1,(by trivial),(by trivial)⟩),nq (by trivial),h.2.2.2.2.2⟩
  ·exact h.elim
 | slcS x lo hi =>
  simp only [vc1] at h
  split at h
  ·rename_i e; obtain ⟨l,u,h1,h2⟩ := h; exact ⟨_,_,⟨rfl,by simp only [e]; exact ⟨l,u,h1.1,h1.2.1,h1.2.2.1,h1.2.2.2,rfl⟩⟩,nq rfl,(h2).get⟩
  ·exact h.elim
 | slc sz x lo hi =>
  simp only [vc1] at h
  split at h
  ·rename_i e; obtain ⟨l,u,h1,h2⟩ := h; exact ⟨_,_,(by simp only [Ev,e]; exact ⟨(by trivial),l,u,h1.1,h1.2.1,h1.2.2.1,h1.2.2.2.1,h1.2.2.2.2,(by trivial)⟩),fun _ _ => (by trivial),(h2).get⟩
  ·rename_i e
   split at h
   ·rename_i hc
    obtain ⟨hq,e1,e2,l,u,h1,h2⟩ := h
    exact ⟨_,_,(by simp only [Ev,e,hc]; exact ⟨e1,e2,l,u,h1.1,h1.2.1,h1.2.2.1,h1.2.2.2,(by trivial),(by trivial)⟩),(fun h3 _ => by rw [hq] at h3; cases h3),(h2).get⟩
   ·exact h.elim
  ·exact h.elim
 | ext x i =>
  simp only [vc1] at h
  split at h
  ·rename_i e; exact ⟨_,_,⟨(by trivial),by simp only [e]; exact ⟨(by trivial),h.1⟩⟩,nq (by trivial),h.2⟩
  ·exact h.elim
 | rng x =>
  simp only [vc1] at h
  split at h
  ·rename_i e; exact ⟨_,_,(by simp only [Ev,e]; exact ⟨(by trivial),(by trivial)⟩),nq (by trivial),h⟩
  ·exact h.elim
 | nxt x =>
  simp only [vc1] at h
  split at h
  ·rename_i e
   split at h
   ·rename_i st pos hc
    by_cases hp : pos < st.size
    ·exact ⟨_,_,(by simp only [Ev,e,hc,hp,if_true]; exact ⟨(by trivial),(by trivial)⟩),nq rfl,(h.1 hp).get⟩
    ·exact ⟨_,_,(by simp only [Ev,e,hc,hp,if_false]; exact ⟨(by trivial),(by trivial)⟩),nq rfl,(h.2 hp).get⟩
   ·exact h.elim
  ·exact h.elim
 | tas t ok z x =>
  simp only [vc1] at h
  split at h
  ·rename_i t' ag cs e
   by_cases ht : t' = t
   ·exact ⟨_,_,⟨rfl,by simp only [e,if_pos ht]⟩,nq rfl,h.1 ht⟩
   ·exact ⟨_,_,⟨rfl,by simp only [e,if_neg ht]; exact ⟨(h.2 ht).1,(h.2 ht).2.1,(by trivial)⟩⟩,nq rfl,(h.2 ht).2.2⟩
  ·rename_i e; exact ⟨_,_,⟨(by trivial),by simp only [e]; exact ⟨h.1,h.2.1,(by trivial)⟩⟩,nq (by trivial),h.2.2⟩
  ·exact h.elim
 | idxA len x i =>
  simp only [vc1] at h
  split at h
  ·rename_i e1 e2; obtain ⟨m,c,h3,h4⟩ := h; exact ⟨_,_,⟨rfl,by simp only [e1,e2]; exact ⟨m,c,h3.1,h3.2.1,h3.2.2,rfl⟩⟩,nq rfl,(h4).get⟩
  ·exact h.elim
 | nck x =>
  simp only [vc1] at h
  split at h
  ·rename_i e; exact ⟨_,_,⟨rfl,rfl,e⟩,nq rfl,h⟩
  ·exact h.elim
 | cpy sz x y =>
  simp only [vc1] at h
  split at h
  ·rename_i e1 e2
   split at h
   ·rename_i hc
    exact ⟨_,_,(by simp only [Ev,e1,e2,hc]; exact ⟨h.2.1,h.2.2.1,h.1,h.2.2.2.1,(by trivial),(by trivial)⟩),nq (by trivial),h.2.2.2.2⟩
   ·exact h.elim
  ·exact h.elim
 | call f args =>
  rcases h with ⟨v,h1,h2⟩ | ⟨_,hq,j,v0,c',h1,h2⟩ | ⟨_,hq,js,v0,post,h1,h2⟩
  ·exact ⟨v,_,.inl ⟨rfl,h1.to⟩,fun _ _ => rfl,(h2).get⟩
  ·exact ⟨_,_,.inr (.inl ⟨j,v0,c',rfl,rfl,h1.to.2⟩),(fun h3 _ => by rw [hq] at h3; cases h3),(h2).get⟩
  ·exact ⟨_,_,.inr (.inr ⟨_,rfl,h1.len,js,v0,post,h1,rfl,rfl⟩),(fun h3 _ => by rw [hq] at h3; cases h3),(h2).get⟩
 | appF e sz bytes x y =>
  simp only [vc1] at h
  split at h
  ·rename_i e1 e2
   split at h
   ·rename_i hc; exact ⟨_,_,(by simp only [Ev,e1,e2,hc]; exact ⟨h.1,h.2.1,h.2.2.1,h.2.2.2.1,h.2.2.2.2.1,(by trivial),(by trivial)⟩),nq (by trivial),h.2.2.2.2.2⟩
   ·exact h.elim
  ·exact h.elim
 | callN f args =>
  obtain ⟨v0,post,h1,h2⟩ := h
  exact ⟨_,_,⟨_,rfl,v0,post,h1,rfl,rfl⟩,nq rfl,(h2).get⟩
 | callv g args =>
  simp only [vc1] at h
  split at h
  ·rename_i f l e
   rcases h with ⟨v,h1,h2⟩ | ⟨_,hq,j,v0,c',h1,h2⟩ | ⟨_,hq,js,v0,post,h1,h2⟩
   ·exact ⟨v,_,.inl ⟨f,l,e,.inl ⟨rfl,h1.to⟩⟩,fun _ _ => rfl,(h2).get⟩
   ·exact ⟨_,_,.inl ⟨f,l,e,.inr (.inl ⟨j,v0,c',rfl,rfl,h1.to.1,h1.to.2⟩)⟩,(fun h3 _ => by rw [hq] at h3; cases h3),(h2).get⟩
   ·exact ⟨_,_,.inl ⟨f,l,e,.inr (.inr ⟨_,rfl,h1.len,js,v0,post,h1,rfl,rfl⟩)⟩,(fun h3 _ => by rw [hq] at h3; cases h3),(h2).get⟩
  ·split at h
   ·rename_i l fs cs e
    obtain ⟨rfl,rfl,hq,own1,b,hl,h1,h2⟩ := h
    exact ⟨_,_,.inr ⟨l,own1,b,e,rfl,hl,rfl,h1⟩,(fun h3 _ => by rw [hq] at h3; cases h3),(h2).get⟩
   ·exact h.elim
theorem Xfh : ∀ {rs : List Rc} {s : St},VO S q k (Xea rs) s -> Runs S q (G S k) rs s
 | [],_,h => h
 | ⟨none,d,o,fx⟩ :: rs,s,h => by
  have h : vc1 S (if fx then false else q) (VO S q k (Xea rs)) (fun _ => False) (.op d o) s := by
   cases fx with
   | false => simp only [Xea] at h; rw [Yct] at h; exact h
   | true => simp only [Xea] at h; rw [Xsh] at h; exact h
  obtain ⟨v,own',h1,h2,h3⟩ := Y5g (o := o) (d := d) (K := VO S q k (Xea rs)) h
  exact .inl ⟨v,own',by simp,h1,fun hq hf => by subst hf; exact h2 (by simpa using hq),Xfh h3⟩
 | ⟨some (t,b),d,o,fx⟩ :: rs,s,h => by
  have h : vc1 S q (VO S q k ((if fx then .opx d o else .op d o) :: Xea rs)) (VO S q k (Xea rs)) (.chk t b d) s := by
   cases fx with
   | false => simp only [Xea] at h; rw [Xko] at h; exact h
   | true => simp only [Xea] at h; rw [Xko] at h; exact h
  simp only [vc1] at h
  split at h
  ·rename_i c hc
   by_cases hcb : c = b
   ·have h := h.1 hcb
    rw [Xkp _ _ _ (by rw [hc,hcb])] at h
    have h : vc1 S (if fx then false else q) (VO S q k (Xea rs)) (fun _ => False) (.op d o) s := by
     cases fx with
     | false => simp only [Bool.false_eq_true,if_false] at h; rw [Yct] at h; exact h
     | true => simp only [if_true] at h; rw [Xsh] at h; exact h
    obtain ⟨v,own',h1,h2,h3⟩ := Y5g (o := o) (d := d) (K := VO S q k (Xea rs)) h
    exact .inl ⟨v,own',fun t' b' e => by cases e; rw [hc,hcb],h1,fun hq hf => by subst hf; exact h2 (by simpa using hq),Xfh h3⟩
   ·have h := h.2 hcb
    rw [Xkp _ _ _ (by rw [hc]; cases b <;> cases c <;> first | rfl | exact absurd rfl hcb)] at h
    exact .inr ⟨t,b,rfl,.inr ⟨c,hc,hcb⟩,Xfh h⟩
  ·rename_i hc; exact .inr ⟨t,b,rfl,.inl hc,Xfh h⟩
  ·exact h.elim
end
end Go.Fw
namespace Go.Fw
open Go
section
variable {S : Sx} {Y : Dyn} {k : List MI} {s : St} {a : Act} {w : World} {m m' : MC} {P : Program} {hs : List Nat} {c : Code}
theorem Xa1 {id : Nat} {ops : Array Oper} {d : Bool} (h : trC P hs (.region id ops d) = some m) : (∃ l,m = .reg d l) \/ (∃ l,m = .regv l) \/ ∃ l,m = .regw l := by
 simp only [trC] at h
 split at h
 ·exact .inl ⟨_,(Option.some.inj h).symm⟩
 ·split at h
  ·exact .inr (.inl ⟨_,(Option.some.inj h).symm⟩)
  ·obtain ⟨l,_,e⟩ := Option.map_eq_some_iff.1 h
   exact .inr (.inr ⟨l,e.symm⟩)
theorem Ypl {d : Bool} {l : List MO} (h : trC P hs c = some (.reg d l)) : ∃ id ops,c = .region id ops d /\ trR P hs ops d = some l := by
 cases c with
 | region id ops d0 =>
  simp only [trC] at h
  split at h
  ·rename_i l0 e
   cases h
   exact ⟨_,_,rfl,e⟩
  ·split at h
   ·cases h
   ·obtain ⟨l,_,e⟩ := Option.map_eq_some_iff.1 h
    cases e
 | _ => simp [trC,Option.bind_eq_some_iff] at h
theorem Ycu {l : List MO} (h : trC P hs c = some (.regv l)) : ∃ id ops d,c = .region id ops d /\ trV P hs ops d = some l := by
 cases c with
 | region id ops d0 =>
  simp only [trC] at h
  split at h
  ·cases h
  ·split at h
   ·rename_i e
    cases h
    exact ⟨_,_,_,rfl,e⟩
   ·obtain ⟨l,e,e'⟩ := Option.map_eq_some_iff.1 h
    cases e'
 | _ => simp [trC,Option.bind_eq_some_iff] at h
theorem Ycv {l : List MO} (h : trC P hs c = some (.regw l)) : ∃ id ops d,c = .region id ops d /\ trW P hs ops d = some l := by
 cases c with
 | region id ops d0 =>
  simp only [trC] at h
  split at h
  ·cases h
  ·split at h
   ·cases h
   ·obtain ⟨l,e,e'⟩ := Option.map_eq_some_iff.1 h
    cases e'
    exact ⟨_,_,_,rfl,e⟩
 | _ => simp [trC,Option.bind_eq_some_iff] at h
theorem Ypm {x y : MC} (h : trC P hs c = some (.seq x y)) : ∃ a b,c = .seq a b /\ trC P hs a = some x /\ trC P hs b = some y := by
 cases c <;> first | (rcases Xa1 h with ⟨_,e⟩ | ⟨_,e⟩ | ⟨_,e⟩ <;> cases e; done) | simp [trC,Option.bind_eq_some_iff] at h
 exact ⟨_,_,rfl,h.1,h.2⟩
theorem Ycw {o : Opd} {x y : MC} (h : trC P hs c = some (.cond o x y)) : ∃ t a b,c = .cond t a b /\ Xac t = o /\ trC P hs a = some x /\ trC P hs b = some y := by
 cases c <;> first | (rcases Xa1 h with ⟨_,e⟩ | ⟨_,e⟩ | ⟨_,e⟩ <;> cases e; done) | simp [trC,Option.bind_eq_some_iff] at h
 obtain ⟨_,h1,_,h2,h3,rfl,rfl⟩ := h
 exact ⟨_,_,_,rfl,h3,h1,h2⟩
theorem Ypn {id : Nat} {x : MC} (h : trC P hs c = some (.blk id x)) : ∃ b,c = .block id b /\ trC P hs b = some x := by
 cases c <;> first | (rcases Xa1 h with ⟨_,e⟩ | ⟨_,e⟩ | ⟨_,e⟩ <;> cases e; done) | simp [trC,Option.bind_eq_some_iff] at h
 obtain ⟨h1,rfl⟩ := h
 exact ⟨_,rfl,h1⟩
theorem Xsi {x : MC} (h : trC P hs c = some (.loop x)) : ∃ b,c = .loop b /\ trC P hs b = some x := by
 cases c <;> first | (rcases Xa1 h with ⟨_,e⟩ | ⟨_,e⟩ | ⟨_,e⟩ <;> cases e; done) | simp [trC,Option.bind_eq_some_iff] at h
 exact ⟨_,rfl,h⟩
theorem Xy4 {x : MC} (h : trC P hs c = some (.scope x)) : ∃ b,c = .scope b /\ trC P hs b = some x := by
 cases c <;> first | (rcases Xa1 h with ⟨_,e⟩ | ⟨_,e⟩ | ⟨_,e⟩ <;> cases e; done) | simp [trC,Option.bind_eq_some_iff] at h
 exact ⟨_,rfl,h⟩
theorem Ycx {id : Nat} (h : trC P hs c = some (.exit id)) : c = .exit id := by
 cases c <;> first | (rcases Xa1 h with ⟨_,e⟩ | ⟨_,e⟩ | ⟨_,e⟩ <;> cases e; done) | simp [trC,Option.bind_eq_some_iff] at h
 rw [h]
theorem Xy5 (h : trC P hs c = some .ret) : c = .ret := by
 cases c <;> first | (rcases Xa1 h with ⟨_,e⟩ | ⟨_,e⟩ | ⟨_,e⟩ <;> cases e; done) | simp [trC,Option.bind_eq_some_iff] at h
 rfl
theorem Ycy (h : trC P hs c = some .skip) : c = .skip \/ ∃ l,c = .label l := by
 cases c <;> first | (rcases Xa1 h with ⟨_,e⟩ | ⟨_,e⟩ | ⟨_,e⟩ <;> cases e; done) | simp [trC,Option.bind_eq_some_iff] at h
 ·exact .inl rfl
 ·exact .inr ⟨_,rfl⟩
theorem Ypo {x : MC} {Q : Exit -> Act -> World -> Prop} {P' : Act -> World -> Prop} (hP : ∀ a w,Mx S Y (.code x :: k) .normal a w -> P' a w) (hQ : ∀ e a w,e ≠ .normal -> Mx S Y k e a w -> Q e a w) :
  ∀ e a w,Mx S Y (.code x :: k) e a w -> Exit.then P' Q e a w := by
 intro e a w h
 cases e with
 | normal => exact hP a w h
 | _ => exact hQ _ a w (by simp) h
theorem Xii {d : Bool} {l : List MO} (h : VO S d k l s) : G S (.code (.reg d l) :: k) s := by
 intro Y a w hs hs' c hc
 obtain ⟨id,ops,rfl,hr⟩ := Ypl hc
 cases d with
 | false =>
  simp only [trR,Option.map_eq_some_iff] at hr
  obtain ⟨rs,ht,rfl⟩ := hr
  refine wpIn_region ?_
  have := Xsc (Q := Mx S Y k) (ops := ops) (K := G S k) (fun s a w hs hk => hk Y a w hs) ops.toList 0 rs s a w (by simp) ht (Xfh h) hs
  rwa [Array.length_toList,<- List.range_eq_range'] at this
 | true =>
  simp only [trR,Option.bind_eq_some_iff] at hr
  obtain ⟨rs,ht,hr⟩ := hr
  split at hr
  ·rename_i hchk
   cases hr
   simp only [Bool.and_eq_true] at hchk
   obtain ⟨⟨hm,he⟩,hd⟩ := hchk
   refine wpIn_region_any hm ?_
   obtain ⟨vs,os,h0,hK,hst⟩ := (Xfh h).trace
   obtain ⟨H,an,F,ms,hsx⟩ := hs
   have hD : ∀ i,(Array.replicate ops.size false).getD i false = false := fun i => by
    simp only [Array.getD_eq_getD_getElem?,Array.getElem?_replicate]
    split <;> rfl
   refine Xw6 (Xqy _ _) he hd ht rfl hst (fun a w hs => hK Y a w hs) ops.size _ 0 a _ (by simp) (by simp) ⟨fun k i hk => (by simp only [hD] at hk; cases hk),fun i r _ _ => (by simp only [hD]; simp),Nat.zero_le _⟩ ?_
   rw [Xdm _ _ _ _ hD,h0]
   exact ⟨H,an,F,ms,hsx.drawn _⟩
  ·cases hr
theorem Ycz {x y : MC} (h : G S (.code x :: .code y :: k) s) : G S (.code (.seq x y) :: k) s := by
 intro Y a w hs hs' c hc
 obtain ⟨c1,c2,rfl,h1,h2⟩ := Ypm hc
 refine wpIn_seq (wpIn_mono (h Y a w hs hs' c1 h1) ?_)
 exact Ypo (fun a w hm => hm hs' c2 h2) (fun _ _ _ _ h => h)
theorem Xei {o : Opd} {x y : MC} (h : match evO s.fr o with
  | .one (.d (.bool t)) => (t = true -> G S (.code x :: k) s) /\ (t = false -> G S (.code y :: k) s)
  | _ => False) : G S (.code (.cond o x y) :: k) s := by
 intro Y a w hs hs' c hc
 obtain ⟨t,c1,c2,rfl,rfl,h1,h2⟩ := Ycw hc
 split at h
 ·rename_i b e
  obtain ⟨H,an,F,ms,hx⟩ := hs
  have hb := Xdc (e ▸ hx.ev t)
  refine wpIn_cond_split hb (fun hb => ?_) (fun hb => ?_)
  ·exact h.1 hb Y a w ⟨H,an,F,ms,hx⟩ hs' c1 h1
  ·exact h.2 hb Y a w ⟨H,an,F,ms,hx⟩ hs' c2 h2
 ·exact h.elim
theorem Wf3 {id : Nat} {x : MC} (h : G S (.code x :: .blk id :: k) s) : G S (.code (.blk id x) :: k) s := by
 intro Y a w hs hs' c hc
 obtain ⟨c1,rfl,h1⟩ := Ypn hc
 refine wpIn_block (wpIn_mono (h Y a w hs hs' c1 h1) ?_)
 intro e a w hm
 cases e <;> exact hm
theorem Xy6 {id : Nat} (h : G S k s) : G S (.blk id :: k) s := fun Y a w hs => h Y a w hs
theorem Y5h (h : G S k s) : G S (.code .skip :: k) s := by
 intro Y a w hs hs' c hc
 rcases Ycy hc with rfl | ⟨l,rfl⟩
 ·exact wpIn_skip (h Y a w hs)
 ·exact wpIn_label (h Y a w hs)
def Xox (id : Nat) : List MI -> Option (List MI)
 | .code _ :: k => Xox id k
 | .blk i :: k => if i = id then some k else Xox id k
 | .again _ :: k => Xox id k
 | _ => none
theorem Xf0 {id : Nat} : ∀ {k k' : List MI},Xox id k = some k' -> ∀ Y a w,Mx S Y k' .normal a w -> Mx S Y k (.exit id) a w
 | .code _ :: k,k',h,Y,a,w,hm => Xf0 (k := k) h Y a w hm
 | .again _ :: k,k',h,Y,a,w,hm => Xf0 (k := k) h Y a w hm
 | .blk i :: k,k',h,Y,a,w,hm => by
  simp only [Xox] at h
  split at h
  ·rename_i e
   cases h
   subst e
   simpa [Mx] using hm
  ·rename_i e
   simp only [Mx]
   rw [if_neg (fun e' => e e'.symm)]
   exact Xf0 h Y a w hm
 | .rnd _ :: _,_,h,_,_,_,_ => by cases h
 | .fin :: _,_,h,_,_,_,_ => by cases h
 | [],_,h,_,_,_,_ => by cases h
theorem Xgk {id : Nat} {k' : List MI} (he : Xox id k = some k') (h : G S k' s) : G S (.code (.exit id) :: k) s := by
 intro Y a w hs hs' c hc
 rw [Ycx hc]
 exact wpIn_exit (Xf0 he Y a w (h Y a w hs))
def retK : List MI -> Option (List MI)
 | .code _ :: k => retK k
 | .blk _ :: k => retK k
 | .again _ :: k => retK k
 | .fin :: k => some (.fin :: k)
 | .rnd p :: k => some (.rnd p :: k)
 | [] => none
theorem Xfi : ∀ {k k' : List MI},retK k = some k' -> ∀ Y a w,Mx S Y k' .ret a w -> Mx S Y k .ret a w
 | .code _ :: k,k',h,Y,a,w,hm => Xfi (k := k) h Y a w hm
 | .again _ :: k,k',h,Y,a,w,hm => Xfi (k := k) h Y a w hm
 | .blk i :: k,k',h,Y,a,w,hm => Xfi (k := k) h Y a w hm
 | .rnd _ :: _,_,h,_,_,_,hm => by cases h; exact hm
 | .fin :: _,_,h,_,_,_,hm => by cases h; exact hm
 | [],_,h,_,_,_,_ => by cases h
def FinS (S : Sx) (s : St) : Prop := match Xx9 s S.rs with
 | some res => S.R res.nrm2 s.own \/ (S.np = 0 /\ res.refsT = [] /\ S.R res.nrm2 [])
 | none => False
theorem FinS.x {e : Exit} (h : FinS S s) (he : e = .normal \/ e = .ret) {Y : Dyn} {a : Act} {w : World} (hs : Sat S Y s a w) : Mx S Y (.fin :: k) e a w := by
 unfold FinS at h
 split at h
 ·rename_i res hr; exact ⟨he,s,res,hs,hr,h⟩
 ·exact h.elim
theorem Xij {k' : List MI} (he : retK k = some (.fin :: k')) (h : FinS S s) : G S (.code .ret :: k) s := by
 intro Y a w hs hs' c hc
 rw [Xy5 hc]
 exact wpIn_ret (Xfi he Y a w (h.x (.inr rfl) hs))
theorem Xik (h : FinS S s) : G S (.fin :: k) s := fun _ _ _ hs => h.x (.inl rfl) hs
theorem Xfj {p : Exit -> St -> Prop} (h : p .normal s) : G S (.rnd p :: k) s := fun _ _ _ hs => ⟨.inl rfl,s,hs,h⟩
theorem Xy7 {p : Exit -> St -> Prop} {k' : List MI} (he : retK k = some (.rnd p :: k')) (h : p .ret s) : G S (.code .ret :: k) s := by
 intro Y a w hs hs' c hc
 rw [Xy5 hc]
 exact wpIn_ret (Xfi he Y a w ⟨.inr (.inl rfl),s,hs,h⟩)
theorem Xdv {p : St -> Prop} (h : p s) : G S (.again p :: k) s := fun _ _ _ hs => ⟨s,hs,h⟩
theorem Xde {p : Nat -> Prop} (h : ∃ n,p n) : ∃ n,p n /\ ∀ m,p m -> n <= m := by
 obtain ⟨n,hn⟩ := h
 induction n using Nat.strongRecOn with
 | _ n ih =>
  by_cases hx : ∃ m,m < n /\ p m
  ·obtain ⟨m,hm,hp⟩ := hx; exact ih m hm hp
  ·exact ⟨n,hn,fun m hm => by
    rcases Nat.lt_or_ge m n with h | h
    ·exact absurd ⟨m,h,hm⟩ hx
    ·exact h⟩
open Classical in
theorem Xfk {x : MC} (I : Nat -> St -> Prop) (n : Nat) (h0 : I n s) (h : ∀ n s,I n s -> G S (.code x :: .again (fun s' => ∃ n',n' < n /\ I n' s') :: k) s) : G S (.code (.loop x) :: k) s := by
 intro Y a w hs hs' c hc
 obtain ⟨b,rfl,hb⟩ := Xsi hc
 let J : Act -> World -> Prop := fun a w => ∃ n s,I n s /\ Sat S Y s a w
 let μ : Act -> World -> Nat := fun a w => if h : ∃ n s,I n s /\ Sat S Y s a w then Classical.choose (Xde h) else 0
 refine wpIn_loop J μ ⟨n,s,h0,hs⟩ fun a w hJ => ?_
 have hμ : μ a w = Classical.choose (Xde hJ) := dif_pos hJ
 obtain ⟨⟨s1,hI,hs1⟩,_⟩ := Classical.choose_spec (Xde hJ)
 refine wpIn_mono (h _ s1 hI Y a w hs1 hs' b hb) ?_
 intro e a' w' hm
 cases e with
 | normal =>
  obtain ⟨s2,hs2,n',hlt,hI2⟩ := hm
  have hJ' : J a' w' := ⟨n',s2,hI2,hs2⟩
  refine ⟨hJ',?_⟩
  have hμ' : μ a' w' = Classical.choose (Xde hJ') := dif_pos hJ'
  rw [hμ,hμ']
  exact Nat.lt_of_le_of_lt ((Classical.choose_spec (Xde hJ')).2 _ ⟨s2,hI2,hs2⟩) hlt
 | _ => exact hm
end
end Go.Fw
namespace Go.Fw
open Go
section
variable {S : Sx} {Y : Dyn} {s : St} {a : Act} {w w' : World} {H : Heap} {an : Anc} {F : Nat -> Nat -> Prop} {ms : List Nat}
theorem Xy8 {x : V} {u : Value} (h : DenV H an x u) (hx : ∀ l,x ≠ .tup l) : Xai H an x u := by
 cases x with
 | tup l => exact absurd rfl (hx l)
 | _ => exact h
theorem Ypp {x : V} {u : Value} (h : Xai H an x u) : DenV H an x u := by
 cases x with
 | tup l => exact h.elim
 | _ => exact h
theorem Ypq {ag : Bool} {l : List A} : ∀ m,mkV ag l ≠ .tup m := by
 intro m
 unfold mkV
 split <;> simp
def Xkq (ρ : Array Value) : ResultVar -> Sem Value
 | .tmp t => pure (ρ.getD t undef)
 | .cell b t => do loadVar t (<- asAddr (ρ.getD b undef))
theorem Xhi {P : Program} {r : ResultVar} {l : List ResultVar} {m : List RV} (h : rsOf P (r :: l) = some m) : ∃ rv m',m = rv :: m' /\ rsOf P [r] = some [rv] /\ rsOf P l = some m' := by
 cases r with
 | tmp t =>
  simp only [rsOf,Option.map_eq_some_iff] at h
  obtain ⟨m',h1,rfl⟩ := h
  exact ⟨_,_,rfl,rfl,h1⟩
 | cell b t =>
  simp only [rsOf,Option.bind_eq_some_iff] at h
  obtain ⟨n,hn,h⟩ := h
  split at h
  ·rename_i hag
   simp only [Option.map_eq_some_iff] at h
   obtain ⟨m',h1,rfl⟩ := h
   exact ⟨_,_,rfl,by simp only [rsOf,hn,Option.bind_some,Option.map_some]; rw [if_pos hag],h1⟩
  ·cases h
theorem Xy9 {r : ResultVar} {rv : RV} {x : V} (h : SatX S Y s a w H an F ms) (hr : rsOf S.P [r] = some [rv]) (hx : resV s rv = some x) :
  ∃ u,(Xkq a.tmps r).run S.P w = .ok u w /\ Xai H an x u := by
 cases r with
 | tmp t =>
  simp only [rsOf,Option.map_some,Option.some.injEq,List.cons.injEq,and_true] at hr
  subst hr
  refine ⟨a.tmps.getD t undef,by simp only [Xkq,Sem.run_pure],?_⟩
  simp only [resV] at hx
  have := h.ev (.tmp t)
  simp only [Xac,evO,Act.eval] at this
  split at hx
  ·cases hx
  ·rename_i hn
   cases hx
   exact Xy8 this hn
 | cell b t =>
  simp only [rsOf,Option.bind_eq_some_iff] at hr
  obtain ⟨n,hn,hr⟩ := hr
  split at hr
  ·rename_i hag
   simp only [Option.map_some,Option.some.injEq,List.cons.injEq,and_true] at hr
   subst hr
   have hag' : isAggB S.P t = true \/ n = 1 := by simpa using hag
   simp only [resV] at hx
   split at hx
   ·rename_i i off e
    split at hx
    ·rename_i cs hc
     split at hx
     ·rename_i hle
      cases hx
      have hb := h.ev (.tmp b)
      simp only [Xac,evO,Act.eval] at hb
      obtain ⟨g,T,vs,hg,hF,hw,hd⟩ := h.box hc
      rw [e] at hb
      have hu := h.ptr hg hb
      have hlv := hd.length
      refine ⟨if isAggB S.P t then .agg ((vs.drop off).take n).toArray else ((vs.drop off).take n).headD undef,?_,Xy8 (Xyb ((hd.drop off).take n) (hag'.imp id fun e => by simp; omega)) Ypq⟩
      simp only [Xkq,hu,asAddr,Sem.run_bind,Sem.run_pure,Result.andThen_ok]
      refine run_loadVar' hn hag' g off ((vs.drop off).take n) (by simp; omega) fun j q hq => ?_
      rw [cell_of_heap hw]
      rw [List.getElem?_take] at hq
      split at hq
      ·rw [List.getElem?_drop] at hq; simpa using hq
      ·cases hq
     ·cases hx
    ·cases hx
   ·cases hx
  ·cases hr
theorem Xsj (h : SatX S Y s a w H an F ms) : ∀ {l : List ResultVar} {m : List RV} {xs : List V},rsOf S.P l = some m -> resL s m = some xs ->
  ∃ us,(l.mapM (Xkq a.tmps)).run S.P w = .ok us w /\ All2 (Xai H an) xs us /\ us.length = l.length
 | [],m,xs,hr,hx => by
  simp [rsOf] at hr; subst hr
  simp [resL] at hx; subst hx
  exact ⟨[],by simp,trivial,rfl⟩
 | r :: l,m,xs,hr,hx => by
  obtain ⟨rv,m',rfl,h1,h2⟩ := Xhi hr
  simp only [resL] at hx
  split at hx
  ·rename_i x m hx1 hx2
   cases hx
   obtain ⟨u,hu,hd⟩ := Xy9 h h1 hx1
   obtain ⟨us,hus,hds,hl⟩ := Xsj h h2 hx2
   exact ⟨u :: us,by simp only [List.mapM_cons,Sem.run_bind,hu,Result.andThen_ok,hus,Sem.run_pure],⟨hd,hds⟩,by simp [hl]⟩
  ·cases hx
theorem Xq0 {fn : Func} {res : V} (h : SatX S Y s a w H an F ms) (hr : rsOf S.P fn.results.toList = some S.rs) (hx : Xx9 s S.rs = some res) :
  ∃ u,(results fn a.tmps).run S.P w = .ok u w /\ DenV H an res u := by
 have hres : results fn a.tmps = (do let vs <- fn.results.mapM (Xkq a.tmps); pure (if h : vs.size = 1 then vs[0] else .tuple vs)) := by
  unfold results
  congr 2
 rw [hres]
 have key : ∀ (us : List Value),(fn.results.toList.mapM (Xkq a.tmps)).run S.P w = .ok us w -> (do let vs <- fn.results.mapM (Xkq a.tmps); pure (if h : vs.size = 1 then vs[0] else .tuple vs) : Sem Value).run S.P w = .ok (if h : us.toArray.size = 1 then us.toArray[0] else .tuple us.toArray) w := by
  intro us hus
  rw [Array.mapM_eq_mapM_toList]
  simp only [Sem.run_bind,Sem.run_map,hus,Result.andThen_ok,Sem.run_pure]
 unfold Xx9 at hx
 split at hx
 ·rename_i r hrs
  rw [hrs] at hr
  cases hl : fn.results.toList with
  | nil => rw [hl] at hr; simp [rsOf] at hr
  | cons r0 l =>
   rw [hl] at hr
   obtain ⟨rv,m',e,h1,h2⟩ := Xhi hr
   cases e
   have hl0 : l = [] := by
    cases l with
    | nil => rfl
    | cons r1 l => obtain ⟨_,_,e,_⟩ := Xhi h2; cases e
   subst hl0
   obtain ⟨u,hu,hd⟩ := Xy9 h h1 hx
   refine ⟨u,?_,Ypp hd⟩
   have := key [u] (by rw [hl]; simp only [List.mapM_cons,List.mapM_nil,Sem.run_bind,hu,Result.andThen_ok,Sem.run_pure])
   simpa using this
 ·rename_i hne
  split at hx
  ·rename_i m hm
   cases hx
   obtain ⟨us,hus,hd,hl⟩ := Xsj h hr hm
   have hlen : us.length ≠ 1 := by
    intro e
    have : S.rs.length = 1 := by
     have : ∀ {l : List ResultVar} {m : List RV},rsOf S.P l = some m -> m.length = l.length := by
      intro l
      induction l with
      | nil => intro m h; simp [rsOf] at h; subst h; rfl
      | cons r l ih => intro m h; obtain ⟨rv,m',rfl,h1,h2⟩ := Xhi h; simp [ih h2]
     rw [this hr,<- hl,e]
    match hrs : S.rs,this with
    | [r],_ => exact hne r hrs
   refine ⟨_,key us hus,?_⟩
   rw [dif_neg (by simpa using hlen)]
   exact ⟨us,rfl,hd⟩
  ·cases hx
theorem SatX.unmark {r : Nat} (h : SatX S Y s a w H an F (r :: ms)) {a' : Act} (ha : a'.tmps = a.tmps) (hd : a'.defers = ms.map mark) :
  SatX S Y s a' { w with heap := w.heap.setIfInBounds r (.deferred none) } H an F ms := by
 obtain ⟨h1,h2,h3,h4⟩ := h.mks r (by simp)
 have hnd := List.nodup_cons.1 h.nd
 have keep : ∀ b,b ≠ r -> (w.heap.setIfInBounds r (.deferred none))[b]? = w.heap[b]? := fun b hb => by
  rw [Array.getElem?_setIfInBounds,if_neg (fun e => hb e.symm)]
 refine ⟨h.gp,h.h0,?_,by rw [ha]; exact h.fr,h.anc,?_,h.fl,?_,h.dj,h.hn,?_,h.os,h.tape,h.output,by simpa using h.size,hd,?_,hnd.2,h.al,h.npl,h.ro⟩
 ·intro b o hb
  exact (keep b (fun e => by subst e; rw [h2] at hb; cases hb)).trans (h.mod b o hb)
 ·intro i c hc
  obtain ⟨p,hp,hs⟩ := h.own i c hc
  exact ⟨p,hp,hs.keep (Heap.Le.refl _) (Anc.Le.refl _) fun x hx => keep x (fun e => by subst e; exact h4 i hx)⟩
 ·intro i b hb
  obtain ⟨g1,g2,g3⟩ := h.fp i b hb
  exact ⟨by simpa using g1,g2,g3⟩
 ·intro b hb
  obtain ⟨g1,g2⟩ := h.ub b hb
  exact ⟨g1,(keep b (fun e => by subst e; exact h3 hb)).trans g2⟩
 ·intro q hq
  obtain ⟨g1,g2,g3,g4⟩ := h.mks q (by simp [hq])
  exact ⟨(keep q (fun e => by subst e; exact hnd.1 hq)).trans g1,g2,g3,g4⟩
theorem Xjd {fn : Func} {R : Ending -> World -> Prop} (hR : ∀ a' w' F',a'.tmps = a.tmps -> SatX S Y s a' w' H an F' [] -> ∃ v,(results fn a.tmps).run S.P w' = .ok v w' /\ R (.returned v) w') :
  ∀ (ms : List Nat) (w : World) (a' : Act) (F : Nat -> Nat -> Prop),a'.tmps = a.tmps -> SatX S Y s a' w H an F ms -> LeavesInM Fence.wide 0 S.P fn a.tmps R (ms.map mark) .returning w
 | [],w,a',F,ha,h => hR a' w F ha h
 | r :: ms,w,a',F,ha,h => by
  refine ⟨by simp,.inl ⟨r,_,rfl,?_,Xjd hR ms _ ⟨a.tmps,ms.map mark⟩ F rfl (h.unmark ha.symm rfl)⟩⟩
  obtain ⟨h1,_⟩ := h.mks r (by simp)
  simp only [Instr.takeDeferred,Sem.run_bind,Xch h1 (by simp),Result.andThen_ok,Xes h1 (by simp),Sem.run_pure]
theorem Xoy {bn : Anc} {x : A} {u : Value} (h : Xa7 H an x u) (hr : x.refs0 = []) : Xa7 H bn x u := by
 cases x <;> first | exact h | (simp [A.refs0] at hr; done)
theorem Xf1 {bn : Anc} : ∀ {xs : List A} {us : List Value},All2 (Xa7 H an) xs us -> xs.flatMap A.refs0 = [] -> All2 (Xa7 H bn) xs us
 | [],[],_,_ => trivial
 | x :: xs,u :: us,h,hr => by
  simp only [List.flatMap_cons,List.append_eq_nil_iff] at hr
  exact ⟨Xoy h.1 hr.1,Xf1 h.2 hr.2⟩
theorem Xsk {bn : Anc} {x : A} {u : Value} (h : DenA H an x u) (hr : x.refs = []) : DenA H bn x u := by
 cases x with
 | clo f caps => obtain ⟨vs,e,hv⟩ := h; exact ⟨vs,e,Xf1 hv hr⟩
 | mvo f ag rcv =>
  cases ag with
  | false => obtain ⟨v,e,hv⟩ := h; exact ⟨v,e,Xf1 hv hr⟩
  | true => obtain ⟨vs,e,hv⟩ := h; exact ⟨vs,e,Xf1 hv hr⟩
 | ifo t a => obtain ⟨v,e,hv⟩ := h; exact ⟨v,e,Xoy hv hr⟩
 | d x => exact h
 | nil => exact h
 | un => trivial
 | own i ver => simp [A.refs,A.refs0] at hr
 | ptr i off => simp [A.refs,A.refs0] at hr
 | rp i ver sz e off => simp [A.refs,A.refs0] at hr
theorem Xoz {bn : Anc} : ∀ {xs : List A} {us : List Value},Xao H an xs us -> xs.flatMap A.refs = [] -> Xao H bn xs us
 | [],[],_,_ => trivial
 | x :: xs,u :: us,h,hr => by
  simp only [List.flatMap_cons,List.append_eq_nil_iff] at hr
  exact ⟨Xsk h.1 hr.1,Xoz h.2 hr.2⟩
theorem Xil {bn : Anc} {x : V} {u : Value} (h : Xai H an x u) (hr : x.refs = []) : Xai H bn x u := by
 cases x with
 | one a => exact Xsk (x := a) h hr
 | agg l => obtain ⟨vs,e,hv⟩ := h; exact ⟨vs,e,Xoz hv hr⟩
 | tup l => exact h
 | un => trivial
theorem Xl9 {bn : Anc} : ∀ {xs : List V} {us : List Value},All2 (Xai H an) xs us -> xs.flatMap V.refs = [] -> All2 (Xai H bn) xs us
 | [],[],_,_ => trivial
 | x :: xs,u :: us,h,hr => by
  simp only [List.flatMap_cons,List.append_eq_nil_iff] at hr
  exact ⟨Xil h.1 hr.1,Xl9 h.2 hr.2⟩
theorem Xza {bn : Anc} {x : V} {u : Value} (h : DenV H an x u) (hr : x.refsT = []) : DenV H bn x u := by
 cases x with
 | tup l => obtain ⟨vs,e,hv⟩ := h; exact ⟨vs,e,Xl9 hv hr⟩
 | one a => exact Xil (x := .one a) h hr
 | agg l => exact Xil (x := .agg l) h hr
 | un => trivial
theorem Xzb : ∀ (n : Nat),All2 (DenV H an) (List.replicate n V.un) (List.replicate n undef)
 | 0 => trivial
 | n + 1 => ⟨trivial,Xzb n⟩
theorem Xo0 {P : Program} {gp : Heap} {f : FuncId} {fn : Func} {c : Code} {m : MC} {rs : List RV} {hs : List Nat} {args : List V} {pre : List Ch} {R : V -> List Ch -> Prop}
  (hf : P.funcs[f]? = some fn) (hb : fn.body = some c) (ht : trC P hs c = some m) (hr : rsOf P fn.results.toList = some rs)
  (h : G ⟨P,gp,pre.length,rs,R,false⟩ [.code m,.fin] ⟨args ++ List.replicate (fn.ntmps - args.length) .un,pre⟩) : Tri P gp f args pre R := by
 intro H w an F vs hgp hmod hanc hown hF hdj hargs
 refine (callsIn_wide (n := 0)).1 ?_
 refine callsIn_of_wp_marks (n := 0) hf hb trivial ?_
 let Y : Dyn := ⟨H,an,fun b => b < w.heap.size /\ ¬ ∃ i,F i b,w,none⟩
 have hsat : SatX ⟨P,gp,pre.length,rs,R,false⟩ Y ⟨args ++ List.replicate (fn.ntmps - args.length) .un,pre⟩ { tmps := vs.toArray ++ Array.replicate (fn.ntmps - vs.toArray.size) undef,defers := [] } w H an F [] := by
  refine ⟨hgp,Heap.Le.refl _,hmod,?_,hanc,hown,fun i b hb => (hF i b hb).1,fun i b hb => ⟨(hF i b hb).2.1,(hF i b hb).2.2,fun hu => hu.2 ⟨i,hb⟩⟩,hdj,fun b o hb => .inl hb,fun b hb => ⟨hb.1,rfl⟩,rfl,rfl,rfl,Nat.le_refl _,rfl,by simp,by simp,Anc.Le.refl _,fun i p hp => (hanc i).1 ⟨p,hp⟩,.inr rfl⟩
  have := hargs.append (Xzb (H := H) (an := an) (fn.ntmps - args.length))
  rw [hargs.length] at this ⊢
  simpa using this
 have hG := h Y _ w ⟨H,an,F,[],hsat⟩ hs c ht
 refine wpIn_mono hG ?_
 intro e a' w' hm
 obtain ⟨he,s',res,⟨H',an',F',ms,hs'⟩,hres,hR⟩ := hm
 have hleave : LeavesInM Fence.wide 0 P fn a'.tmps (fun e w' => ∃ (v : Value) (res : V) (post : List Ch) (H' : Heap) (an' : Anc) (F' : Nat -> Nat -> Prop),e = .returned v /\ R res post /\
   WKeep w w' (fun b => ∃ i,F i b) /\ Heap.Le H H' /\ Xco w' H' /\ (∀ b o,H' b = some o -> H b = some o \/ w.heap.size <= b \/ ∃ i,F i b) /\
   Anc.Le an an' /\ (∀ i,(∃ p,an' i = some p) ↔ i < post.length) /\ (∀ i c,post[i]? = some c -> ∃ p,an' i = some p /\ Xb4 H' an' w' c p (F' i)) /\
   (∀ i b,F' i b -> i < post.length /\ b < w'.heap.size /\ H' b = none /\ (w.heap.size <= b \/ ∃ j,F j b)) /\ (∀ i j b,F' i b -> F' j b -> i = j) /\ DenV H' an' res v) a'.defers .returning w' := by
  rw [hs'.df]
  refine Xjd (S := ⟨P,gp,pre.length,rs,R,false⟩) (Y := Y) (s := s') ?_ ms w' a' F' rfl hs'
  intro a2 w2 F2 ha2 h2
  obtain ⟨u,hu,hd⟩ := Xq0 h2 hr hres
  rw [ha2] at hu
  refine ⟨u,hu,u,res.nrm2,?_⟩
  have hwk : WKeep w w2 (fun b => ∃ i,F i b) := ⟨h2.os,h2.tape,h2.output,h2.size,fun b hb hn => (h2.ub b ⟨hb,hn⟩).2⟩
  have hnew : ∀ b o,H' b = some o -> H b = some o \/ w.heap.size <= b \/ ∃ i,F i b := fun b o hb => by
   rcases h2.hn b o hb with h3 | h3
   ·exact .inl h3
   ·by_cases hlt : b < w.heap.size
    ·exact .inr (.inr (Classical.byContradiction fun hn => h3 ⟨hlt,hn⟩))
    ·exact .inr (.inl (by omega))
  have hmay : ∀ i b,F2 i b -> w.heap.size <= b \/ ∃ j,F j b := fun i b hb => by
   have := (h2.fp i b hb).2.2
   by_cases hlt : b < w.heap.size
   ·exact .inr (Classical.byContradiction fun hn => this ⟨hlt,hn⟩)
   ·exact .inl (by omega)
  rcases hR with hR | ⟨hnp,hrefs,hR⟩
  ·refine ⟨s'.own,H',an',F2,rfl,hR,hwk,h2.h0,h2.mod,hnew,h2.al,h2.anc,h2.own,fun i b hb => ?_,h2.dj,hd.nrm2⟩
   obtain ⟨g1,g2,_⟩ := h2.fp i b hb
   exact ⟨h2.fl i b hb,g1,g2,hmay i b hb⟩
  ·refine ⟨[],H',fun _ => none,fun _ _ => False,rfl,hR,hwk,h2.h0,h2.mod,hnew,⟨fun i p hp => ?_⟩,by simp,by simp,by simp,by simp,(Xza hd hrefs).nrm2⟩
   have := (hanc i).1 ⟨p,hp⟩
   have hnp' : pre.length = 0 := hnp
   omega
 rcases he with rfl | rfl <;> exact hleave
theorem Xw8 {P : Program} {gp : Heap} {f : FuncId} {fn : Func} {c : Code} {m : MC} {rs : List RV} {hs : List Nat} {args : List V} {res : V}
  (hc : Xaa P f = true) (hf : P.funcs[f]? = some fn) (hb : fn.body = some c) (ht : trC P hs c = some m) (hr : rsOf P fn.results.toList = some rs)
  (h : G ⟨P,gp,0,rs,fun r c => r = res /\ c = [],false⟩ [.code m,.fin] ⟨args ++ List.replicate (fn.ntmps - args.length) .un,[]⟩) : Does P gp f args res := ⟨hc,Xo0 hf hb ht hr h⟩
end
end Go.Fw
namespace Go.Fw
open Go
section
variable {S : Sx} {Y : Dyn} {k : List MI} {s : St} {a : Act} {w w' : World} {H : Heap} {an : Anc} {F : Nat -> Nat -> Prop} {ms : List Nat}
theorem SatX.reframe (h : SatX S Y s a w H an F ms) {fr' : List V} (hf : All2 (DenV H an) fr' a.tmps.toList) : SatX S Y ⟨fr',s.own⟩ a w H an F ms :=
 ⟨h.gp,h.h0,h.mod,hf,h.anc,h.own,h.fl,h.fp,h.dj,h.hn,h.ub,h.os,h.tape,h.output,h.size,h.df,h.mks,h.nd,h.al,h.npl,h.ro⟩
def Xw9 : List V -> List V -> Prop
 | [],[] => True
 | v :: l,u :: m => (u = .un \/ u = v) /\ Xw9 l m
 | _,_ => False
theorem Xw9.den : ∀ {l m : List V} {us : List Value},Xw9 l m -> All2 (DenV H an) l us -> All2 (DenV H an) m us
 | [],[],[],_,_ => trivial
 | v :: l,u :: m,x :: us,h,hd => by
  refine ⟨?_,Xw9.den h.2 hd.2⟩
  rcases h.1 with rfl | rfl
  ·trivial
  ·exact hd.1
 | [],_ :: _,_,h,_ => h.elim
 | _ :: _,[],_,h,_ => h.elim
 | [],[],_ :: _,_,h => h.elim
 | _ :: _,_ :: _,[],_,h => h.elim
theorem Xfl (fr' : List V) (hf : Xw9 s.fr fr') (h : G S k ⟨fr',s.own⟩) : G S k s := by
 rintro Y a w ⟨H,an,F,ms,hs⟩
 exact h Y a w ⟨H,an,F,ms,hs.reframe (hf.den hs.fr)⟩
def Xim (n : Nat) (l : List Nat) : Bool := l.all fun i => decide (i < n)
theorem Xma {n : Nat} {l : List Nat} (h : Xim n l = true) : ∀ i ∈ l,i < n := fun i hi => by
 have := List.all_eq_true.1 h i hi; simpa using this
theorem SatX.cut (n : Nat) (hn : ∀ i p,Y.an0 i = some p -> i < n) (h1 : (s.fr.all fun v => Xim n v.refsT) = true) (h2 : ((s.own.take n).all fun c => Xim n c.refs) = true) (hs : SatX S Y s a w H an F ms) :
  SatX S Y ⟨s.fr,s.own.take n⟩ a w H (fun i => if i < n then an i else none) (fun i b => i < n /\ F i b) ms := by
 refine ⟨hs.gp,hs.h0,hs.mod,?_,?_,?_,?_,?_,?_,hs.hn,hs.ub,hs.os,hs.tape,hs.output,hs.size,hs.df,?_,hs.nd,?_,hs.npl,hs.ro⟩
 ·have : ∀ (l : List V) (m : List Value),(l.all fun v => Xim n v.refsT) = true -> All2 (DenV H an) l m -> All2 (DenV H fun i => if i < n then an i else none) l m := by
   intro l
   induction l with
   | nil => intro m _ h; cases m <;> exact h
   | cons e l ih =>
    intro m hr h
    cases m with
    | nil => exact h.elim
    | cons en m =>
     simp only [List.all_cons,Bool.and_eq_true] at hr
     exact ⟨Xr3 h.1 fun i hi => if_pos (Xma hr.1 i hi),ih m hr.2 h.2⟩
  exact this _ _ h1 hs.fr
 ·intro i
  simp only [List.length_take]
  by_cases e : i < n
  ·simp only [if_pos e]; rw [hs.anc i]; omega
  ·simp only [if_neg e]; constructor
   ·rintro ⟨p,hp⟩; cases hp
   ·intro; omega
 ·intro i c hc
  rw [List.getElem?_take] at hc
  split at hc
  ·rename_i hi
   obtain ⟨p,hp,hsc⟩ := hs.own i c hc
   refine ⟨p,by simp only [if_pos hi]; exact hp,?_⟩
   have hcr := List.all_eq_true.1 h2 c (List.mem_of_getElem? (i := i) (by rw [List.getElem?_take,if_pos hi]; exact hc))
   have := hsc.on (bn := fun i => if i < n then an i else none) fun j hj => if_pos (Xma hcr j hj)
   have e : (fun b => i < n /\ F i b) = F i := by funext b; simp [hi]
   rw [e]; exact this
  ·cases hc
 ·intro i b hb; have := hs.fl i b hb.2; simp only [List.length_take]; omega
 ·exact fun i b hb => hs.fp i b hb.2
 ·exact fun i j b hi hj => hs.dj i j b hi.2 hj.2
 ·exact fun r hr => let ⟨g1,g2,g3,g4⟩ := hs.mks r hr; ⟨g1,g2,g3,fun i hi => g4 i hi.2⟩
 ·refine ⟨fun i p hp => ?_⟩
  obtain ⟨q,hq,h3⟩ := hs.al.same i p hp
  exact ⟨q,by show (if i < n then an i else none) = some q; rw [if_pos (hn i p hp)]; exact hq,h3⟩
theorem Xgl (n : Nat) (hn : S.np <= n) (h1 : (s.fr.all fun v => Xim n v.refsT) = true) (h2 : ((s.own.take n).all fun c => Xim n c.refs) = true) (h : G S k ⟨s.fr,s.own.take n⟩) : G S k s := by
 rintro Y a w ⟨H,an,F,ms,hs⟩
 exact h Y a w ⟨H,_,_,ms,hs.cut n (fun i p hp => Nat.lt_of_lt_of_le (hs.npl i p hp) hn) h1 h2⟩
def sub0 (j : Nat) (c : Ch) : A -> A
 | .own i ver => if i = j then (match c with
   | .row _ ver' xs => if ver' = ver then .d (.sl xs) else .un
   | _ => .un) else .own i ver
 | .ptr i off => if i = j then (match c with
   | .cells cs => (match allD cs with | some ds => .d (.bx (ds.drop off)) | none => .un)
   | _ => .un) else .ptr i off
 | .rp i ver sz e off => if i = j then (match c with
   | .row sz' ver' xs => if ver' = ver /\ sz' = sz then (match xs[e]? with | some x => .d (.bx (x.drop off)) | none => .un) else .un
   | _ => .un) else .rp i ver sz e off
 | a => a
def subA (j : Nat) (c : Ch) : A -> A
 | .clo f caps => (match allD (caps.map (sub0 j c)) with | some ds => .d (.fn f ds) | none => .clo f (caps.map (sub0 j c)))
 | .mvo f ag rcv => .mvo f ag (rcv.map (sub0 j c))
 | .ifo t a => (match sub0 j c a with | .d x => .d (.ifc t false [x]) | b => .ifo t b)
 | a => sub0 j c a
def subV (j : Nat) (c : Ch) : V -> V
 | .one a => .one (subA j c a)
 | .agg l => .agg (l.map (subA j c))
 | v => v
def subT (j : Nat) (c : Ch) : V -> V
 | .tup l => .tup (l.map (subV j c))
 | v => subV j c v
def subC (j : Nat) (c : Ch) : Ch -> Ch
 | .cells cs => .cells (cs.map (subA j c))
 | .map es => .map (es.map fun e => (subV j c e.1,subV j c e.2))
 | .bld T y => .bld T (subA j c y)
 | x => x
def Ch.froz : Ch -> Bool
 | .row .. => true
 | .cells cs => (allD cs).isSome
 | _ => false
section
variable {j : Nat} {c : Ch}
theorem Xm5 (h : SatX S Y s a w H an F ms) (hc : getC s.own j = c) {x : A} {u : Value} (hx : Xa7 H an x u) : Xa7 (Xc9 (F j) w H) an (sub0 j c x) u := by
 have hle := Xfz (j := j) h
 cases x with
 | own i ver =>
  simp only [sub0]
  split
  ·rename_i e
   subst e
   split
   ·rename_i sz ver' xs
    split
    ·rename_i hv
     subst hv
     obtain ⟨p,hp,hps,h0,hsz,hlen,h4⟩ := h.row hc
     have hu : u = p := Xct hp (show DenV H an (.one (.own i ver')) u from hx)
     show Den _ _ _
     rcases h4 with ⟨rfl,⟨A,rfl⟩,_⟩ | ⟨b,of,cap,vs,T,rfl,e2,e3,e4,e5,e6⟩
     ·rw [hu]; exact Den.slE _ _
     ·rw [hu]
      exact Dens.row (cells := vs) (T := T) (fz := (0,0)) h0 (by rw [Xjl ((e2 b).2 rfl)]; exact e3) hsz e4 hlen (Dens.mono hle e6)
    ·trivial
   ·trivial
  ·exact Xa7.mono (a := .own i ver) hle (Anc.Le.refl _) hx
 | ptr i off =>
  simp only [sub0]
  split
  ·rename_i e
   subst e
   split
   ·rename_i cs
    split
    ·rename_i ds hds
     obtain ⟨b,T,vs,hb,hF,hw,hd⟩ := h.box hc
     have hu := h.ptr hb (show DenV H an (.one (.ptr i off)) u from hx)
     have hdd := Xdj hds hd
     show Den _ _ _
     rw [hu]
     refine Den.bx _ b off vs.toArray T (0,0) (fun k => vs.getD (off + k) undef) (by rw [Xjl ((hF b).2 rfl)]; exact hw) (fun k y hy => ?_) (fun k y hy => ?_)
     ·rw [List.getElem?_drop] at hy
      obtain ⟨q,hq,_⟩ := hdd.get hy
      simp [List.getD,hq]
     ·rw [List.getElem?_drop] at hy
      obtain ⟨q,hq,hqd⟩ := hdd.get hy
      simp only [List.getD,hq,Option.getD_some]
      exact Den.mono hle hqd
    ·trivial
   ·trivial
  ·exact Xa7.mono (a := .ptr i off) hle (Anc.Le.refl _) hx
 | rp i ver sz e off =>
  simp only [sub0]
  split
  ·rename_i ei
   subst ei
   split
   ·rename_i sz' ver' xs
    split
    ·rename_i hv
     obtain ⟨rfl,rfl⟩ := hv
     split
     ·rename_i y hy
      obtain ⟨p,hp,hps,h0,hsz,hlen,h4⟩ := h.row hc
      rcases h4 with ⟨rfl,_⟩ | ⟨b,of,cap,vs,T,rfl,e2,e3,e4,e5,e6⟩
      ·simp at hy
      ·have hu := h.rp hp (show DenV H an (.one (.rp i ver' sz' e off)) u from hx)
       have hd := Dens.elem hsz hy e6
       show Den _ _ _
       rw [hu]
       have key : ∀ (k : Nat) (z : D),(y.drop off)[k]? = some z -> ∃ q,vs[of + e * sz' + off + k]? = some q /\ Den H z q := by
        intro k z hz
        obtain ⟨q,hq,hqd⟩ := (hd.drop off).get hz
        refine ⟨q,?_,hqd⟩
        rw [List.getElem?_drop,List.getElem?_take] at hq
        split at hq
        ·rw [List.getElem?_drop,List.getElem?_take] at hq
         split at hq
         ·rw [List.getElem?_drop] at hq
          rw [<- Array.getElem?_toList,<- hq]; congr 1; omega
         ·cases hq
        ·cases hq
       refine Den.bx _ b (of + e * sz' + off) vs T (0,0) (fun k => vs.getD (of + e * sz' + off + k) undef) (by rw [Xjl ((e2 b).2 rfl)]; exact e3) (fun k z hz => ?_) (fun k z hz => ?_)
       ·obtain ⟨q,hq,_⟩ := key k z hz
        simp [Array.getD_eq_getD_getElem?,hq]
       ·obtain ⟨q,hq,hqd⟩ := key k z hz
        simp only [Array.getD_eq_getD_getElem?,hq,Option.getD_some]
        exact Den.mono hle hqd
     ·trivial
    ·trivial
   ·trivial
  ·exact Xa7.mono (a := .rp i ver sz e off) hle (Anc.Le.refl _) hx
 | d x => exact Den.mono hle hx
 | nil => exact hx
 | clo f caps => exact hx
 | mvo f ag rcv => exact hx
 | ifo t a => exact hx
 | un => trivial
theorem Xsl {x : A} {u : Value} (h : Xa7 H an x u) : DenA H an x u := by
 cases x <;> first | exact h | exact h.elim
theorem Xm6 (h : SatX S Y s a w H an F ms) (hc : getC s.own j = c) {x : A} {u : Value} (hx : DenA H an x u) : DenA (Xc9 (F j) w H) an (subA j c x) u := by
 have base : ∀ {x : A} {u : Value},Xa7 H an x u -> DenA (Xc9 (F j) w H) an (sub0 j c x) u := fun hx => Xsl (Xm5 h hc hx)
 have all : ∀ {xs : List A} {us : List Value},All2 (Xa7 H an) xs us -> All2 (Xa7 (Xc9 (F j) w H) an) (xs.map (sub0 j c)) us := fun hx => by
  have := All2.map (R := Xa7 (Xc9 (F j) w H) an) (f := sub0 j c) (g := id) (fun a b hab => Xm5 h hc hab) hx
  simpa using this
 cases x with
 | clo f caps =>
  obtain ⟨vs,rfl,hv⟩ := hx
  simp only [subA]
  split
  ·rename_i ds hds
   have hd := Xdj hds ((all hv).mono fun _ _ q => Xsl q)
   exact Den.fn f ds vs hd.length.symm fun k y v hy hv' => by
    obtain ⟨q,hq,hqd⟩ := hd.get hy
    rw [hv'] at hq; cases hq; exact hqd
  ·exact ⟨vs,rfl,all hv⟩
 | mvo f ag rcv =>
  cases ag with
  | false => obtain ⟨v,rfl,hv⟩ := hx; exact ⟨v,rfl,all hv⟩
  | true => obtain ⟨vs,rfl,hv⟩ := hx; exact ⟨vs,rfl,all hv⟩
 | ifo t a =>
  obtain ⟨v,rfl,hv⟩ := hx
  have := Xm5 h hc hv
  simp only [subA]
  split
  ·rename_i x e
   rw [e] at this
   exact Den.ifcV t x v this
  ·exact ⟨v,rfl,this⟩
 | d x => exact base (x := .d x) hx
 | nil => exact base (x := .nil) hx
 | un => trivial
 | own i ver => exact base (x := .own i ver) hx
 | ptr i off => exact base (x := .ptr i off) hx
 | rp i ver sz e off => exact base (x := .rp i ver sz e off) hx
theorem Xo1 (h : SatX S Y s a w H an F ms) (hc : getC s.own j = c) {xs : List A} {us : List Value} (hx : Xao H an xs us) : Xao (Xc9 (F j) w H) an (xs.map (subA j c)) us := by
 have := All2.map (R := DenA (Xc9 (F j) w H) an) (f := subA j c) (g := id) (fun a b hab => Xm6 h hc hab) hx
 simpa using this
theorem Xhj (h : SatX S Y s a w H an F ms) (hc : getC s.own j = c) {x : V} {u : Value} (hx : Xai H an x u) : Xai (Xc9 (F j) w H) an (subV j c x) u := by
 cases x with
 | one a => exact Xm6 h hc hx
 | agg l => obtain ⟨vs,rfl,hv⟩ := hx; exact ⟨vs,rfl,Xo1 h hc hv⟩
 | tup l => exact hx
 | un => trivial
theorem Xsm (h : SatX S Y s a w H an F ms) (hc : getC s.own j = c) {x : V} {u : Value} (hx : DenV H an x u) : DenV (Xc9 (F j) w H) an (subT j c x) u := by
 cases x with
 | tup l =>
  obtain ⟨vs,rfl,hv⟩ := hx
  refine ⟨vs,rfl,?_⟩
  have := All2.map (R := Xai (Xc9 (F j) w H) an) (f := subV j c) (g := id) (fun a b hab => Xhj h hc hab) hv
  simpa using this
 | one a => exact Xhj (x := .one a) h hc hx
 | agg l => exact Xhj (x := .agg l) h hc hx
 | un => trivial
theorem Yc0 (h : SatX S Y s a w H an F ms) (hc : getC s.own j = c) {x : Ch} {p : Nat × Value} {f : Nat -> Prop} (hx : Xb4 H an w x p f) : Xb4 (Xc9 (F j) w H) an w (subC j c x) p f := by
 have hk := hx.keep (w' := w) (Xfz (j := j) h) (Anc.Le.refl _) fun _ _ => rfl
 cases x with
 | cells cs => obtain ⟨h0,b,T,vs,h1,h2,h3,h4⟩ := hx; exact ⟨h0,b,T,vs,h1,h2,h3,Xo1 h hc h4⟩
 | bld T y => obtain ⟨h0,b,p0,v,T',h1,h2,h3,h4,h5⟩ := hx; exact ⟨h0,b,p0,v,T',h1,h2,h3,h4,Xm6 h hc h5⟩
 | map es =>
  obtain ⟨h0,b,ents,clk,h1,h2,h3,h4⟩ := hx
  refine ⟨h0,b,ents,clk,h1,h2,h3,?_⟩
  have := All2.map (R := fun (e : V × V) (en : MapEntry) => Xai (Xc9 (F j) w H) an e.1 en.key /\ Xai (Xc9 (F j) w H) an e.2 en.val) (f := fun e => (subV j c e.1,subV j c e.2)) (g := id) (fun a b hab => ⟨Xhj h hc hab.1,Xhj h hc hab.2⟩) h4
  simpa using this
 | _ => exact hk
end
def frzS (j : Nat) (s : St) : St := ⟨s.fr.map (subT j (getC s.own j)),(s.own.map (subC j (getC s.own j))).set j .dead⟩
theorem SatX.freeze (h : SatX S Y s a w H an F ms) (j : Nat) : SatX S Y (frzS j s) a w (Xc9 (F j) w H) an (fun i b => i ≠ j /\ F i b) ms := by
 have h1 := h.evolve (may := fun _ => False) (own' := (s.own.map (subC j (getC s.own j))).set j .dead) (F' := fun i b => i ≠ j /\ F i b) (WKeep.refl w _) (fun _ hb => hb.elim) (Xfz (j := j) h) (Xjb h) (fun b o hb => by
   unfold Xc9 at hb
   split at hb
   ·rename_i hx; exact .inr (.inr ⟨j,hx⟩)
   ·exact .inl hb) (Anc.Le.refl _) (fun i => by simp [h.anc i]) (fun i c hc => by
   rw [List.getElem?_set] at hc
   split at hc
   ·rename_i e
    subst e
    split at hc
    ·rename_i hl
     cases hc
     simp at hl
     obtain ⟨p,hp⟩ := (h.anc j).2 hl
     exact ⟨p,hp,fun b hb => hb.1 rfl⟩
    ·cases hc
   ·rename_i e
    rw [List.getElem?_map] at hc
    cases e' : s.own[i]? with
    | none => simp [e'] at hc
    | some c0 =>
     simp [e'] at hc
     subst hc
     obtain ⟨p,hp,hs⟩ := h.own i c0 e'
     have ef : (fun b => i ≠ j /\ F i b) = F i := by funext b; simp [Ne.symm e]
     refine ⟨p,hp,?_⟩
     rw [ef]
     exact Yc0 h rfl hs) (fun i b hb => by
   obtain ⟨g1,g2,g3⟩ := h.fp i b hb.2
   refine ⟨by simpa using h.fl i b hb.2,g1,?_,.inr ⟨i,hb.2⟩⟩
   unfold Xc9
   rw [if_neg (fun hj => hb.1 (h.dj i j b hb.2 hj))]
   exact g2) (fun i i' b hi hi' => h.dj i i' b hi.2 hi'.2)
 refine h1.reframe ?_
 have := All2.map (R := DenV (Xc9 (F j) w H) an) (f := subT j (getC s.own j)) (g := id) (fun a b hab => Xsm h rfl hab) h.fr
 simpa using this
theorem Xar (j : Nat) (h : G S k (frzS j s)) : G S k s := by
 rintro Y a w ⟨H,an,F,ms,hs⟩
 exact h Y a w ⟨_,_,_,ms,hs.freeze j⟩
theorem Xm7 : ∀ {k : List MI} {l : Nat} {a : Act} {w : World},¬ Mx S Y k (.goto l) a w
 | [],_,_,_,h => h
 | .code _ :: k,_,_,_,h => Xm7 (k := k) h
 | .blk _ :: k,_,_,_,h => Xm7 (k := k) h
 | .again _ :: k,_,_,_,h => Xm7 (k := k) h
 | .rnd _ :: _,_,_,_,h => by rcases h.1 with h | h | ⟨_,h⟩ <;> cases h
 | .fin :: _,_,_,_,h => by rcases h.1 with h | h <;> cases h
theorem Xdb {P : Program} {b : Frame} {cs : List Frame} {k : List Item} {c : Code} : step P (lone (b.atR a (.code (.scope c) :: k)) cs w) = .next (lone (b.atR a (.code c :: .inScope c :: k)) cs w) :=
 step_lone_go (by simp [stepG,stepG.exec,Frame.atR])
theorem Xm8 {P : Program} {b : Frame} {cs : List Frame} {k : List Item} {c : Code} : step P (lone (b.atR a (.inScope c :: k)) cs w) = .next (lone (b.atR a k) cs w) :=
 step_lone_go (by simp [stepG,stepG.exec,Frame.atR])
theorem Xxa {F : Fence} {n : Nat} {P : Program} {c : Code} {Q : Exit -> Act -> World -> Prop} (hg : ∀ l a w,¬ Q (.goto l) a w) (h : c.wpIn F n P Q a w) : (Code.scope c).wpIn F n P Q a w := by
 intro b k cs hro hb hr
 have h0 : (lone (b.atR a (.code (.scope c) :: k)) cs w).fenced P F := fenced_calm hb hr rfl
 obtain ⟨e,a₁,w₁,hq,harr⟩ := h b (.inScope c :: k) cs hro hb hr
 cases e with
 | normal => exact ⟨.normal,a₁,w₁,hq,.head h0 Xdb (StepsIn.trans harr (.one (fenced_calm hb hr rfl) Xm8))⟩
 | exit id =>
  have hx : exitTo id (.inScope c :: k) = exitTo id k := by simp [exitTo]
  exact ⟨.exit id,a₁,w₁,hq,fun k' hk => .head h0 Xdb (harr.1 k' (by rw [hx]; exact hk)),
   fun hr' hk => let ⟨k₁,h1,h2⟩ := harr.2 hr' (by rw [hx]; exact hk); ⟨k₁,h1,.head h0 Xdb h2⟩⟩
 | goto l => exact absurd hq (hg l a₁ w₁)
 | ret => exact ⟨_,a₁,w₁,hq,.of_steps (.one h0 Xdb) harr⟩
 | panic ch => exact ⟨_,a₁,w₁,hq,.of_steps (.one h0 Xdb) harr⟩
 | outgrown => exact ⟨_,a₁,w₁,hq,.of_steps (.one h0 Xdb) harr⟩
theorem Ypr {x : MC} (h : G S (.code x :: k) s) : G S (.code (.scope x) :: k) s := by
 intro Y a w hs hs' c hc
 obtain ⟨c1,rfl,h1⟩ := Xy4 hc
 exact Xxa (fun _ _ _ => Xm7) (h Y a w hs hs' c1 h1)
end
end Go.Fw
namespace Go.Fw
open Go
section
variable {S : Sx} {Y : Dyn} {s : St} {a : Act} {w : World} {H : Heap} {an : Anc} {F : Nat -> Nat -> Prop} {ms : List Nat} {k : List MI}
theorem Sat.lay {fr : List V} {own : List Ch} (h : Sat S Y ⟨fr,own⟩ a w) {j t : Nat} {cs : List A} {ds : List D} (hc : getC own j = .cells cs) (hds : allD cs = some ds) (ht : getV fr t = .one (.ptr j 0)) :
  Sat S Y ⟨setV fr t (.one (.d (.bx ds))),own.set j .dead⟩ a w := by
 obtain ⟨H,an,F,ms,hs⟩ := h
 have h1 := hs.freeze_at j
 obtain ⟨u,hu,hd⟩ := hs.fr.get (Xaz _ _ _ ht (by simp))
 have hd2 := Xsm hs (j := j) rfl hd
 have e : subT j (getC own j) (.one (.ptr j 0)) = .one (.d (.bx ds)) := by simp [subT,subV,subA,sub0,hc,hds]
 simp only [e] at hd2
 refine ⟨_,an,_,ms,h1.reframe ?_⟩
 have := Xbi fr a.tmps.toList t (.one (.d (.bx ds))) u h1.fr hd2
 rwa [Xif hu] at this
def cntD (f : Nat -> Bool) : Nat -> Nat
 | 0 => 0
 | n + 1 => cntD f n + if f n then 1 else 0
theorem Xf2 {f g : Nat -> Bool} : ∀ n,(∀ i,i < n -> f i = g i) -> cntD f n = cntD g n
 | 0,_ => rfl
 | n + 1,h => by simp only [cntD]; rw [Xf2 n fun i hi => h i (by omega),h n (by omega)]
theorem Xsn {f : Nat -> Bool} : ∀ n,(∀ i,i < n -> f i = true) -> cntD f n = n
 | 0,_ => rfl
 | n + 1,h => by simp only [cntD]; rw [Xsn n fun i hi => h i (by omega),h n (by omega)]; rfl
theorem Xo2 : ∀ n,cntD (fun _ => false) n = 0
 | 0 => rfl
 | n + 1 => by simp [cntD,Xo2 n]
theorem Xso {f g : Nat -> Bool} {k : Nat} : ∀ n,k < n -> f k = false -> g k = true -> (∀ i,i ≠ k -> g i = f i) -> cntD g n = cntD f n + 1
 | 0,h,_,_,_ => by omega
 | n + 1,h,h1,h2,h3 => by
  simp only [cntD]
  by_cases e : k = n
  ·subst e
   rw [Xf2 k fun i hi => h3 i (by omega),h1,h2]; simp
  ·rw [Xso n (by omega) h1 h2 h3,h3 n (by omega)]; omega
theorem Xxb {p q : Rc} {x : Var} (h : Yo8 p q = some x) : p = x.aRc /\ q = x.sRc /\ x.z.length = x.n := by
 unfold Yo8 at h
 split at h
 ·split at h
  ·rename_i e
   cases h
   obtain ⟨rfl,e2⟩ := e
   exact ⟨rfl,rfl,e2⟩
  ·cases h
 ·cases h
theorem Xgt : ∀ {l m : List Rc} {xs : List Var},Xn6 l m = some xs -> l = xs.map Var.aRc /\ m = xs.map Var.sRc /\ ∀ x ∈ xs,x.z.length = x.n
 | [],[],xs,h => by cases h; exact ⟨rfl,rfl,by simp⟩
 | a :: l,b :: m,xs,h => by
  simp only [Xn6,Option.bind_eq_some_iff,Option.map_eq_some_iff] at h
  obtain ⟨x,hx,ys,hy,rfl⟩ := h
  obtain ⟨rfl,rfl,h3⟩ := Xxb hx
  obtain ⟨rfl,rfl,h4⟩ := Xgt hy
  exact ⟨rfl,rfl,by simpa using ⟨h3,h4⟩⟩
 | [],_ :: _,_,h => by cases h
 | _ :: _,[],_,h => by cases h
theorem Xo3 : ∀ (l : List Rc) (i : Nat) (r : Rc),(l.take (lead l))[i]? = some r -> Xqd r.o = true /\ r.g = none /\ r.fx = false
 | [],i,r,h => by simp at h
 | x :: l,i,r,h => by
  simp only [lead] at h
  split at h
  ·rename_i e
   simp only [Bool.and_eq_true,Option.isNone_iff_eq_none,Bool.not_eq_true'] at e
   cases i with
   | zero => simp at h; subst h; exact ⟨e.1.1,e.1.2,e.2⟩
   | succ i => exact Xo3 l i r (by simpa using h)
  ·simp at h
theorem Xzc : ∀ l : List Rc,lead l <= l.length
 | [] => Nat.le_refl _
 | x :: l => by
  have := Xzc l
  simp only [lead,List.length_cons]
  split <;> omega
structure VOK (ms : List Nat) (m v : Nat) (fs : List Rc) (xs : List Var) : Prop where
 own : ∀ (k : Nat) (x : Var),xs[k]? = some x -> (ms.getD (m + v + k) 0).testBit (m + k) = true
 def_ : ∀ (k : Nat) (x : Var),xs[k]? = some x -> ∀ (i : Nat) (r : Rc),i < m -> fs[i]? = some r -> r.d = some x.y -> (ms.getD (m + v + k) 0).testBit i = true
 free : ∀ x ∈ xs,∀ r ∈ fs,r.d ≠ some x.t /\ x.t ∉ r.slots
 y : ∀ x ∈ xs,∀ z ∈ xs,z.y ≠ x.t
 ne : ∀ (k l : Nat) (x z : Var),xs[k]? = some x -> xs[l]? = some z -> l < k -> z.t ≠ x.t
theorem Xkr {ms : List Nat} {m v : Nat} {fs : List Rc} {xs : List Var} (hv : xs.length = v) (h : Xn7 ms m v fs xs = true) : VOK ms m v fs xs := by
 have key : ∀ (k : Nat) (x : Var),xs[k]? = some x -> Yo9 ms m v fs xs k x = true := fun k x hx => by
  have hk := (List.getElem?_eq_some_iff.1 hx).1
  have := List.all_eq_true.1 h k (List.mem_range.2 (by omega))
  rw [hx] at this
  exact this
 have key2 : ∀ (k : Nat) (x : Var),xs[k]? = some x -> _ := fun k x hx => by
  have := key k x hx
  simp only [Yo9,Bool.and_eq_true] at this
  exact this
 refine ⟨fun k x hx => (key2 k x hx).1.1.1.1,fun k x hx i r hi hr hd => ?_,fun x hx r hr => ?_,fun x hx z hz => ?_,fun k l x z hx hz hl => ?_⟩
 ·have := List.all_eq_true.1 (key2 k x hx).1.1.1.2 i (List.mem_range.2 hi)
  rw [hr] at this
  simp only [Option.all_some,Bool.or_eq_true,bne_iff_ne,ne_eq] at this
  rcases this with h1 | h1
  ·exact absurd hd h1
  ·exact h1
 ·obtain ⟨k,hk⟩ := List.mem_iff_getElem?.1 hx
  have := List.all_eq_true.1 (key2 k x hk).1.1.2 r hr
  simpa using this
 ·obtain ⟨k,hk⟩ := List.mem_iff_getElem?.1 hx
  have := List.all_eq_true.1 (key2 k x hk).1.2 z hz
  simpa using this
 ·have := List.all_eq_true.1 (key2 k x hx).2 l (List.mem_range.2 hl)
  rw [hz] at this
  simpa using this
def runL (fs : List Rc) (xs : List Var) : List Rc := fs ++ xs.map Var.bRc ++ [⟨none,none,.holes (xs.map fun x => (x.t,x.n)),false⟩]
theorem Xq1 {fs : List Rc} {xs : List Var} {i : Nat} (h : i < fs.length) : (runL fs xs)[i]? = fs[i]? := by
 unfold runL
 rw [List.append_assoc,List.getElem?_append_left h]
theorem Xo4 {fs : List Rc} {xs : List Var} {k : Nat} {x : Var} (h : xs[k]? = some x) : (runL fs xs)[fs.length + k]? = some x.bRc := by
 unfold runL
 have hk := (List.getElem?_eq_some_iff.1 h).1
 rw [List.append_assoc,List.getElem?_append_right (by omega),Nat.add_sub_cancel_left,List.getElem?_append_left (by simpa using hk),List.getElem?_map,h]
 rfl
theorem Xks {fs : List Rc} {xs : List Var} {i : Nat} {r : Rc} {t : Nat} (h : (runL fs xs)[i]? = some r) (hd : r.d = some t) : (i < fs.length /\ fs[i]? = some r) \/ ∃ (k : Nat) (x : Var),i = fs.length + k /\ xs[k]? = some x /\ x.t = t /\ r = x.bRc := by
 by_cases hi : i < fs.length
 ·rw [Xq1 hi] at h; exact .inl ⟨hi,h⟩
 ·obtain ⟨k,rfl⟩ := Nat.exists_eq_add_of_le (Nat.le_of_not_lt hi)
  by_cases hk : k < xs.length
  ·have hx := List.getElem?_eq_getElem hk
   rw [Xo4 hx] at h
   cases h
   exact .inr ⟨k,_,rfl,hx,Option.some.inj hd,rfl⟩
  ·exfalso
   unfold runL at h
   rw [List.getElem?_append_right (by simp; omega)] at h
   have : r = ⟨none,none,.holes (xs.map fun x => (x.t,x.n)),false⟩ := by
    have := List.mem_of_getElem? h
    simpa using this
   subst this
   cases hd
structure InvV (mk : List Nat) (m v : Nat) (fs : List Rc) (xs : List Var) (vs : Nat -> V) (fr0 : List V) (n0 : Nat) (D : Nat -> Bool) (e : List Ch) (pos : Nat -> Nat) (fr : List V) : Prop where
 closed : ∀ k i,D k = true -> (mk.getD k 0).testBit i = true -> D i = true
 len : fr.length = fr0.length
 base : ∀ t,(∀ x ∈ xs,x.t ≠ t) -> getV fr t = getV (frD (fun i => decide (i < m) && D i) vs (runL fs xs) fr0) t
 done : ∀ k x,xs[k]? = some x -> D (m + k) = true -> D (m + v + k) = true -> getV fr x.t = vs (m + k)
 pend : ∀ k x,xs[k]? = some x -> D (m + k) = true -> D (m + v + k) = false -> getV fr x.t = .one (.ptr (n0 + pos k) 0) /\ e[pos k]? = some (.cells (x.z.map A.ofZ))
 inj : ∀ k l,k < v -> l < v -> D (m + k) = true -> D (m + v + k) = false -> D (m + l) = true -> D (m + v + l) = false -> pos k = pos l -> k = l
 cnt : e.length = cntD (fun k => D (m + k)) v
 rest : ∀ i c,e[i]? = some c -> c = .dead \/ ∃ k,k < v /\ D (m + k) = true /\ D (m + v + k) = false /\ pos k = i
section
variable {n0 : Nat} {rs0 rs : List Rc} {vs : Nat -> V} {os : Nat -> List Ch} {fr0 : List V} {own0 : List Ch} {mk : List Nat} {m v : Nat} {fs : List Rc} {xs : List Var} {e : List Ch} {pos : Nat -> Nat} {fr : List V} {D : Nat -> Bool} {j : Nat}
theorem InvV.free (hm : fs.length = m) (hok : VOK mk m v fs xs) (hd : Xb5 mk 0 fs = true) (hlay : ∀ (i : Nat) (r : Rc),fs[i]? = some r -> Xqd r.o = true /\ r.g = none)
  (hst : ∀ j r,(runL fs xs)[j]? = some r -> Xbr S true r ⟨frD (fun i => decide (i < j)) vs (runL fs xs) fr0,os j⟩ (vs j) (os (j + 1)))
  (hI : InvV mk m v fs xs vs fr0 n0 D e pos fr) {r : Rc} (hj : fs[j]? = some r) (hDj : D j = false) (hready : ∀ i,(mk.getD j 0).testBit i = true -> D i = true) :
  Xbr S true r ⟨fr,own0 ++ e⟩ (vs j) (own0 ++ e) /\ ∀ D' : Nat -> Bool,(∀ i,i ≠ j -> D' i = D i) -> D' j = true -> InvV mk m v fs xs vs fr0 n0 D' e pos (putV fr r.d (vs j)) := by
 have hjl : j < fs.length := (List.getElem?_eq_some_iff.1 hj).1
 have hjm : j < m := by omega
 have hjr : (runL fs xs)[j]? = some r := by rw [Xq1 hjl]; exact hj
 obtain ⟨hlo,hlg⟩ := hlay j r hj
 have pr : ∀ i k x y,fs[i]? = some x -> fs[k]? = some y -> i < k -> Xjt mk i k x y = true := fun i k x y hx hy hik => by
  have := Xfg hd i k x y hx hy hik
  simpa using this
 have hfree := fun x hx => hok.free x hx r (List.mem_of_getElem? hj)
 have slots : ∀ t ∈ r.slots,getV fr t = getV (frD (fun i => decide (i < j)) vs (runL fs xs) fr0) t := by
  intro t ht
  rw [hI.base t fun x hx e => (hfree x hx).2 (e ▸ ht)]
  refine Xb6 _ _ _ _ _ _ t rfl rfl fun i x hx hxd => ?_
  rcases Xks hx hxd with ⟨hi,hx⟩ | ⟨k,z,rfl,hz,hzt,rfl⟩
  ·rcases Nat.lt_trichotomy i j with hij | rfl | hij
   ·rcases (Xa0 (pr i j x r hx hj hij)).2 with h1 | ⟨_,_,h1⟩
    ·simp [hready i h1,hij]; omega
    ·exact absurd ht (h1 t hxd)
   ·simp [hDj]
   ·rcases (Xa0 (pr j i r x hj hx hij)).2 with h1 | ⟨_,h1,_⟩
    ·have : D i = false := by
      cases hDi : D i with
      | false => rfl
      | true => have := hI.closed i j hDi h1; rw [hDj] at this; cases this
     rw [this]; simp; omega
    ·exact absurd ht (h1 t hxd)
  ·exact absurd (hzt ▸ ht) (hfree z (List.mem_of_getElem? hz)).2
 have evs : ∀ x ∈ r.o.opds,evO fr x = evO (frD (fun i => decide (i < j)) vs (runL fs xs) fr0) x := by
  intro x hx
  cases x with
  | c v => rfl
  | t n =>
   refine slots n ?_
   simp only [Rc.slots,List.mem_append,List.mem_filterMap]
   exact .inr ⟨.t n,hx,rfl⟩
 have hkf : Xcp r.o = .free := by
  revert hlo
  cases r.o <;> simp [Xqd,Xcp]
 refine ⟨?_,fun D' h1 h2 => ?_⟩
 ·rcases hst j r hjr with ⟨_,g2,_⟩ | ⟨t,b,g1,_⟩
  ·refine .inl ⟨fun t b hg => (by rw [hlg] at hg; cases hg),?_,fun _ _ _ => rfl⟩
   have hsame : os (j + 1) = os j := Xsa (.inr (.inl hkf)) (fun hq => by revert hlo hq; cases r.o <;> simp [Xqd,Xqj]) g2
   simp only at g2
   rw [hsame,<- Xhf evs] at g2
   exact Xy1 hkf g2
  ·rw [hlg] at g1; cases g1
 ·have hlt : ∀ k,k < v -> (D' (m + k) = D (m + k) /\ D' (m + v + k) = D (m + v + k)) := fun k hk => ⟨h1 _ (by omega),h1 _ (by omega)⟩
  have hput : ∀ x ∈ xs,getV (putV fr r.d (vs j)) x.t = getV fr x.t := fun x hx => by
   rw [Xdt,if_neg (fun e => (hfree x hx).1 e.1)]
  refine ⟨fun k i hk hb => ?_,by rw [Xhg]; exact hI.len,fun t ht => ?_,fun k x hx => ?_,fun k x hx => ?_,fun k l hk hl => ?_,?_,fun i c hc => ?_⟩
  ·by_cases hij : i = j
   ·rw [hij]; exact h2
   ·rw [h1 i hij]
    by_cases hkj : k = j
    ·subst hkj; exact hready i hb
    ·rw [h1 k hkj] at hk
     exact hI.closed k i hk hb
  ·have hadd : frD (fun i => decide (i < m) && D' i) vs (runL fs xs) fr0 = putV (frD (fun i => decide (i < m) && D i) vs (runL fs xs) fr0) r.d (vs j) :=
    Xy3 hjr (fun i hi => by simp only [h1 i hi]) (by simp [h2,hjm]) fun i r' t hr' hne hrt hrt' => by
     rcases Xks hr' hrt' with ⟨hi,hx⟩ | ⟨k,z,rfl,hz,hzt,rfl⟩
     ·rcases Nat.lt_or_gt_of_ne hne with hij | hij
      ·exact (Xa0 (pr i j r' r hx hj hij)).1 t hrt' hrt
      ·exact (Xa0 (pr j i r r' hj hx hij)).1 t hrt hrt'
     ·exact (hfree z (List.mem_of_getElem? hz)).1 (by rw [hrt,hzt])
   rw [hadd,Xdt,Xdt,Xba,hI.len,hI.base t ht]
  ·have hk := (List.getElem?_eq_some_iff.1 hx).1
   rw [h1 (m + k) (by omega),h1 (m + v + k) (by omega),hput x (List.mem_of_getElem? hx)]
   exact hI.done k x hx
  ·rw [h1 (m + k) (by omega),h1 (m + v + k) (by omega),hput x (List.mem_of_getElem? hx)]
   exact hI.pend k x hx
  ·rw [h1 (m + k) (by omega),h1 (m + v + k) (by omega),h1 (m + l) (by omega),h1 (m + v + l) (by omega)]
   exact hI.inj k l hk hl
  ·rw [hI.cnt]
   exact Xf2 v fun k hk => (hlt k hk).1.symm
  ·rcases hI.rest i c hc with h3 | ⟨k,h3,h4,h5,h6⟩
   ·exact .inl h3
   ·exact .inr ⟨k,h3,by rw [(hlt k h3).1]; exact h4,by rw [(hlt k h3).2]; exact h5,h6⟩
theorem InvV.make (hv : xs.length = v) (hok : VOK mk m v fs xs) (hI : InvV mk m v fs xs vs fr0 n0 D e pos fr) {k : Nat} {x : Var} (hx : xs[k]? = some x) (hlen : x.t < fr.length) (hDk : D (m + k) = false)
  (hready : ∀ i,(mk.getD (m + k) 0).testBit i = true -> D i = true) (D' : Nat -> Bool) (h1 : ∀ i,i ≠ m + k -> D' i = D i) (h2 : D' (m + k) = true) :
  InvV mk m v fs xs vs fr0 n0 D' (e ++ [.cells (x.z.map A.ofZ)]) (fun l => if l = k then e.length else pos l) (setV fr x.t (.one (.ptr (n0 + e.length) 0))) := by
 have hkl := (List.getElem?_eq_some_iff.1 hx).1
 have hs : D (m + v + k) = false := by
  cases h : D (m + v + k) with
  | false => rfl
  | true => have := hI.closed _ _ h (hok.own k x hx); rw [hDk] at this; cases this
 have hne : ∀ l z,xs[l]? = some z -> l ≠ k -> z.t ≠ x.t := fun l z hz hl => by
  rcases Nat.lt_or_gt_of_ne hl with h | h
  ·exact hok.ne k l x z hx hz h
  ·exact (hok.ne l k z x hz hx h).symm
 have hget : ∀ t,t ≠ x.t -> getV (setV fr x.t (.one (.ptr (n0 + e.length) 0))) t = getV fr t := fun t ht => by
  rw [Xag,if_neg (fun h => ht h.1.symm)]
 have hst : ∀ l,l < v -> D' (m + v + l) = D (m + v + l) := fun l _ => h1 _ (by omega)
 have hal : ∀ l,l ≠ k -> D' (m + l) = D (m + l) := fun l hl => h1 _ (by omega)
 have hposl : ∀ l z,xs[l]? = some z -> D (m + l) = true -> D (m + v + l) = false -> pos l < e.length := fun l z hz h3 h4 => (List.getElem?_eq_some_iff.1 (hI.pend l z hz h3 h4).2).1
 refine ⟨fun a i ha hb => ?_,by rw [Xa6]; exact hI.len,fun t ht => ?_,fun l z hz h3 h4 => ?_,fun l z hz h3 h4 => ?_,fun a b ha hb h3 h4 h5 h6 h7 => ?_,?_,fun i c hc => ?_⟩
 ·by_cases hij : i = m + k
  ·rw [hij]; exact h2
  ·rw [h1 i hij]
   by_cases hkj : a = m + k
   ·subst hkj; exact hready i hb
   ·rw [h1 a hkj] at ha
    exact hI.closed a i ha hb
 ·rw [hget t (ht x (List.mem_of_getElem? hx)).symm,hI.base t ht]
  congr 2
  funext i
  by_cases hi : i < m
  ·rw [h1 i (by omega)]
  ·simp [hi]
 ·have hl := (List.getElem?_eq_some_iff.1 hz).1
  by_cases hlk : l = k
  ·subst hlk; rw [hst l (by omega),hs] at h4; cases h4
  ·rw [hget z.t (hne l z hz hlk)]
   rw [hal l hlk] at h3
   rw [hst l (by omega)] at h4
   exact hI.done l z hz h3 h4
 ·have hl := (List.getElem?_eq_some_iff.1 hz).1
  by_cases hlk : l = k
  ·subst hlk
   rw [hx] at hz; cases hz
   refine ⟨?_,?_⟩
   ·rw [Xag,if_pos ⟨rfl,hlen⟩,if_pos rfl]
   ·rw [if_pos rfl,List.getElem?_append_right (Nat.le_refl _),Nat.sub_self]; rfl
  ·rw [hal l hlk] at h3
   rw [hst l (by omega)] at h4
   obtain ⟨g1,g2⟩ := hI.pend l z hz h3 h4
   rw [hget z.t (hne l z hz hlk),if_neg hlk]
   exact ⟨g1,by rw [List.getElem?_append_left (hposl l z hz h3 h4)]; exact g2⟩
 ·obtain ⟨za,hza⟩ : ∃ z,xs[a]? = some z := ⟨_,List.getElem?_eq_getElem (by omega)⟩
  obtain ⟨zb,hzb⟩ : ∃ z,xs[b]? = some z := ⟨_,List.getElem?_eq_getElem (by omega)⟩
  rw [hst a ha] at h4
  rw [hst b hb] at h6
  by_cases hak : a = k
  ·by_cases hbk : b = k
   ·omega
   ·rw [hal b hbk] at h5
    simp only [if_pos hak,if_neg hbk] at h7
    have := hposl b zb hzb h5 h6
    omega
  ·rw [hal a hak] at h3
   by_cases hbk : b = k
   ·simp only [if_pos hbk,if_neg hak] at h7
    have := hposl a za hza h3 h4
    omega
   ·rw [hal b hbk] at h5
    simp only [if_neg hak,if_neg hbk] at h7
    exact hI.inj a b ha hb h3 h4 h5 h6 h7
 ·rw [List.length_append,hI.cnt,Xso (f := fun l => D (m + l)) (g := fun l => D' (m + l)) v (by omega) hDk h2 fun i hi => hal i hi]
  rfl
 ·by_cases hi : i < e.length
  ·rw [List.getElem?_append_left hi] at hc
   rcases hI.rest i c hc with h3 | ⟨l,h3,h4,h5,h6⟩
   ·exact .inl h3
   ·have hlk : l ≠ k := fun e => by subst e; rw [hDk] at h4; cases h4
    exact .inr ⟨l,h3,by rw [hal l hlk]; exact h4,by rw [hst l h3]; exact h5,by rw [if_neg hlk]; exact h6⟩
  ·have : i = e.length := by
    have := (List.getElem?_eq_some_iff.1 hc).1
    simp at this; omega
   exact .inr ⟨k,by omega,h2,by rw [hst k (by omega)]; exact hs,by rw [if_pos rfl]; exact this.symm⟩
theorem InvV.write (hv : xs.length = v) (hok : VOK mk m v fs xs) (hI : InvV mk m v fs xs vs fr0 n0 D e pos fr) {k : Nat} {x : Var} (hx : xs[k]? = some x) (hlen : x.t < fr.length) (hDs : D (m + v + k) = false)
  (hready : ∀ i,(mk.getD (m + v + k) 0).testBit i = true -> D i = true) (D' : Nat -> Bool) (h1 : ∀ i,i ≠ m + v + k -> D' i = D i) (h2 : D' (m + v + k) = true) :
  InvV mk m v fs xs vs fr0 n0 D' (e.set (pos k) .dead) pos (setV fr x.t (vs (m + k))) := by
 have hkl := (List.getElem?_eq_some_iff.1 hx).1
 have hDk : D (m + k) = true := hready _ (hok.own k x hx)
 have hne : ∀ l z,xs[l]? = some z -> l ≠ k -> z.t ≠ x.t := fun l z hz hl => by
  rcases Nat.lt_or_gt_of_ne hl with h | h
  ·exact hok.ne k l x z hx hz h
  ·exact (hok.ne l k z x hz hx h).symm
 have hget : ∀ t,t ≠ x.t -> getV (setV fr x.t (vs (m + k))) t = getV fr t := fun t ht => by
  rw [Xag,if_neg (fun h => ht h.1.symm)]
 have hal : ∀ l,l < v -> D' (m + l) = D (m + l) := fun l hl => h1 _ (by omega)
 have hst : ∀ l,l ≠ k -> D' (m + v + l) = D (m + v + l) := fun l hl => h1 _ (by omega)
 refine ⟨fun a i ha hb => ?_,by rw [Xa6]; exact hI.len,fun t ht => ?_,fun l z hz h3 h4 => ?_,fun l z hz h3 h4 => ?_,fun a b ha hb h3 h4 h5 h6 h7 => ?_,?_,fun i c hc => ?_⟩
 ·by_cases hij : i = m + v + k
  ·rw [hij]; exact h2
  ·rw [h1 i hij]
   by_cases hkj : a = m + v + k
   ·subst hkj; exact hready i hb
   ·rw [h1 a hkj] at ha
    exact hI.closed a i ha hb
 ·rw [hget t (ht x (List.mem_of_getElem? hx)).symm,hI.base t ht]
  congr 2
  funext i
  by_cases hi : i < m
  ·rw [h1 i (by omega)]
  ·simp [hi]
 ·have hl := (List.getElem?_eq_some_iff.1 hz).1
  by_cases hlk : l = k
  ·subst hlk
   rw [hx] at hz; cases hz
   rw [Xag,if_pos ⟨rfl,hlen⟩]
  ·rw [hget z.t (hne l z hz hlk)]
   rw [hal l (by omega)] at h3
   rw [hst l hlk] at h4
   exact hI.done l z hz h3 h4
 ·have hl := (List.getElem?_eq_some_iff.1 hz).1
  by_cases hlk : l = k
  ·subst hlk; rw [h2] at h4; cases h4
  ·rw [hal l (by omega)] at h3
   rw [hst l hlk] at h4
   obtain ⟨g1,g2⟩ := hI.pend l z hz h3 h4
   rw [hget z.t (hne l z hz hlk)]
   refine ⟨g1,?_⟩
   rw [List.getElem?_set_ne]
   ·exact g2
   ·intro hp
    exact hlk (hI.inj l k (by omega) (by omega) h3 h4 hDk hDs hp.symm)
 ·have hak : a ≠ k := fun e => by subst e; rw [h2] at h4; cases h4
  have hbk : b ≠ k := fun e => by subst e; rw [h2] at h6; cases h6
  rw [hal a ha] at h3
  rw [hst a hak] at h4
  rw [hal b hb] at h5
  rw [hst b hbk] at h6
  exact hI.inj a b ha hb h3 h4 h5 h6 h7
 ·rw [List.length_set,hI.cnt]
  exact Xf2 v fun i hi => (hal i hi).symm
 ·rw [List.getElem?_set] at hc
  split at hc
  ·split at hc
   ·exact .inl (Option.some.inj hc).symm
   ·cases hc
  ·rename_i hi
   rcases hI.rest i c hc with h3 | ⟨l,h3,h4,h5,h6⟩
   ·exact .inl h3
   ·have hlk : l ≠ k := fun e => by subst e; exact hi h6
    exact .inr ⟨l,h3,by rw [hal l h3]; exact h4,by rw [hst l hlk]; exact h5,h6⟩
theorem Xq2 {ops : Array Oper} {hs : List Nat} {Q : Exit -> Act -> World -> Prop} (href : RefL rs0 rs) (he : Xdh 0 ops.toList = true) (ht0 : Xg1 S.P hs ops ops.toList = some rs0)
  (hrs : rs = fs ++ (xs.map Var.aRc ++ xs.map Var.sRc)) (hm : fs.length = m) (hv : xs.length = v) (hz : ∀ x ∈ xs,x.z.length = x.n)
  (hok : VOK (Xaj ops.toList []) m v fs xs) (hd : Xb5 (Xaj ops.toList []) 0 fs = true) (hlay : ∀ (i : Nat) (r : Rc),fs[i]? = some r -> Xqd r.o = true /\ r.g = none) (hfs : ∀ r ∈ fs,r.fx = false)
  (hst : ∀ j r,(runL fs xs)[j]? = some r -> Xbr S true r ⟨frD (fun i => decide (i < j)) vs (runL fs xs) fr0,os j⟩ (vs j) (os (j + 1))) (h0 : os 0 = own0)
  (hQ : ∀ a w,Sat S Y ⟨frD (fun _ => true) vs (runL fs xs) fr0,os (m + v + 1)⟩ a w -> Q .normal a w) :
  ∀ (fuel : Nat) (listed : Array Bool) (e : List Ch) (pos : Nat -> Nat) (fr : List V) (a : Act) (w : World),listed.size = ops.size -> listed.toList.count false = fuel -> InvV (Xaj ops.toList []) m v fs xs vs fr0 own0.length (fun i => listed.getD i false) e pos fr ->
   Sat S Y ⟨fr,own0 ++ e⟩ a w -> wpAnyIn (Xd3 Y.round) 0 S.P .any ops Q fuel listed a w := by
 have hlen : rs.length = ops.size := by rw [href.1,(Xdu ht0).1,Array.length_toList]
 have hn : rs.length = m + v + v := by rw [hrs]; simp; omega
 have hrl : (runL fs xs).length = m + v + 1 := by simp [runL]; omega
 have hend := hst (m + v) ⟨none,none,.holes (xs.map fun x => (x.t,x.n)),false⟩ (by
  unfold runL
  rw [List.getElem?_append_right (by simp; omega)]
  simp [hm,hv])
 have hout : ∀ (l : List V) (t : Nat),¬ t < l.length -> getV l t = .un := by
  intro l
  induction l with
  | nil => intro t _; rfl
  | cons x l ih => intro t ht; cases t with
   | zero => simp at ht
   | succ t => exact ih t (by simpa using ht)
 have hall : ∀ x ∈ xs,isBx x.n (getV (frD (fun i => decide (i < m + v)) vs (runL fs xs) fr0) x.t) = true := by
  intro x hx
  rcases hend with ⟨_,⟨_,_,g⟩,_⟩ | ⟨t,b,g,_⟩
  ·exact List.all_eq_true.1 g (x.t,x.n) (List.mem_map_of_mem (f := fun x : Var => (x.t,x.n)) hx)
  ·cases g
 have hbx : ∀ x ∈ xs,x.t < fr0.length := by
  intro x hx
  have := hall x hx
  by_cases hl : x.t < fr0.length
  ·exact hl
  ·exfalso
   rw [hout _ _ (by rw [Xba]; exact hl)] at this
   cases this
 have hlist : ∀ j r,(runL fs xs)[j]? = some r -> j < m + v -> Xa8 r.kind = false := by
  intro j r hr hj
  by_cases hi : j < fs.length
  ·rw [Xq1 hi] at hr
   have hlo := (hlay j r hr).1
   have : r.fx = false := by
    cases hfx : r.fx with
    | false => rfl
    | true => exact absurd hfx (by rw [hfs r (List.mem_of_getElem? hr)]; simp)
   unfold Rc.kind
   rw [this]
   revert hlo
   cases r.o <;> simp [Xqd,Xcp,Xa8]
  ·obtain ⟨k,rfl⟩ := Nat.exists_eq_add_of_le (Nat.le_of_not_lt hi)
   obtain ⟨x,hx⟩ : ∃ x,xs[k]? = some x := ⟨_,List.getElem?_eq_getElem (by omega)⟩
   rw [Xo4 hx] at hr
   cases hr
   rfl
 have hos : ∀ j,j <= m + v -> os j = own0 := by
  intro j hj
  rw [<- h0]
  have := Xih hst 0 j (by omega) fun i r _ h2 hr => hlist i r hr (by omega)
  simpa using this
 -- what is written
 have hw : ∀ k x,xs[k]? = some x -> ∃ ds,(getV (frD (fun i => decide (i < m)) vs (runL fs xs) fr0) x.y).ok = true /\ allD (getV (frD (fun i => decide (i < m)) vs (runL fs xs) fr0) x.y).cells = some ds /\ vs (m + k) = .one (.d (.bx ds)) /\ ds.length = x.n := by
  intro k x hx
  have hk := (List.getElem?_eq_some_iff.1 hx).1
  have hxm := List.mem_of_getElem? hx
  have hb := hst (m + k) x.bRc (by rw [<- hm]; exact Xo4 hx)
  have hy : getV (frD (fun i => decide (i < m + k)) vs (runL fs xs) fr0) x.y = getV (frD (fun i => decide (i < m)) vs (runL fs xs) fr0) x.y := by
   refine Xb6 _ _ _ _ _ _ x.y rfl rfl fun i r hr hrd => ?_
   rcases Xks hr hrd with ⟨hi,_⟩ | ⟨l,z,rfl,hz',hzt,rfl⟩
   ·simp; omega
   ·exact absurd hzt.symm (hok.y z (List.mem_of_getElem? hz') x hxm)
  rcases hb with ⟨_,⟨g1,_,ds,g2,g3⟩,_⟩ | ⟨t,b,g,_⟩
  ·simp only [evO,hy] at g1 g2
   refine ⟨ds,g1,g2,g3,?_⟩
   have h5 := hall x hxm
   rw [Xm2 (runL fs xs) _ vs fr0 (m + k) x.bRc x.t (by rw [<- hm]; exact Xo4 hx) rfl (by simp; omega) (hbx x hxm) fun i r hr hne hrd => ?_,g3] at h5
   ·simpa [isBx] using h5
   ·rcases Xks hr hrd with ⟨hi,hr⟩ | ⟨l,z,rfl,hz',hzt,rfl⟩
    ·exact (hok.free x hxm r (List.mem_of_getElem? hr)).1 hrd
    ·have hlk : l ≠ k := by omega
     rcases Nat.lt_or_gt_of_ne hlk with h | h
     ·exact hok.ne k l x z hx hz' h hzt
     ·exact hok.ne l k z x hz' hx h hzt.symm
  ·cases g
 have hsolid : ∀ (l : List A) (ds : List D),allD l = some ds -> Xbs l = true /\ l.length = ds.length := by
  intro l
  induction l with
  | nil => intro ds h; cases h; exact ⟨rfl,rfl⟩
  | cons c l ih =>
   intro ds h
   cases c <;> simp only [allD] at h <;> first | cases h | skip
   all_goals
    split at h
    ·rename_i q hq
     cases h
     obtain ⟨g1,g2⟩ := ih q hq
     exact ⟨g1,by simp [g2]⟩
    ·cases h
 -- the end
 have ends : ∀ (listed : Array Bool) (e : List Ch) (pos : Nat -> Nat) (fr : List V) (a : Act) (w : World),listed.size = ops.size -> InvV (Xaj ops.toList []) m v fs xs vs fr0 own0.length (fun i => listed.getD i false) e pos fr ->
   Sat S Y ⟨fr,own0 ++ e⟩ a w -> Region.ready .any ops listed = [] -> Q .normal a w := by
  intro listed e pos fr a w hsz hI h hr
  have all : ∀ j,j < ops.size -> listed.getD j false = true := by
   intro j
   induction j using Nat.strongRecOn with
   | _ j ih =>
    intro hj
    cases hD : listed.getD j false with
    | true => rfl
    | false =>
     exfalso
     have ho : ops[j]? = some ops[j] := Array.getElem?_eq_getElem hj
     have : j ∈ Region.ready .any ops listed := mem_ready.2 ⟨by simpa [Array.getD_eq_getD_getElem?,hsz,hj] using hD,_,ho,fun e hea hb => by
      have := Xd8 he j ops[j] (by simpa using ho) e.on (Xda.2 ⟨e,hea,hb,rfl⟩)
      exact ih e.on (by omega) (by omega)⟩
     rw [hr] at this; cases this
  have e1 : e = List.replicate v .dead := by
   have hl : e.length = v := by rw [hI.cnt]; exact Xsn v fun i hi => all _ (by omega)
   refine List.eq_replicate_iff.2 ⟨hl,fun c hc => ?_⟩
   obtain ⟨i,hi⟩ := List.mem_iff_getElem?.1 hc
   rcases hI.rest i c hi with h1 | ⟨k,h1,h2,h3,_⟩
   ·exact h1
   ·rw [all _ (by omega)] at h3; cases h3
  have e2 : fr = frD (fun _ => true) vs (runL fs xs) fr0 := by
   refine Xef (by rw [Xba]; exact hI.len) fun t => ?_
   by_cases ht : ∃ x ∈ xs,x.t = t
   ·obtain ⟨x,hx,rfl⟩ := ht
    obtain ⟨k,hk⟩ := List.mem_iff_getElem?.1 hx
    have hkl := (List.getElem?_eq_some_iff.1 hk).1
    rw [hI.done k x hk (all _ (by omega)) (all _ (by omega))]
    refine (Xm2 (runL fs xs) _ vs fr0 (m + k) x.bRc x.t (by rw [<- hm]; exact Xo4 hk) rfl rfl (hbx x hx) fun i r hr hne hrd => ?_).symm
    rcases Xks hr hrd with ⟨hi,hr⟩ | ⟨l,z,rfl,hz',hzt,rfl⟩
    ·exact (hok.free x hx r (List.mem_of_getElem? hr)).1 hrd
    ·have hlk : l ≠ k := by omega
     rcases Nat.lt_or_gt_of_ne hlk with h | h
     ·exact hok.ne k l x z hk hz' h hzt
     ·exact hok.ne l k z x hz' hk h hzt.symm
   ·rw [hI.base t fun x hx e => ht ⟨x,hx,e⟩]
    refine Xb6 _ _ _ _ _ _ t rfl rfl fun i r hr hrd => ?_
    rcases Xks hr hrd with ⟨hi,hr⟩ | ⟨l,z,rfl,hz',hzt,rfl⟩
    ·simp only [all i (by omega)]; simp; omega
    ·exact absurd ⟨z,List.mem_of_getElem? hz',hzt⟩ ht
  rw [e1,e2] at h
  have e3 : os (m + v + 1) = own0 ++ List.replicate v .dead := by
   rcases hend with ⟨_,⟨g,_,_⟩,_⟩ | ⟨t,b,g,_⟩
   ·simp only [hos (m + v) (Nat.le_refl _),List.length_map,hv] at g
    exact g
   ·cases g
  rw [<- e3] at h
  exact hQ a w h
 intro fuel
 induction fuel with
 | zero =>
  intro listed e pos fr a w hsz hc hI h
  have hr : Region.ready .any ops listed = [] := by
   rw [List.eq_nil_iff_forall_not_mem]
   intro j hj
   obtain ⟨h1,o,ho,_⟩ := mem_ready.1 hj
   have hlt : j < listed.size := by rw [hsz]; exact (Array.getElem?_eq_some_iff.1 ho).1
   simp only [Array.getD_eq_getD_getElem?,Array.getElem?_eq_getElem hlt,Option.getD_some] at h1
   have : false ∈ listed.toList := by rw [<- h1]; simp
   have := List.count_pos_iff.2 this
   omega
  exact ⟨hr,ends listed e pos fr a w hsz hI h hr⟩
 | succ fuel ih =>
  intro listed e pos fr a w hsz hc hI h
  refine ⟨ends listed e pos fr a w hsz hI h,fun j hj => ?_⟩
  obtain ⟨h1,o,ho,hallr⟩ := mem_ready.1 hj
  have hlt : j < ops.size := (Array.getElem?_eq_some_iff.1 ho).1
  have hlj : listed[j]? = some false := by
   have hl : j < listed.size := by omega
   simp only [Array.getD_eq_getD_getElem?,Array.getElem?_eq_getElem hl,Option.getD_some] at h1
   rw [Array.getElem?_eq_getElem hl,h1]
  obtain ⟨r1,hr1,htr⟩ := (Xdu ht0).2 j o (by simpa using ho)
  obtain ⟨r,hr⟩ : ∃ r,rs[j]? = some r := ⟨_,List.getElem?_eq_getElem (by rw [hlen]; exact hlt)⟩
  obtain ⟨r0,hr0,hsame⟩ := href.2 j r hr
  rw [hr1] at hr0
  cases hr0
  have hDj : listed.getD j false = false := by simp [Array.getD_eq_getD_getElem?,hlj]
  have hedge : ∀ e ∈ Xcq o,listed.getD e false = true := fun e hem => by
   obtain ⟨g,hg,hb,rfl⟩ := Xda.1 hem
   exact hallr g hg hb
  have hmk : ∀ i,((Xaj ops.toList []).getD j 0).testBit i = true -> listed.getD i false = true := by
   intro i hb
   obtain ⟨e,hem,h2⟩ := Xig (l := ops.toList) (by simpa using ho) hb
   rcases h2 with rfl | h2
   ·exact hedge i hem
   ·exact hI.closed e i (hedge e hem) h2
  have hD : ∀ i,(listed.setIfInBounds j true).getD i false = if i = j then true else listed.getD i false := by
   intro i
   simp only [Array.getD_eq_getD_getElem?,Array.getElem?_setIfInBounds]
   by_cases e : j = i
   ·subst e; simp [hsz,hlt]
   ·simp [e,Ne.symm e]
  have hD1 : ∀ i,i ≠ j -> (listed.setIfInBounds j true).getD i false = listed.getD i false := fun i hi => by rw [hD,if_neg hi]
  have hD2 : (listed.setIfInBounds j true).getD j false = true := by rw [hD,if_pos rfl]
  have hcount : (listed.setIfInBounds j true).toList.count false = fuel := by
   have := Xhh listed.toList j (by simpa using hlj)
   simp only [Array.toList_setIfInBounds]
   omega
  have hsz' : (listed.setIfInBounds j true).size = ops.size := by simp [hsz]
  rcases Nat.lt_or_ge j m with hjm | hjm
  ·rw [hrs,List.getElem?_append_left (by omega)] at hr
   obtain ⟨hev,hnext⟩ := hI.free (own0 := own0) hm hok hd hlay hst hr hDj hmk
   refine Xd7 ho htr hsame h hev fun a' w' h' => ?_
   exact ih _ e pos _ a' w' hsz' hcount (hnext _ hD1 hD2) h'
  ·obtain ⟨q,rfl⟩ := Nat.exists_eq_add_of_le hjm
   rw [hrs,List.getElem?_append_right (by omega),show m + q - fs.length = q from by omega] at hr
   rcases Nat.lt_or_ge q v with hqv | hqv
   ·rw [List.getElem?_append_left (by simpa using (by omega : q < xs.length)),List.getElem?_map] at hr
    obtain ⟨x,hx⟩ : ∃ x,xs[q]? = some x := ⟨_,List.getElem?_eq_getElem (by omega)⟩
    rw [hx] at hr
    cases hr
    have hxl := hbx x (List.mem_of_getElem? hx)
    refine Xd7 (q := true) ho htr hsame h (v := .one (.ptr (own0 ++ e).length 0)) (own' := (own0 ++ e) ++ [.cells (x.z.map A.ofZ)]) (.inl ⟨fun t b hg => (by cases hg),⟨rfl,rfl⟩,fun _ _ hq => (by cases hq)⟩) fun a' w' h' => ?_
    rw [List.append_assoc,List.length_append] at h'
    exact ih _ _ _ _ a' w' hsz' hcount (hI.make hv hok hx (by rw [hI.len]; exact hxl) hDj hmk _ hD1 hD2) h'
   ·obtain ⟨k,rfl⟩ := Nat.exists_eq_add_of_le hqv
    rw [List.getElem?_append_right (by simp; omega),List.length_map,hv,Nat.add_sub_cancel_left,List.getElem?_map] at hr
    have hkv : k < v := by omega
    obtain ⟨x,hx⟩ : ∃ x,xs[k]? = some x := ⟨_,List.getElem?_eq_getElem (by omega)⟩
    rw [hx] at hr
    cases hr
    have hxm := List.mem_of_getElem? hx
    have hxl := hbx x hxm
    have eidx : m + (v + k) = m + v + k := by omega
    rw [eidx] at hDj hmk hD1 hD2
    have hDk : listed.getD (m + k) false = true := hmk _ (hok.own k x hx)
    obtain ⟨g1,g2⟩ := hI.pend k x hx hDk hDj
    obtain ⟨ds,w1,w2,w3,w4⟩ := hw k x hx
    have hy : getV fr x.y = getV (frD (fun i => decide (i < m)) vs (runL fs xs) fr0) x.y := by
     rw [hI.base x.y fun z hz e => hok.y z hz x hxm e.symm]
     refine Xb6 _ _ _ _ _ _ x.y rfl rfl fun i r hr hrd => ?_
     rcases Xks hr hrd with ⟨hi,hr⟩ | ⟨l,z,rfl,hz',hzt,rfl⟩
     ·simp [hmk i (hok.def_ k x hx i r (by omega) hr hrd)]
     ·exact absurd hzt.symm (hok.y z (List.mem_of_getElem? hz') x hxm)
    rw [<- hy] at w1 w2
    obtain ⟨s1,s2⟩ := hsolid _ _ w2
    have hget : getC (own0 ++ e) (own0.length + pos k) = .cells (x.z.map A.ofZ) := by
     have : ∀ (l : List Ch) (i : Nat) (c : Ch),l[i]? = some c -> getC l i = c := by
      intro l
      induction l with
      | nil => intro i c h; simp at h
      | cons d l ih => intro i c h; cases i with
       | zero => simpa [getC] using h
       | succ i => exact ih i c (by simpa using h)
     refine this _ _ _ ?_
     rw [List.getElem?_append_right (by omega),Nat.add_sub_cancel_left]
     exact g2
    have hpl := (List.getElem?_eq_some_iff.1 g2).1
    have hzn := hz x hxm
    refine Xd7 (q := true) ho htr hsame h (v := .un) (own' := setC (own0 ++ e) (own0.length + pos k) (.cells (getV fr x.y).cells)) (.inl ⟨fun t b hg => (by cases hg),?_,fun _ _ hq => (by cases hq)⟩) fun a' w' h' => ?_
    ·show Ev S (.store x.n (.t x.t) (.t x.y)) _ _ _ _
     simp only [Ev,evO,g1,hget]
     refine ⟨w1,by omega,trivial,by simp [hzn],s1,?_⟩
     rw [List.drop_of_length_le (by simp [hzn])]
     simp
    ·have h2 := Sat.lay (t := x.t) h' (j := own0.length + pos k) (by rw [Xam]; exact Xjk _ _ _ (by simp; omega)) w2 g1
     rw [Xam,List.set_set,List.set_append_right _ _ (by omega),Nat.add_sub_cancel_left,<- w3] at h2
     exact ih _ _ _ _ a' w' hsz' hcount (by rw [eidx]; exact hI.write hv hok hx (by rw [hI.len]; exact hxl) hDj hmk _ hD1 hD2) h2
end
theorem Xej {l : List MO} (h : VO S true k l s) : G S (.code (.regv l) :: k) s := by
 intro Y a w hs hs' c hc
 obtain ⟨id,ops,d,rfl,hr⟩ := Ycu hc
 cases d with
 | false => cases hr
 | true =>
  simp only [trV] at hr
  split at hr
  ·rename_i hch
   simp only [Bool.and_eq_true] at hch
   obtain ⟨rs0,ht,hr⟩ := Option.bind_eq_some_iff.1 hr
   simp only [trV1] at hr
   obtain ⟨xs,hx,hr⟩ := Option.bind_eq_some_iff.1 hr
   split at hr
   ·rename_i hchk
    cases hr
    simp only [Bool.and_eq_true] at hchk
    obtain ⟨⟨he,hd⟩,hvo⟩ := hchk
    obtain ⟨e1,e2,hz⟩ := Xgt hx
    have href := Xqy hs' rs0
    generalize rfH hs' rs0 = rs at *
    have hrs : rs = rs.take (lead rs) ++ (xs.map Var.aRc ++ xs.map Var.sRc) := by rw [<- e1,<- e2,List.take_append_drop,List.take_append_drop]
    have hm : (rs.take (lead rs)).length = lead rs := by rw [List.length_take]; have := Xzc rs; omega
    have hls := Xo3 rs
    refine wpIn_region_any hch.2 ?_
    obtain ⟨vs,os,h0,hK,hst⟩ := (Xfh (rs := runL (rs.take (lead rs)) xs) h).trace
    obtain ⟨H,an,F,ms,hsx⟩ := hs
    have hD : ∀ i,(Array.replicate ops.size false).getD i false = false := fun i => by
     simp only [Array.getD_eq_getD_getElem?,Array.getElem?_replicate]
     split <;> rfl
    have hlr : (runL (rs.take (lead rs)) xs).length = lead rs + xs.length + 1 := by simp only [runL,List.length_append,List.length_map,hm]; rfl
    rw [hlr] at hK
    refine Xq2 (m := lead rs) (v := xs.length) href he ht hrs hm rfl hz (Xkr rfl hvo) hd (fun i r hi => ⟨(hls i r hi).1,(hls i r hi).2.1⟩) (fun r hr => by
     obtain ⟨i,hi⟩ := List.mem_iff_getElem?.1 hr
     exact (hls i r hi).2.2) hst h0 (fun a w hs => hK Y a w hs) ops.size _ [] (fun _ => 0) s.fr a _ (by simp) (by simp) ?_ ?_
    ·refine ⟨fun k i hk => (by simp only [hD] at hk; cases hk),rfl,fun t _ => ?_,fun k x _ hk => (by simp only [hD] at hk; cases hk),fun k x _ hk => (by simp only [hD] at hk; cases hk),fun k l _ _ hk => (by simp only [hD] at hk; cases hk),?_,fun i c hc => (by simp at hc)⟩
     ·rw [Xdm _ _ _ _ fun i => by simp [hD]]
     ·rw [show (fun k => (Array.replicate ops.size false).getD (lead rs + k) false) = fun _ => false from funext fun i => hD _]
      exact (Xo2 _).symm
    ·rw [List.append_nil]
     exact ⟨H,an,F,ms,hsx.drawn _⟩
   ·cases hr
  ·cases hr
end
end Go.Fw
namespace Go.Fw
open Go
def Sx.at_ (S : Sx) (n : Nat) : Sx := ⟨S.P,S.gp,n,S.rs,S.R,S.rd⟩
structure Reb (S : Sx) (Y Y' : Dyn) : Prop where
 h0 : Heap.Le Y.H0 Y'.H0
 hn : ∀ b o,Y'.H0 b = some o -> Y.H0 b = some o \/ ¬ Y.U b
 al : Anc.Le Y.an0 Y'.an0
 npl : ∀ i p,Y.an0 i = some p -> i < S.np
 u : ∀ b,Y.U b -> Y'.U b /\ b < Y.w0.heap.size /\ Y'.w0.heap[b]? = Y.w0.heap[b]?
 os : Y'.w0.os = Y.w0.os
 tape : Y'.w0.tape = Y.w0.tape
 output : Y'.w0.output = Y.w0.output
 size : Y.w0.heap.size <= Y'.w0.heap.size
 round : Y'.round = Y.round
section
variable {S : Sx} {Y Y' : Dyn} {s : St} {a : Act} {w : World} {H : Heap} {an : Anc} {F : Nat -> Nat -> Prop} {ms : List Nat} {n : Nat}
theorem Reb.back (r : Reb S Y Y') (h : SatX (S.at_ n) Y' s a w H an F ms) : SatX S Y s a w H an F ms where
 gp := h.gp
 h0 := r.h0.trans h.h0
 mod := h.mod
 fr := h.fr
 anc := h.anc
 own := h.own
 fl := h.fl
 fp := fun i b hb => ⟨(h.fp i b hb).1,(h.fp i b hb).2.1,fun hu => (h.fp i b hb).2.2 (r.u b hu).1⟩
 dj := h.dj
 hn := fun b o hb => (h.hn b o hb).elim (r.hn b o) fun h1 => .inr fun hu => h1 (r.u b hu).1
 ub := fun b hu => ⟨(r.u b hu).2.1,(h.ub b (r.u b hu).1).2.trans (r.u b hu).2.2⟩
 os := h.os.trans r.os
 tape := h.tape.trans r.tape
 output := h.output.trans r.output
 size := Nat.le_trans r.size h.size
 df := h.df
 mks := fun m hm => ⟨(h.mks m hm).1,(h.mks m hm).2.1,fun hu => (h.mks m hm).2.2.1 (r.u m hu).1,(h.mks m hm).2.2.2⟩
 nd := h.nd
 al := r.al.trans h.al
 npl := r.npl
 ro := h.ro.imp id fun h1 => r.round ▸ h1
theorem SatX.rebase (h : SatX S Y s a w H an F ms) (U : Nat -> Prop) (hU : ∀ b,Y.U b -> U b) (hV : ∀ b,U b -> Y.U b \/ (b < w.heap.size /\ H b = none /\ (∀ i,¬ F i b) /\ b ∉ ms)) :
  Reb S Y ⟨H,an,U,w,Y.round⟩ /\ SatX (S.at_ s.own.length) ⟨H,an,U,w,Y.round⟩ s a w H an F ms := by
 refine ⟨⟨h.h0,h.hn,h.al,h.npl,fun b hu => ⟨hU b hu,h.ub b hu⟩,h.os,h.tape,h.output,h.size,rfl⟩,
  ⟨h.gp,Heap.Le.refl _,h.mod,h.fr,h.anc,h.own,h.fl,fun i b hb => ⟨(h.fp i b hb).1,(h.fp i b hb).2.1,fun hu => (hV b hu).elim (h.fp i b hb).2.2 fun q => q.2.2.1 i hb⟩,h.dj,fun b o hb => .inl hb,
    fun b hu => ⟨?_,rfl⟩,rfl,rfl,rfl,Nat.le_refl _,h.df,fun m hm => ⟨(h.mks m hm).1,(h.mks m hm).2.1,fun hu => (hV m hu).elim (h.mks m hm).2.2.1 fun q => q.2.2.2 hm,(h.mks m hm).2.2.2⟩,h.nd,Anc.Le.refl _,fun i p hp => (h.anc i).1 ⟨p,hp⟩,h.ro⟩⟩
 rcases hV b hu with h1 | h1
 ·exact Nat.lt_of_lt_of_le (h.ub b h1).1 h.size
 ·exact h1.1
theorem SatX.adoptC (h : SatX S Y s a w H an F ms) {b : Nat} {c : Ch} {q : Nat × Value} (hlt : b < w.heap.size) (hc : Xb4 H (an.put s.own.length q) w c q fun x => x = b) (h1 : H b = none) (h2 : ¬ Y.U b) (h3 : ∀ i,¬ F i b) (h4 : b ∉ ms) :
  SatX S Y ⟨s.fr,s.own ++ [c]⟩ a w H (an.put s.own.length q) (fun i c => if i = s.own.length then c = b else F i c) ms := by
 have hle : Anc.Le an (an.put s.own.length q) := ⟨fun i r hr => by
  refine ⟨r,?_,.inl rfl⟩
  unfold Anc.put
  rw [if_neg (by have := (h.anc i).1 ⟨r,hr⟩; omega)]
  exact hr⟩
 have hF : ∀ i c,(if i = s.own.length then c = b else F i c) -> i <= s.own.length /\ ((i = s.own.length /\ c = b) \/ (i ≠ s.own.length /\ F i c)) := fun i c hc => by
  split at hc
  ·exact ⟨by omega,.inl ⟨‹_›,hc⟩⟩
  ·exact ⟨by have := h.fl i c hc; omega,.inr ⟨‹_›,hc⟩⟩
 refine ⟨h.gp,h.h0,h.mod,All2.mono (fun _ _ => DenV.mono (Heap.Le.refl _) hle) h.fr,?_,?_,?_,?_,?_,h.hn,h.ub,h.os,h.tape,h.output,h.size,h.df,?_,h.nd,h.al.trans hle,h.npl,h.ro⟩
 ·intro i
  unfold Anc.put
  by_cases e : i = s.own.length
  ·subst e; simp
  ·rw [if_neg e,h.anc i]; simp; omega
 ·intro i c' hc'
  by_cases e : i = s.own.length
  ·subst e
   rw [List.getElem?_append_right (Nat.le_refl _)] at hc'
   simp at hc'
   subst hc'
   refine ⟨q,by simp [Anc.put],?_⟩
   simpa using hc
  ·have hil : i < s.own.length := by
    have := (List.getElem?_eq_some_iff.1 hc').1
    simp at this
    omega
   rw [List.getElem?_append_left hil] at hc'
   obtain ⟨q',hq,hs⟩ := h.own i c' hc'
   refine ⟨q',by simp [Anc.put,e,hq],?_⟩
   have := hs.keep (w' := w) (Heap.Le.refl _) hle (fun _ _ => rfl)
   simpa [e] using this
 ·intro i c hc
  have := (hF i c hc).1
  simp; omega
 ·intro i c hc
  rcases (hF i c hc).2 with ⟨_,rfl⟩ | ⟨_,hc⟩
  ·exact ⟨hlt,h1,h2⟩
  ·exact h.fp i c hc
 ·intro i j c hi hj
  rcases (hF i c hi).2 with ⟨e,k⟩ | ⟨e,k⟩ <;> rcases (hF j c hj).2 with ⟨e',k'⟩ | ⟨e',k'⟩
  ·omega
  ·rw [k] at k'; exact absurd k' (h3 j)
  ·rw [k'] at k; exact absurd k (h3 i)
  ·exact h.dj i j _ k k'
 ·intro r hr
  obtain ⟨g1,g2,g3,g4⟩ := h.mks r hr
  refine ⟨g1,g2,g3,fun i hi => ?_⟩
  rcases (hF i r hi).2 with ⟨_,rfl⟩ | ⟨_,hi⟩
  ·exact h4 hr
  ·exact g4 i hi
theorem SatX.adopt (h : SatX S Y s a w H an F ms) {b : Nat} {vs : List Value} {T : TypeId} {cs : List A} (hb : w.heap[b]? = some (.cells vs.toArray T (0,0))) (hd : Xao H an cs vs) (h1 : H b = none) (h2 : ¬ Y.U b) (h3 : ∀ i,¬ F i b) (h4 : b ∉ ms) :
  SatX S Y ⟨s.fr,s.own ++ [.cells cs]⟩ a w H (an.put s.own.length (0,.pointer (some ⟨b,0,none⟩))) (fun i c => if i = s.own.length then c = b else F i c) ms :=
 h.adoptC (Array.getElem?_eq_some_iff.1 hb).1 ⟨rfl,b,T,vs,rfl,fun _ => Iff.rfl,hb,All2.mono (fun _ _ => DenA.mono (Heap.Le.refl _) ⟨fun i r hr => ⟨r,by unfold Anc.put; rw [if_neg (by have := (h.anc i).1 ⟨r,hr⟩; omega)]; exact hr,.inl rfl⟩⟩) hd⟩ h1 h2 h3 h4
theorem Yiy (ha : ∀ i,(∃ p,an i = some p) ↔ i < n) : ∀ {l : List V} {m : List Value},All2 (DenV H an) l m -> (l.all fun v => Xim n v.refsT) = true
 | [],[],_ => rfl
 | v :: l,u :: m,h => by
  simp only [List.all_cons,Bool.and_eq_true]
  exact ⟨List.all_eq_true.2 fun i hi => decide_eq_true (Xsd ha h.1 i hi),Yiy ha h.2⟩
theorem SatX.own_lt (h : SatX S Y s a w H an F ms) : (s.own.all fun c => Xim s.own.length c.refs) = true := by
 refine List.all_eq_true.2 fun c hc => List.all_eq_true.2 fun i hi => decide_eq_true ?_
 obtain ⟨j,hj⟩ := List.getElem?_of_mem hc
 obtain ⟨p,_,hs⟩ := h.own j c hj
 exact hs.refs_lt h.anc i hi
theorem Xm9 (p : V -> Bool) : ∀ (l : List V) (t : Nat) (v : V),l.all p = true -> p v = true -> (setV l t v).all p = true
 | [],_,_,_,_ => rfl
 | _ :: l,0,v,h,hv => by simp only [List.all_cons,Bool.and_eq_true] at h; simp [setV,hv,h.2]
 | x :: l,t + 1,v,h,hv => by
  simp only [List.all_cons,Bool.and_eq_true] at h
  simp only [setV,List.all_cons,Bool.and_eq_true]
  exact ⟨h.1,Xm9 p l t v h.2 hv⟩
theorem SatX.release {fr : List V} {own : List Ch} {cs : List A} (h : SatX S Y ⟨fr,own ++ [.cells cs]⟩ a w H an F ms) (hnp : ∀ i p,Y.an0 i = some p -> i < own.length) {t : Nat} (ht : getV fr t = .one (.ptr own.length 0)) {fr1 : List V} (hf : ∀ x,setV fr t x = setV fr1 t x)
  (h1 : (fr1.all fun v => Xim own.length v.refsT) = true) (h2 : (own.all fun c => Xim own.length c.refs) = true) (h3 : ∀ i ∈ cs.flatMap A.refs,i < own.length) :
  ∃ b vs T an' F',w.heap[b]? = some (.cells vs.toArray T (0,0)) /\ H b = none /\ ¬ Y.U b /\ (∀ i,¬ F' i b) /\ b ∉ ms /\ Xao H an' cs vs /\ SatX S Y ⟨setV fr1 t (.one (.d (.raw (.pointer (some ⟨b,0,none⟩))))),own⟩ a w H an' F' ms := by
 obtain ⟨p,hp,h0,b,T,vs,e1,e2,e3,e4⟩ := h.own own.length (.cells cs) (by simp)
 obtain ⟨u,hu,hd⟩ := h.fr.get (Xaz _ _ _ ht (by simp))
 have hub : u = .pointer (some ⟨b,0,none⟩) := by
  obtain ⟨b',rfl,q,hq,hqb⟩ := hd
  rw [hp] at hq; cases hq
  rw [hqb b e1]
 subst hub
 have hfr : All2 (DenV H an) (setV fr1 t (.one (.d (.raw (.pointer (some ⟨b,0,none⟩)))))) a.tmps.toList := by
  have := Xbi fr a.tmps.toList t (.one (.d (.raw (.pointer (some ⟨b,0,none⟩))))) _ h.fr (show DenV H an _ (.pointer (some ⟨b,0,none⟩)) from Den.raw _ rfl)
  rwa [Xif hu,hf] at this
 have hb : F own.length b := (e2 b).2 rfl
 have hc := (h.reframe hfr).cut own.length hnp (Xm9 _ _ _ _ h1 rfl) (by rw [List.take_left]; exact h2)
 simp only [List.take_left] at hc
 refine ⟨b,vs,T,_,_,e3,(h.fp _ _ hb).2.1,(h.fp _ _ hb).2.2,fun i hi => ?_,fun hm => (h.mks b hm).2.2.2 _ hb,?_,hc⟩
 ·have := h.dj _ _ _ hi.2 hb
  omega
 ·exact Xjh e4 fun i hi => if_pos (h3 i hi)
def rawS (u : Value) : V := .one (.d (.raw u))
theorem SatX.releaseR {fr : List V} {own : List Ch} {sz : Nat} {xs0 : List (List D)} (h : SatX S Y ⟨fr,own ++ [.row sz 0 xs0]⟩ a w H an F ms) (hne : xs0 ≠ []) (hnp : ∀ i p,Y.an0 i = some p -> i < own.length) {t : Nat} (ht : getV fr t = .one (.own own.length 0)) {fr1 : List V} (hf : ∀ x,setV fr t x = setV fr1 t x)
  (h1 : (fr1.all fun v => Xim own.length v.refsT) = true) (h2 : (own.all fun c => Xim own.length c.refs) = true) :
  ∃ b u an' F',Xb4 H an' w (.row sz 0 xs0) (0,u) (fun x => x = b) /\ b < w.heap.size /\ H b = none /\ ¬ Y.U b /\ (∀ i,¬ F' i b) /\ b ∉ ms /\ SatX S Y ⟨setV fr1 t (rawS u),own⟩ a w H an' F' ms := by
 obtain ⟨p,hp,h0,g1,g2,g3,g4,g5⟩ := h.own own.length (.row sz 0 xs0) (by simp)
 obtain ⟨u,hu,hd⟩ := h.fr.get (Xaz _ _ _ ht (by simp))
 have hoc : u.oneCell' = true := hd.1
 have hub : u = p.2 := by
  obtain ⟨_,q,hq,_,hqb⟩ := hd
  rw [hp] at hq; cases hq
  exact hqb h0
 have hpu : p = (0,u) := by rw [hub,<- h0]
 subst hpu
 rcases g5 with ⟨e,_⟩ | ⟨b,o,cap,vs,T,e1,e2,e3,e4⟩
 ·exact absurd e hne
 have hfr : All2 (DenV H an) (setV fr1 t (rawS u)) a.tmps.toList := by
  have := Xbi fr a.tmps.toList t (rawS u) _ h.fr (show DenV H an _ u from Den.raw _ hoc)
  rwa [Xif hu,hf] at this
 have hb : F own.length b := (e2 b).2 rfl
 have hc := (h.reframe hfr).cut own.length hnp (Xm9 _ _ _ _ h1 rfl) (by rw [List.take_left]; exact h2)
 simp only [List.take_left] at hc
 refine ⟨b,u,_,_,⟨rfl,g1,g2,g3,g4,.inr ⟨b,o,cap,vs,T,e1,fun _ => Iff.rfl,e3,e4⟩⟩,(h.fp _ _ hb).1,(h.fp _ _ hb).2.1,(h.fp _ _ hb).2.2,fun i hi => ?_,fun hm => (h.mks b hm).2.2.2 _ hb,hc⟩
 have := h.dj _ _ _ hi.2 hb
 omega
theorem Wf4 {o : MOp} {ev : Opd -> V} {own own' : List Ch} {v : V} : Ev (S.at_ n) o ev own v own' ↔ Ev S o ev own v own' := by cases o <;> exact Iff.rfl
theorem Xzd {q : Bool} {r : Rc} {v : V} {own' : List Ch} : Xbr (S.at_ n) q r s v own' ↔ Xbr S q r s v own' := by
 unfold Xbr
 rw [Wf4]
theorem Xze {q : Bool} {r : Rc} {v : V} {own own' : List Ch} {fr fr' : List V} (h : ∀ t ∈ r.slots,getV fr' t = getV fr t) (hs : Xbr S q r ⟨fr,own⟩ v own') : Xbr S q r ⟨fr',own⟩ v own' := by
 have evs : ∀ x ∈ r.o.opds,evO fr' x = evO fr x := by
  intro x hx
  cases x with
  | c v => rfl
  | t n =>
   refine h n ?_
   simp only [Rc.slots,List.mem_append,List.mem_filterMap]
   exact .inr ⟨.t n,hx,rfl⟩
 have guard : ∀ t b,r.g = some (t,b) -> getV fr' t = getV fr t := fun t b hg => h t (by simp [Rc.slots,hg])
 rcases hs with ⟨g1,g2,g3⟩ | ⟨t,b,g1,g2,g3,g4⟩
 ·refine .inl ⟨fun t b hg => by rw [guard t b hg]; exact g1 t b hg,?_,g3⟩
  simp only
  rw [Xhf evs]; exact g2
 ·exact .inr ⟨t,b,g1,by rw [guard t b g1]; exact g2,g3,g4⟩
theorem Runs.app {q : Bool} {K : St -> Prop} : ∀ {fs ps : List Rc} {s : St},Runs S q K (fs ++ ps) s -> Runs S q (fun s' => Runs S q K ps s') fs s
 | [],_,_,h => h
 | ⟨g,d,o,fx⟩ :: fs,ps,s,h => by
  rcases h with ⟨v,own',h1,h2,h3,h4⟩ | ⟨t,b,h1,h2,h4⟩
  ·exact .inl ⟨v,own',h1,h2,h3,Runs.app h4⟩
  ·exact .inr ⟨t,b,h1,h2,Runs.app h4⟩
def layW (frL : List V) : List Var -> St -> St
 | [],s => s
 | x :: xs,s => layW frL xs ⟨setV s.fr x.t (.one (.ptr s.own.length 0)),s.own ++ [.cells (getV frL x.y).cells]⟩
structure YOK (frL : List V) (x : Var) : Prop where
 ok : (getV frL x.y).ok = true
 solid : Xbs (getV frL x.y).cells = true
 len : (getV frL x.y).cells.length = x.n
 t : x.t < frL.length
theorem Xhk : ∀ {l : List V} {t : Nat},¬ t < l.length -> getV l t = .un
 | [],_,_ => rfl
 | _ :: _,0,h => by simp at h
 | _ :: l,t + 1,h => Xhk (l := l) (by simpa using h)
theorem Xzf {q : Bool} {K : St -> Prop} {frL : List V} : ∀ {xs : List Var} {s : St},(∀ x ∈ xs,x.z.length = x.n) -> (∀ x ∈ xs,∀ z ∈ xs,z.y ≠ x.t) -> s.fr.length = frL.length -> (∀ x ∈ xs,getV s.fr x.y = getV frL x.y) ->
  Runs S q K (xs.flatMap Var.two) s -> (∀ x ∈ xs,YOK frL x) /\ K (layW frL xs s)
 | [],s,_,_,_,_,h => ⟨by simp,h⟩
 | x :: xs,s,hz,hy,hl,hg,h => by
  have h : Runs S q K (x.aRc :: x.sRc :: xs.flatMap Var.two) s := h
  rcases h with ⟨v,own',_,⟨rfl,rfl⟩,_,h⟩ | ⟨t,b,h1,_⟩
  ·rcases h with ⟨v,own',_,hs,_,h⟩ | ⟨t,b,h1,_⟩
   ·obtain ⟨e1,e2,rfl,e4⟩ := hs
    have hyx : x.y ≠ x.t := hy x (by simp) x (by simp)
    have hgy : evO (putV s.fr (some x.t) (.one (.ptr s.own.length 0))) (.t x.y) = getV frL x.y := by
     show getV (setV s.fr x.t _) x.y = _
     rw [Xag,if_neg (fun h => hyx h.1.symm)]
     exact hg x (by simp)
    have ht : x.t < s.fr.length := by
     by_cases hlt : x.t < s.fr.length
     ·exact hlt
     ·exfalso
      have : evO (putV s.fr (some x.t) (.one (.ptr s.own.length 0))) (.t x.t) = .un := Xhk (by show ¬ x.t < (setV s.fr x.t _).length; rw [Xa6]; exact hlt)
      simp only [Var.aRc,this] at e4
    have hgt : evO (putV s.fr (some x.t) (.one (.ptr s.own.length 0))) (.t x.t) = .one (.ptr s.own.length 0) := by
     show getV (setV s.fr x.t _) x.t = _
     rw [Xag,if_pos ⟨rfl,ht⟩]
    simp only [Var.aRc] at e1 e2 e4 h
    rw [hgy] at e1 e2
    simp only [hgt,hgy] at e4
    have hgc : getC (s.own ++ [Ch.cells (x.z.map A.ofZ)]) s.own.length = .cells (x.z.map A.ofZ) := by
     have : ∀ (l : List Ch) (c : Ch),getC (l ++ [c]) l.length = c := by
      intro l c
      induction l with
      | nil => rfl
      | cons d l ih => exact ih
     exact this _ _
    rw [hgc] at e4
    obtain ⟨_,e5,rfl⟩ := e4
    have hzn := hz x (by simp)
    have ho : setC (s.own ++ [Ch.cells (x.z.map A.ofZ)]) s.own.length (.cells (((x.z.map A.ofZ).take 0 ++ (getV frL x.y).cells) ++ (x.z.map A.ofZ).drop (0 + x.n))) = s.own ++ [.cells (getV frL x.y).cells] := by
     rw [Xam,List.set_append_right _ _ (Nat.le_refl _),Nat.sub_self,List.drop_of_length_le (by simp [hzn])]
     simp
    rw [ho] at h
    obtain ⟨g1,g2⟩ := Xzf (frL := frL) (fun z hzz => hz z (by simp [hzz])) (fun z hzz u hu => hy z (by simp [hzz]) u (by simp [hu])) (by show (setV s.fr x.t _).length = _; rw [Xa6]; exact hl) (fun z hzz => by
     show getV (setV s.fr x.t _) z.y = _
     rw [Xag,if_neg (fun h => hy x (by simp) z (by simp [hzz]) h.1.symm)]
     exact hg z (by simp [hzz])) h
    refine ⟨fun z hzz => ?_,g2⟩
    rcases List.mem_cons.1 hzz with rfl | hzz
    ·exact ⟨e1,e5,e2,by rw [<- hl]; exact ht⟩
    ·exact g1 z hzz
   ·cases h1
  ·cases h1
end
def rawV (b : Nat) : V := .one (.d (.raw (.pointer (some ⟨b,0,none⟩))))
def valV (ko : Option RowK) (ru : Value) (frA : List V) (y : Nat) : V := match ko with
 | some r => if r.t = y then rawS ru else getV frA y
 | none => getV frA y
def Yps (ko : Option RowK) (ru : Value) (fs : List Rc) (vs : Nat -> V) (fr0 : List V) (x : Var) (done : Bool) : List A := if done then (valV ko ru (frD (fun _ => true) vs fs fr0) x.y).cells else x.z.map A.ofZ
def Xxc (Y Y1 : Dyn) (ko : Option RowK) (ru : Value) (fs : List Rc) (vs : Nat -> V) (fr0 fr1 : List V) (x : Var) (done : Bool) (b : Nat) : Prop :=
 getV fr1 x.t = rawV b /\ ¬ Y.U b /\ Y1.H0 b = none /\ ∃ us T,Y1.w0.heap[b]? = some (.cells us.toArray T (0,0)) /\ Xao Y1.H0 Y1.an0 (Yps ko ru fs vs fr0 x done) us
def Xzg (Y Y1 : Dyn) (r : RowK) (xs0 : List (List D)) (fr1 : List V) (ru : Value) (b : Nat) : Prop :=
 getV fr1 r.t = rawS ru /\ ¬ Y.U b /\ Y1.H0 b = none /\ Xb4 Y1.H0 Y1.an0 Y1.w0 (.row r.sz 0 xs0) (0,ru) fun c => c = b
def knK (v : Nat) : Option RowK -> Nat
 | none => v
 | some _ => v + 1
def ixK (m v : Nat) (ko : Option RowK) (k : Nat) : Nat := if k < v then m + k else match ko with
 | some r => r.j
 | none => 0
structure InvW (S : Sx) (Y : Dyn) (mk : List Nat) (m v : Nat) (fs : List Rc) (xs : List Var) (ko : Option RowK) (xs0 : List (List D)) (vs : Nat -> V) (fr0 : List V) (D : Nat -> Bool) (fr1 : List V) (Y1 : Dyn) (B : Nat -> Nat) (ru : Value) : Prop where
 len : fr1.length = fr0.length
 base : ∀ t,(∀ x ∈ xs,x.t ≠ t) -> (∀ r,ko = some r -> r.t ≠ t) -> getV fr1 t = getV fr0 t
 reb : Reb S Y Y1
 u : ∀ c,Y1.U c ↔ Y.U c \/ ∃ k,k < knK v ko /\ D (ixK m v ko k) = true /\ c = B k
 var : ∀ k x,xs[k]? = some x -> D (m + k) = true -> Xxc Y Y1 ko ru fs vs fr0 fr1 x (D (m + v + k)) (B k)
 row : ∀ r,ko = some r -> D r.j = true -> Xzg Y Y1 r xs0 fr1 ru (B v)
 inj : ∀ k l,k < knK v ko -> l < knK v ko -> D (ixK m v ko k) = true -> D (ixK m v ko l) = true -> B k = B l -> k = l
structure KOK (ms : List Nat) (m v : Nat) (fs : List Rc) (xs : List Var) (r : RowK) : Prop where
 n : 0 < r.n
 j : r.j < m
 free : ∀ x ∈ fs,x.d ≠ some r.t /\ r.t ∉ x.slots
 var : ∀ x ∈ xs,x.t ≠ r.t /\ x.t ∉ r.rc.slots
 self : r.t ∉ r.rc.slots
 ops : ∀ (i : Nat) (q : Rc),i < m -> fs[i]? = some q -> ∀ s ∈ r.rc.slots,q.d = some s -> (ms.getD r.j 0).testBit i = true
 y : ∀ (k : Nat) (x : Var),xs[k]? = some x -> x.y = r.t -> (ms.getD (m + v + k) 0).testBit r.j = true
 used : ∃ x ∈ xs,x.y = r.t
theorem Xxd {ms : List Nat} {m v : Nat} {fs : List Rc} {xs : List Var} {r : RowK} (hv : xs.length = v) (h : Ybw ms m v fs xs r = true) : KOK ms m v fs xs r := by
 simp only [Ybw,Bool.and_eq_true,decide_eq_true_eq] at h
 obtain ⟨⟨h1,h2⟩,h3,h4,h5,h6,h7,h8⟩ := h
 refine ⟨h1,h2,fun x hx => ?_,fun x hx => ?_,by simpa using h5,fun i q hi hq s hs hd => ?_,fun k x hk hy => ?_,?_⟩
 ·simpa using List.all_eq_true.1 h3 x hx
 ·simpa using List.all_eq_true.1 h4 x hx
 ·have := List.all_eq_true.1 h6 i (List.mem_range.2 hi)
  rw [hq] at this
  simp only [Option.all_some] at this
  have := List.all_eq_true.1 this s hs
  simp only [Bool.or_eq_true,bne_iff_ne,ne_eq] at this
  exact this.resolve_left fun h => h hd
 ·have hkv := (List.getElem?_eq_some_iff.1 hk).1
  have := List.all_eq_true.1 h7 k (List.mem_range.2 (by omega))
  rw [hk] at this
  simp only [Option.all_some,Bool.or_eq_true,bne_iff_ne,ne_eq] at this
  exact this.resolve_left fun h => h hy
 ·obtain ⟨x,hx,he⟩ := List.any_eq_true.1 h8
  exact ⟨x,hx,by simpa using he⟩
theorem Xmb : ∀ {l : List Rc} {i : Nat} {r : RowK},Xx7 i l = some r -> i <= r.j /\ l[r.j - i]? = some r.rc
 | [],i,r,h => by cases h
 | x :: l,i,r,h => by
  have rec_ : Xx7 (i + 1) l = some r -> i <= r.j /\ (x :: l)[r.j - i]? = some r.rc := fun h => by
   obtain ⟨h1,h2⟩ := Xmb h
   refine ⟨by omega,?_⟩
   rw [show r.j - i = (r.j - (i + 1)) + 1 by omega,List.getElem?_cons_succ]
   exact h2
  unfold Xx7 at h
  split at h
  ·cases h
   exact ⟨Nat.le_refl _,by simp [RowK.rc]⟩
  ·exact rec_ h
section
variable {S : Sx} {Y Y1 : Dyn} {a : Act} {w : World} {H : Heap} {an : Anc} {F : Nat -> Nat -> Prop} {ms : List Nat} {n : Nat}
variable {mk : List Nat} {m v : Nat} {fs : List Rc} {xs : List Var} {ko : Option RowK} {xs0 : List (List D)} {vs : Nat -> V} {fr0 fr1 : List V} {D D' : Nat -> Bool} {B : Nat -> Nat} {ru : Value} {own : List Ch}
theorem Xzh {frA : List V} {y : Nat} (h : ∀ r,ko = some r -> r.t ≠ y) : valV ko ru frA y = getV frA y := by
 unfold valV
 split
 ·rw [if_neg (h _ rfl)]
 ·rfl
theorem Xb2 {k : Nat} (h : k < v) : ixK m v ko k = m + k := by unfold ixK; rw [if_pos h]
theorem Xdw {r : RowK} (h : ko = some r) : ixK m v ko v = r.j := by subst h; unfold ixK; rw [if_neg (by omega)]
theorem Xcv {k : Nat} (h : k < v) : k < knK v ko := by unfold knK; split <;> omega
theorem Xna {r : RowK} (h : ko = some r) : v < knK v ko := by subst h; show v < v + 1; omega
theorem Xdx {k : Nat} (h : k < knK v ko) : k < v \/ (k = v /\ ∃ r,ko = some r) := by
 unfold knK at h
 split at h
 ·exact .inl h
 ·rcases Nat.lt_or_ge k v with h1 | h1
  ·exact .inl h1
  ·exact .inr ⟨by omega,_,rfl⟩
theorem Xo5 {s : St} {P : Nat -> Prop} (hreb : Reb S Y Y1) (hu : ∀ c,Y1.U c ↔ Y.U c \/ P c) (hP : ∀ c,P c -> Y1.H0 c = none) {b : Nat} (hb1 : b < w.heap.size) (hb2 : H b = none) (hb4 : ∀ i,¬ F i b) (hb5 : b ∉ ms) (hs : SatX (S.at_ n) Y1 s a w H an F ms) :
  Reb S Y ⟨H,an,fun c => Y1.U c \/ c = b,w,Y.round⟩ /\ SatX (S.at_ s.own.length) ⟨H,an,fun c => Y1.U c \/ c = b,w,Y.round⟩ s a w H an F ms :=
 (hreb.back hs).rebase (fun c => Y1.U c \/ c = b) (fun c hc => .inl ((hu c).2 (.inl hc))) (fun c hc => by
  rcases hc with hc | rfl
  ·rcases (hu c).1 hc with h1 | h1
   ·exact .inl h1
   ·have hl0 := hP c h1
    refine .inr ⟨Nat.lt_of_lt_of_le (hs.ub c hc).1 hs.size,?_,fun i hi => (hs.fp i c hi).2.2 hc,fun hm => (hs.mks c hm).2.2.1 hc⟩
    cases e : H c with
    | none => rfl
    | some o =>
     rcases hs.hn c o e with h5 | h5
     ·rw [hl0] at h5; cases h5
     ·exact absurd hc h5
  ·exact .inr ⟨hb1,hb2,hb4,hb5⟩)
theorem Xfm {s : St} (hs : SatX (S.at_ n) Y1 s a w H an F ms) {c : Nat} (hc : Y1.U c) (h0 : Y1.H0 c = none) : H c = none := by
 cases e : H c with
 | none => rfl
 | some o =>
  rcases hs.hn c o e with h5 | h5
  ·rw [h0] at h5; cases h5
  ·exact absurd hc h5
theorem Xxc.go {s : St} {x : Var} {done : Bool} {b : Nat} {fr2 : List V} {U : Nat -> Prop} {rd : Option Nat} (h : Xxc Y Y1 ko ru fs vs fr0 fr1 x done b) (hs : SatX (S.at_ n) Y1 s a w H an F ms) (hc : Y1.U b) (hf : getV fr2 x.t = getV fr1 x.t) :
  Xxc Y ⟨H,an,U,w,rd⟩ ko ru fs vs fr0 fr2 x done b := by
 obtain ⟨g1,g2,g3,us,T,g4,g5⟩ := h
 refine ⟨by rw [hf]; exact g1,g2,Xfm hs hc g3,us,T,?_,All2.mono (fun _ _ => DenA.mono hs.h0 hs.al) g5⟩
 show w.heap[b]? = _
 rw [(hs.ub b hc).2]; exact g4
theorem Xzg.go {s : St} {r : RowK} {b : Nat} {fr2 : List V} {U : Nat -> Prop} {rd : Option Nat} (h : Xzg Y Y1 r xs0 fr1 ru b) (hs : SatX (S.at_ n) Y1 s a w H an F ms) (hc : Y1.U b) (hf : getV fr2 r.t = getV fr1 r.t) :
  Xzg Y ⟨H,an,U,w,rd⟩ r xs0 fr2 ru b := by
 obtain ⟨g1,g2,g3,g4⟩ := h
 exact ⟨by rw [hf]; exact g1,g2,Xfm hs hc g3,g4.keep hs.h0 hs.al fun x hx => by subst hx; exact (hs.ub _ hc).2⟩
theorem Xsp {t : Nat} (hno : ∀ r ∈ fs,r.d ≠ some t) {V0 : V} (hD : ∀ (i : Nat) (r : Rc),fs[i]? = some r -> r.d ≠ none -> D' i = D i) : setV (frD D vs fs fr1) t V0 = frD D' vs fs (setV fr1 t V0) := by
 have hno : ∀ (i : Nat) (r : Rc),fs[i]? = some r -> r.d ≠ some t := fun i r hr => hno r (List.mem_of_getElem? hr)
 refine Xef (by rw [Xa6,Xba,Xba,Xa6]) fun t' => ?_
 by_cases ht : t = t'
 ·subst ht
  have e1 : getV (frD D' vs fs (setV fr1 t V0)) t = getV (setV fr1 t V0) t := by
   have := Xb6 fs D' (fun _ => false) vs (setV fr1 t V0) (setV fr1 t V0) t rfl rfl fun i r hr hd => absurd hd (hno i r hr)
   rwa [Xdm fs _ vs _ fun _ => rfl] at this
  rw [e1]
  by_cases hl : t < fr1.length
  ·rw [Xag,Xag,if_pos ⟨rfl,by rw [Xba]; exact hl⟩,if_pos ⟨rfl,hl⟩]
  ·rw [Xhk (by rw [Xa6,Xba]; exact hl),Xhk (by rw [Xa6]; exact hl)]
 ·rw [Xag,if_neg (fun h => ht h.1)]
  refine Xb6 fs D D' vs fr1 (setV fr1 t V0) t' (by rw [Xa6]) (by rw [Xag,if_neg (fun h => ht h.1)]) fun i r hr hd => ?_
  exact (hD i r hr (by rw [hd]; simp)).symm
theorem InvW.turn (hv : xs.length = v) (hok : VOK mk m v fs xs) (hkk : ∀ r,ko = some r -> KOK mk m v fs xs r) (hm : fs.length = m) {k : Nat} {x : Var} (hx : xs[k]? = some x) (hlen : fr1.length = fr0.length) (hbase : ∀ t,(∀ x ∈ xs,x.t ≠ t) -> (∀ r,ko = some r -> r.t ≠ t) -> getV fr1 t = getV fr0 t)
  (hreb : Reb S Y Y1) (hu : ∀ c,Y1.U c ↔ Y.U c \/ ∃ l,l < knK v ko /\ l ≠ k /\ D (ixK m v ko l) = true /\ c = B l)
  (hvar : ∀ l z,xs[l]? = some z -> l ≠ k -> D (m + l) = true -> Xxc Y Y1 ko ru fs vs fr0 fr1 z (D (m + v + l)) (B l))
  (hrow : ∀ r,ko = some r -> D r.j = true -> Xzg Y Y1 r xs0 fr1 ru (B v))
  (hinj : ∀ k l,k < knK v ko -> l < knK v ko -> D (ixK m v ko k) = true -> D (ixK m v ko l) = true -> B k = B l -> k = l)
  (hD : ∀ i,i ≠ m + k -> i ≠ m + v + k -> D' i = D i) (hDk : D' (m + k) = true)
  {b : Nat} {us : List Value} {T : TypeId} (hb1 : w.heap[b]? = some (.cells us.toArray T (0,0))) (hb2 : H b = none) (hb3 : ¬ Y1.U b) (hb4 : ∀ i,¬ F i b) (hb5 : b ∉ ms) (hb6 : Xao H an (Yps ko ru fs vs fr0 x (D' (m + v + k))) us)
  (hlt : x.t < fr1.length) (hs : SatX (S.at_ n) Y1 ⟨setV (frD D vs fs fr1) x.t (rawV b),own⟩ a w H an F ms) :
  ∃ Y2,InvW S Y mk m v fs xs ko xs0 vs fr0 D' (setV fr1 x.t (rawV b)) Y2 (fun l => if l = k then b else B l) ru /\ SatX (S.at_ own.length) Y2 ⟨frD D' vs fs (setV fr1 x.t (rawV b)),own⟩ a w H an F ms := by
 have hxm := List.mem_of_getElem? hx
 have hk : k < v := by rw [<- hv]; exact (List.getElem?_eq_some_iff.1 hx).1
 have hUY : ∀ c,Y.U c -> Y1.U c := fun c hc => (hu c).2 (.inl hc)
 have hfr : setV (frD D vs fs fr1) x.t (rawV b) = frD D' vs fs (setV fr1 x.t (rawV b)) := Xsp (fun r hr => (hok.free x hxm r hr).1) fun i r hr _ => by
  have := (List.getElem?_eq_some_iff.1 hr).1
  exact hD i (by omega) (by omega)
 rw [hfr] at hs
 have hne : ∀ l z,xs[l]? = some z -> l ≠ k -> z.t ≠ x.t := fun l z hz hl => by
  rcases Nat.lt_or_gt_of_ne hl with h | h
  ·exact hok.ne k l x z hx hz h
  ·exact (hok.ne l k z x hz hx h).symm
 have hrt : ∀ r,ko = some r -> r.t ≠ x.t := fun r hr => ((hkk r hr).var x hxm).1.symm
 have hix : ∀ l,l < knK v ko -> l ≠ k -> ixK m v ko l ≠ m + k /\ ixK m v ko l ≠ m + v + k := fun l hl hlk => by
  rcases Xdx hl with h | ⟨rfl,r,hr⟩
  ·rw [Xb2 h]; omega
  ·rw [Xdw hr]
   have := (hkk r hr).j
   omega
 have hDl : ∀ l,l < knK v ko -> l ≠ k -> D' (ixK m v ko l) = D (ixK m v ko l) := fun l h1 h2 => hD _ (hix l h1 h2).1 (hix l h1 h2).2
 have hP : ∀ c,(∃ l,l < knK v ko /\ l ≠ k /\ D (ixK m v ko l) = true /\ c = B l) -> Y1.H0 c = none := by
  rintro c ⟨l,h1,h2,h3,rfl⟩
  rcases Xdx h1 with h | ⟨rfl,r,hr⟩
  ·rw [Xb2 h] at h3
   exact (hvar l _ (List.getElem?_eq_getElem (by omega)) h2 h3).2.2.1
  ·rw [Xdw hr] at h3
   exact (hrow r hr h3).2.2.1
 obtain ⟨hr,hs2⟩ := Xo5 hreb hu hP (Array.getElem?_eq_some_iff.1 hb1).1 hb2 hb4 hb5 hs
 refine ⟨_,⟨by rw [Xa6]; exact hlen,fun t ht htr => ?_,hr,fun c => ?_,fun l z hz hl => ?_,fun r hko hl => ?_,fun i j hi hj h1 h2 e => ?_⟩,hs2⟩
 ·rw [Xag,if_neg (fun h => ht x hxm h.1)]
  exact hbase t ht htr
 ·constructor
  ·rintro (hc | rfl)
   ·rcases (hu c).1 hc with h1 | ⟨l,h1,h2,h3,h4⟩
    ·exact .inl h1
    ·exact .inr ⟨l,h1,by rw [hDl l h1 h2]; exact h3,by rw [if_neg h2]; exact h4⟩
   ·exact .inr ⟨k,Xcv hk,by rw [Xb2 hk]; exact hDk,by rw [if_pos rfl]⟩
  ·rintro (hc | ⟨l,h1,h2,h3⟩)
   ·exact .inl (hUY c hc)
   ·by_cases e : l = k
    ·rw [if_pos e] at h3; exact .inr h3
    ·rw [if_neg e] at h3
     rw [hDl l h1 e] at h2
     exact .inl ((hu c).2 (.inr ⟨l,h1,e,h2,h3⟩))
 ·have hlv : l < v := by rw [<- hv]; exact (List.getElem?_eq_some_iff.1 hz).1
  by_cases e : l = k
  ·subst e
   rw [hx] at hz; cases hz
   simp only [if_true]
   exact ⟨by rw [Xag,if_pos ⟨rfl,hlt⟩],fun h => hb3 (hUY b h),hb2,us,T,hb1,hb6⟩
  ·simp only [if_neg e]
   have hl' := hl
   rw [hD _ (by omega) (by omega)] at hl'
   rw [hD (m + v + l) (by omega) (by omega)]
   exact (hvar l z hz e hl').go hs ((hu _).2 (.inr ⟨l,Xcv hlv,e,by rw [Xb2 hlv]; exact hl',rfl⟩)) (by rw [Xag,if_neg (fun h => hne l z hz e h.1.symm)])
 ·have hjm := (hkk r hko).j
  have hvk : v ≠ k := by omega
  simp only [if_neg hvk]
  rw [hD _ (by omega) (by omega)] at hl
  exact (hrow r hko hl).go hs ((hu _).2 (.inr ⟨v,Xna hko,hvk,by rw [Xdw hko]; exact hl,rfl⟩)) (by rw [Xag,if_neg (fun h => hrt r hko h.1.symm)])
 ·have hbne : ∀ l,l < knK v ko -> l ≠ k -> D (ixK m v ko l) = true -> B l ≠ b := fun l h1 h2 h3 e => hb3 (by rw [<- e]; exact (hu _).2 (.inr ⟨l,h1,h2,h3,rfl⟩))
  by_cases ei : i = k <;> by_cases ej : j = k
  ·omega
  ·simp only [if_pos ei,if_neg ej] at e
   rw [hDl j hj ej] at h2
   exact absurd e.symm (hbne j hj ej h2)
  ·simp only [if_pos ej,if_neg ei] at e
   rw [hDl i hi ei] at h1
   exact absurd e (hbne i hi ei h1)
  ·simp only [if_neg ei,if_neg ej] at e
   rw [hDl i hi ei] at h1
   rw [hDl j hj ej] at h2
   exact hinj i j hi hj h1 h2 e
theorem InvW.turnR (hv : xs.length = v) (hm : fs.length = m) {r : RowK} (hko : ko = some r) (hk : KOK mk m v fs xs r) (hhole : fs[r.j]? = some Xjv) (h : InvW S Y mk m v fs xs ko xs0 vs fr0 D fr1 Y1 B ru) (hDj : D r.j = false)
  (hnd : ∀ (k : Nat) (x : Var),xs[k]? = some x -> x.y = r.t -> D (m + v + k) = false) (hD : ∀ i,i ≠ r.j -> D' i = D i) (hDk : D' r.j = true)
  {b : Nat} {u : Value} (hb0 : Xb4 H an w (.row r.sz 0 xs0) (0,u) fun x => x = b) (hb1 : b < w.heap.size) (hb2 : H b = none) (hb3 : ¬ Y1.U b) (hb4 : ∀ i,¬ F i b) (hb5 : b ∉ ms) (hlt : r.t < fr1.length)
  (hs : SatX (S.at_ n) Y1 ⟨setV (frD D vs fs fr1) r.t (rawS u),own⟩ a w H an F ms) :
  ∃ Y2,InvW S Y mk m v fs xs ko xs0 vs fr0 D' (setV fr1 r.t (rawS u)) Y2 (fun l => if l = v then b else B l) u /\ SatX (S.at_ own.length) Y2 ⟨frD D' vs fs (setV fr1 r.t (rawS u)),own⟩ a w H an F ms := by
 have hfr : setV (frD D vs fs fr1) r.t (rawS u) = frD D' vs fs (setV fr1 r.t (rawS u)) := Xsp (fun q hq => (hk.free q hq).1) fun i q hq hne => hD i fun e => by
  subst e; rw [hhole] at hq; cases hq; exact hne rfl
 rw [hfr] at hs
 have hjm := hk.j
 have hP : ∀ c,(∃ l,l < knK v ko /\ D (ixK m v ko l) = true /\ c = B l) -> Y1.H0 c = none := by
  rintro c ⟨l,h1,h3,rfl⟩
  rcases Xdx h1 with h' | ⟨rfl,_,_⟩
  ·rw [Xb2 h'] at h3
   exact (h.var l _ (List.getElem?_eq_getElem (by omega)) h3).2.2.1
  ·rw [Xdw hko,hDj] at h3; cases h3
 obtain ⟨hr,hs2⟩ := Xo5 h.reb h.u hP hb1 hb2 hb4 hb5 hs
 have hlv : ∀ l,l < knK v ko -> l ≠ v -> l < v := fun l h1 h2 => (Xdx h1).elim (fun q => q) fun q => absurd q.1 h2
 have hDl : ∀ l,l < knK v ko -> l ≠ v -> D' (ixK m v ko l) = D (ixK m v ko l) := fun l h1 h2 => by
  rw [Xb2 (hlv l h1 h2)]
  exact hD _ (by omega)
 refine ⟨_,⟨by rw [Xa6]; exact h.len,fun t ht htr => ?_,hr,fun c => ?_,fun l z hz hl => ?_,fun r' hko' hl => ?_,fun i j hi hj h1 h2 e => ?_⟩,hs2⟩
 ·rw [Xag,if_neg (fun q => htr r hko q.1)]
  exact h.base t ht htr
 ·constructor
  ·rintro (hc | rfl)
   ·rcases (h.u c).1 hc with h1 | ⟨l,h1,h3,h4⟩
    ·exact .inl h1
    ·have h2 : l ≠ v := fun e => by subst e; rw [Xdw hko,hDj] at h3; cases h3
     exact .inr ⟨l,h1,by rw [hDl l h1 h2]; exact h3,by rw [if_neg h2]; exact h4⟩
   ·exact .inr ⟨v,Xna hko,by rw [Xdw hko]; exact hDk,by rw [if_pos rfl]⟩
  ·rintro (hc | ⟨l,h1,h2,h3⟩)
   ·exact .inl ((h.u c).2 (.inl hc))
   ·by_cases e : l = v
    ·rw [if_pos e] at h3; exact .inr h3
    ·rw [if_neg e] at h3
     rw [hDl l h1 e] at h2
     exact .inl ((h.u c).2 (.inr ⟨l,h1,h2,h3⟩))
 ·have hl0 : l < v := by rw [<- hv]; exact (List.getElem?_eq_some_iff.1 hz).1
  have e : l ≠ v := by omega
  simp only [if_neg e]
  have hl' := hl
  rw [hD _ (by omega)] at hl'
  rw [hD (m + v + l) (by omega)]
  have hzm := List.mem_of_getElem? hz
  have g := (h.var l z hz hl').go (fr2 := setV fr1 r.t (rawS u)) (U := fun c => Y1.U c \/ c = b) (rd := Y.round) hs ((h.u _).2 (.inr ⟨l,Xcv hl0,by rw [Xb2 hl0]; exact hl',rfl⟩)) (by rw [Xag,if_neg (fun q => (hk.var z hzm).1 q.1.symm)])
  by_cases ey : z.y = r.t
  ·have hf := hnd l z hz ey
   rw [hf] at g ⊢
   exact g
  ·have ev : ∀ q frA,valV ko q frA z.y = getV frA z.y := fun q frA => Xzh fun r'' h'' => by rw [hko] at h''; cases h''; exact fun e => ey e.symm
   unfold Xxc Yps at g ⊢
   simp only [ev] at g ⊢
   exact g
 ·rw [hko] at hko'; cases hko'
  simp only [if_true]
  exact ⟨by rw [Xag,if_pos ⟨rfl,hlt⟩],fun q => hb3 ((h.u b).2 (.inl q)),hb2,hb0⟩
 ·have hbne : ∀ l,l < knK v ko -> l ≠ v -> D (ixK m v ko l) = true -> B l ≠ b := fun l h1 h2 h3 e => hb3 (by rw [<- e]; exact (h.u _).2 (.inr ⟨l,h1,h3,rfl⟩))
  by_cases ei : i = v <;> by_cases ej : j = v
  ·omega
  ·simp only [if_pos ei,if_neg ej] at e
   rw [hDl j hj ej] at h2
   exact absurd e.symm (hbne j hj ej h2)
  ·simp only [if_pos ej,if_neg ei] at e
   rw [hDl i hi ei] at h1
   exact absurd e (hbne i hi ei h1)
  ·simp only [if_neg ei,if_neg ej] at e
   rw [hDl i hi ei] at h1
   rw [hDl j hj ej] at h2
   exact h.inj i j hi hj h1 h2 e
def Kept (S : Sx) (Y : Dyn) (w : World) (H : Heap) (an : Anc) (F : Nat -> Nat -> Prop) (ms : List Nat) (fr : List V) (cs : List A) (t b : Nat) : Prop :=
 getV fr t = rawV b /\ H b = none /\ ¬ Y.U b /\ (∀ i,¬ F i b) /\ b ∉ ms /\ ∃ us T,w.heap[b]? = some (.cells us.toArray T (0,0)) /\ Xao H an cs us
theorem Yc1 {fr : List V} {t b : Nat} {o : List Ch} (h : SatX S Y ⟨fr,o⟩ a w H an F ms) (ht : getV fr t = rawV b) : a.tmps.toList[t]? = some (.pointer (some ⟨b,0,none⟩)) := by
 obtain ⟨u,hu,hd⟩ := h.fr.get (Xaz _ _ _ ht (by simp [rawV]))
 cases hd
 exact hu
theorem Xf3 {o : List Ch} {q : Nat × Value} (h : ∀ i,(∃ p,an i = some p) ↔ i < o.length) : Anc.Le an (an.put o.length q) := ⟨fun i r hr => by
 refine ⟨r,?_,.inl rfl⟩
 unfold Anc.put
 rw [if_neg (by have := (h i).1 ⟨r,hr⟩; omega)]
 exact hr⟩
def Xe7 (ko : Option RowK) (xs0 : List (List Go.Fw.D)) (s : St) : St := match ko with
 | some r => ⟨setV s.fr r.t (.one (.own s.own.length 0)),s.own ++ [.row r.sz 0 xs0]⟩
 | none => s
structure RowF (ko : Option RowK) (xs0 : List (List Go.Fw.D)) (frA : List V) (r : RowK) : Prop where
 z : r.z.length = r.sz
 b : r.n * r.sz <= 16777216
 sz : 0 < r.sz
 lay : layE (evO frA) r.sz (Xc4 r.z r.n) r.ps = some xs0
 ok : (r.ps.all fun p => (evO frA p.2).ok) = true
 ne : xs0 ≠ []
 t : r.t < frA.length
theorem Ypt {x : Var} {frA : List V} {o : List Ch} (hr : ∀ r,ko = some r -> r.t < frA.length) (h : YOK (Xe7 ko xs0 ⟨frA,o⟩).fr x) : (valV ko ru frA x.y).ok = true /\ Xbs (valV ko ru frA x.y).cells = true /\ (valV ko ru frA x.y).cells.length = x.n := by
 obtain ⟨h1,h2,h3,_⟩ := h
 cases ko with
 | none => exact ⟨h1,h2,h3⟩
 | some r =>
  simp only [Xe7,valV] at h1 h2 h3 ⊢
  rw [Xag] at h1 h2 h3
  by_cases e : r.t = x.y
  ·rw [if_pos ⟨e,by rw [<- e]; exact hr r rfl⟩] at h1 h2 h3
   rw [if_pos e]
   exact ⟨rfl,rfl,h3⟩
  ·rw [if_neg (fun q => e q.1)] at h1 h2 h3
   rw [if_neg e]
   exact ⟨h1,h2,h3⟩
theorem SatX.take_in {fr : List V} {cs : List A} {t b : Nat} (h : SatX S Y ⟨fr,own⟩ a w H an F ms) (hk : Kept S Y w H an F ms fr cs t b) :
  SatX S Y ⟨setV fr t (.one (.ptr own.length 0)),own ++ [.cells cs]⟩ a w H (an.put own.length (0,.pointer (some ⟨b,0,none⟩))) (fun i c => if i = own.length then c = b else F i c) ms := by
 obtain ⟨h1,h2,h3,h4,h5,us,T,h6,h7⟩ := hk
 have ha := h.adopt h6 h7 h2 h3 h4 h5
 have hu := Yc1 h h1
 refine ha.reframe ?_
 have := Xbi fr a.tmps.toList t (.one (.ptr own.length 0)) _ ha.fr (show DenV H _ _ (.pointer (some ⟨b,0,none⟩)) from ⟨b,rfl,(0,.pointer (some ⟨b,0,none⟩)),by simp [Anc.put],fun b' e => by cases e; rfl⟩)
 rwa [Xif hu] at this
theorem SatX.take_inR {fr : List V} {sz t b : Nat} {u : Value} (h : SatX S Y ⟨fr,own⟩ a w H an F ms) (ht : getV fr t = rawS u) (hc : Xb4 H an w (.row sz 0 xs0) (0,u) fun x => x = b) (hlt : b < w.heap.size) (h1 : H b = none) (h2 : ¬ Y.U b) (h3 : ∀ i,¬ F i b) (h4 : b ∉ ms) :
  SatX S Y ⟨setV fr t (.one (.own own.length 0)),own ++ [.row sz 0 xs0]⟩ a w H (an.put own.length (0,u)) (fun i c => if i = own.length then c = b else F i c) ms := by
 have ha := h.adoptC (c := .row sz 0 xs0) (q := (0,u)) hlt (hc.keep (Heap.Le.refl _) (Xf3 h.anc) fun _ _ => rfl) h1 h2 h3 h4
 obtain ⟨u',hu,hd⟩ := h.fr.get (Xaz _ _ _ ht (by simp [rawS]))
 have hu' : u' = u /\ u.oneCell' = true := by
  cases hd with
  | raw _ ho => exact ⟨rfl,ho⟩
 obtain ⟨rfl,ho⟩ := hu'
 refine ha.reframe ?_
 have := Xbi fr a.tmps.toList t (.one (.own own.length 0)) _ ha.fr (show DenV H _ _ u' from ⟨ho,(0,u'),by simp [Anc.put],Nat.le_refl _,fun _ => rfl⟩)
 rwa [Xif hu] at this
theorem Xzi {frL : List V} : ∀ (ys : List Var) (k0 : Nat) (fr frT : List V) (own : List Ch) (an : Anc) (F : Nat -> Nat -> Prop),SatX S Y ⟨fr,own⟩ a w H an F ms -> fr.length = frT.length -> (∀ t,(∀ y ∈ ys,y.t ≠ t) -> getV fr t = getV frT t) ->
  (∀ (i : Nat) (y : Var),ys[i]? = some y -> y.t < fr.length /\ Kept S Y w H an F ms fr (getV frL y.y).cells y.t (B (k0 + i))) -> (∀ i j,i < ys.length -> j < ys.length -> B (k0 + i) = B (k0 + j) -> i = j) -> (∀ (i j : Nat) (y z : Var),ys[i]? = some y -> ys[j]? = some z -> i ≠ j -> y.t ≠ z.t) ->
  Sat S Y (layW frL ys ⟨frT,own⟩) a w
 | [],k0,fr,frT,own,an,F,h,hl,hg,_,_,_ => by
  have e : fr = frT := Xef hl fun t => hg t (by simp)
  subst e
  exact ⟨H,an,F,ms,h⟩
 | y :: ys,k0,fr,frT,own,an,F,h,hl,hg,hk,hi,hn => by
  have hk0 := hk 0 y rfl
  rw [Nat.add_zero] at hk0
  have h1 := h.take_in hk0.2
  refine Xzi ys (k0 + 1) _ (setV frT y.t (.one (.ptr own.length 0))) _ _ _ h1 (by rw [Xa6,Xa6]; exact hl) (fun t ht => ?_) (fun i z hz => ?_) (fun i j hi' hj' e => ?_) (fun i j u z hu hz hij => hn (i + 1) (j + 1) u z (by simpa using hu) (by simpa using hz) (by omega))
  ·by_cases e : y.t = t
   ·subst e
    rw [Xag,Xag,if_pos ⟨rfl,hk0.1⟩,if_pos ⟨rfl,by rw [<- hl]; exact hk0.1⟩]
   ·rw [Xag,Xag,if_neg (fun h => e h.1),if_neg (fun h => e h.1)]
    refine hg t fun z hz => ?_
    rcases List.mem_cons.1 hz with rfl | hz
    ·exact e
    ·exact ht z hz
  ·obtain ⟨g0,g1,g2,g3,g4,g5,us,T,g6,g7⟩ := hk (i + 1) z (by simpa using hz)
   have hil : i < ys.length := (List.getElem?_eq_some_iff.1 hz).1
   have hbb : B (k0 + (i + 1)) ≠ B k0 := fun e => by
    have := hi (i + 1) 0 (by simp; omega) (by simp) (by rw [e,Nat.add_zero])
    omega
   have ht : z.t ≠ y.t := hn (i + 1) 0 z y (by simpa using hz) rfl (by omega)
   rw [show k0 + 1 + i = k0 + (i + 1) by omega]
   refine ⟨by rw [Xa6]; exact g0,by rw [Xag,if_neg (fun h => ht h.1.symm)]; exact g1,g2,g3,fun j hj => ?_,g5,us,T,g6,All2.mono (fun _ _ => DenA.mono (Heap.Le.refl _) (Xf3 h.anc)) g7⟩
   have hj : if j = own.length then B (k0 + (i + 1)) = B k0 else F j (B (k0 + (i + 1))) := hj
   split at hj
   ·exact hbb hj
   ·exact g4 j hj
  ·have := hi (i + 1) (j + 1) (by simp; omega) (by simp; omega) (by rw [show k0 + (i + 1) = k0 + 1 + i by omega,show k0 + (j + 1) = k0 + 1 + j by omega]; exact e)
   omega
theorem InvW.same (h : InvW S Y mk m v fs xs ko xs0 vs fr0 D fr1 Y1 B ru) (hD : ∀ i,m <= i -> D' i = D i) (hR : ∀ r,ko = some r -> D' r.j = D r.j) : InvW S Y mk m v fs xs ko xs0 vs fr0 D' fr1 Y1 B ru := by
 have hI : ∀ k,k < knK v ko -> D' (ixK m v ko k) = D (ixK m v ko k) := fun k hk => by
  rcases Xdx hk with h' | ⟨rfl,r,hr⟩
  ·rw [Xb2 h',hD _ (by omega)]
  ·rw [Xdw hr,hR r hr]
 refine ⟨h.len,h.base,h.reb,fun c => ?_,fun k x hx hk => ?_,fun r hr hk => ?_,fun k l hk hl h1 h2 => h.inj k l hk hl (by rw [<- hI k hk]; exact h1) (by rw [<- hI l hl]; exact h2)⟩
 ·rw [h.u c]
  constructor
  ·rintro (h1 | ⟨k,h1,h2,h3⟩)
   ·exact .inl h1
   ·exact .inr ⟨k,h1,by rw [hI k h1]; exact h2,h3⟩
  ·rintro (h1 | ⟨k,h1,h2,h3⟩)
   ·exact .inl h1
   ·exact .inr ⟨k,h1,by rw [<- hI k h1]; exact h2,h3⟩
 ·rw [hD _ (by omega)] at hk ⊢
  exact h.var k x hx hk
 ·rw [hR r hr] at hk
  exact h.row r hr hk
theorem Yc2 {z : List Go.Fw.D} {N : Nat} : ∀ i ∈ (z.map A.ofZ).flatMap A.refs,i < N := fun i hi => by
 obtain ⟨c,hc,hi⟩ := List.mem_flatMap.1 hi
 obtain ⟨d,_,rfl⟩ := List.mem_map.1 hc
 cases d <;> simp [A.ofZ,A.refs,A.refs0] at hi
theorem Xxe {x : V} : ∀ i ∈ x.cells.flatMap A.refs,i ∈ x.refs := by
 cases x <;> simp [V.cells,V.refs]
theorem Xo6 : ∀ (l : List Ch) (c : Ch),getC (l ++ [c]) l.length = c
 | [],_ => rfl
 | _ :: l,c => Xo6 l c
set_option maxHeartbeats 2000000 in
theorem Yc3 {ops : Array Oper} {hs : List Nat} {Q : Exit -> Act -> World -> Prop} {rs0 rs ls : List Rc} {os : Nat -> List Ch} (href : RefL rs0 rs) (he : Xdh 0 ops.toList = true) (ht0 : Xg1 S.P hs ops ops.toList = some rs0)
  (hrs : rs = ls ++ (xs.map Var.aRc ++ xs.map Var.sRc)) (hlm : ls.length = m) (hm : fs.length = m) (hv : xs.length = v) (hz : ∀ x ∈ xs,x.z.length = x.n)
  (hl1 : ∀ j,(∀ r,ko = some r -> j ≠ r.j) -> ls[j]? = fs[j]?) (hl2 : ∀ r,ko = some r -> ls[r.j]? = some r.rc /\ fs[r.j]? = some Xjv)
  (hok : VOK (Xaj ops.toList []) m v fs xs) (hkk : ∀ r,ko = some r -> KOK (Xaj ops.toList []) m v fs xs r) (hkf : ∀ r,ko = some r -> RowF ko xs0 (frD (fun _ => true) vs fs fr0) r) (hd : Xb5 (Xaj ops.toList []) 0 fs = true)
  (hst : ∀ j r,fs[j]? = some r -> Xbr S true r ⟨frD (fun i => decide (i < j)) vs fs fr0,os j⟩ (vs j) (os (j + 1)))
  (hy : ∀ x ∈ xs,YOK (Xe7 ko xs0 ⟨frD (fun _ => true) vs fs fr0,os m⟩).fr x)
  (hQ : ∀ a w,Sat S Y (layW (Xe7 ko xs0 ⟨frD (fun _ => true) vs fs fr0,os m⟩).fr xs (Xe7 ko xs0 ⟨frD (fun _ => true) vs fs fr0,os m⟩)) a w -> Q .normal a w) :
  ∀ (fuel : Nat) (listed : Array Bool) (p : Nat) (fr1 : List V) (Y1 : Dyn) (B : Nat -> Nat) (ru : Value) (n : Nat) (a : Act) (w : World),listed.size = ops.size -> listed.toList.count false = fuel -> InvD (Xaj ops.toList []) fs (fun i => listed.getD i false) p ->
   InvW S Y (Xaj ops.toList []) m v fs xs ko xs0 vs fr0 (fun i => listed.getD i false) fr1 Y1 B ru -> Sat (S.at_ n) Y1 ⟨frD (fun i => listed.getD i false) vs fs fr1,os p⟩ a w -> wpAnyIn (Xd3 Y.round) 0 S.P .any ops Q fuel listed a w := by
 have hlen : rs.length = ops.size := by rw [href.1,(Xdu ht0).1,Array.length_toList]
 have hn : rs.length = m + v + v := by rw [hrs]; simp; omega
 have hrt : ∀ r,ko = some r -> r.t < (frD (fun _ => true) vs fs fr0).length := fun r hr => (hkf r hr).t
 have hfrL : ∀ o,(Xe7 ko xs0 ⟨frD (fun _ => true) vs fs fr0,o⟩).fr.length = fr0.length := fun o => by
  unfold Xe7
  split
  ·rw [Xa6,Xba]
  ·rw [Xba]
 have hlt : ∀ x ∈ xs,x.t < fr0.length := fun x hx => by have := (hy x hx).t; rwa [hfrL] at this
 have hyok : ∀ ru,∀ x ∈ xs,(valV ko ru (frD (fun _ => true) vs fs fr0) x.y).ok = true /\ Xbs (valV ko ru (frD (fun _ => true) vs fs fr0) x.y).cells = true /\ (valV ko ru (frD (fun _ => true) vs fs fr0) x.y).cells.length = x.n := fun ru x hx => Ypt hrt (hy x hx)
 have hst1 : ∀ (fr1 : List V) (n : Nat),fr1.length = fr0.length -> (∀ t,(∀ x ∈ xs,x.t ≠ t) -> (∀ r,ko = some r -> r.t ≠ t) -> getV fr1 t = getV fr0 t) -> ∀ j r,fs[j]? = some r -> Xbr (S.at_ n) true r ⟨frD (fun i => decide (i < j)) vs fs fr1,os j⟩ (vs j) (os (j + 1)) := fun fr1 n hl hb j r hr => by
  refine Xzd.2 (Xze (fun t ht => ?_) (hst j r hr))
  exact Xb6 fs _ _ vs fr1 fr0 t hl (hb t (fun x hx e => (hok.free x hx r (List.mem_of_getElem? hr)).2 (e ▸ ht)) fun q hq e => ((hkk q hq).free r (List.mem_of_getElem? hr)).2 (e ▸ ht)) fun i x _ _ => rfl
 have hrslot : ∀ (D : Nat -> Bool) (fr1 : List V),∀ r,ko = some r -> getV (frD D vs fs fr1) r.t = getV fr1 r.t := fun D fr1 r hr => by
  have := Xb6 fs D (fun _ => false) vs fr1 fr1 r.t rfl rfl fun i q hq hdd => absurd hdd ((hkk r hr).free q (List.mem_of_getElem? hq)).1
  rwa [Xdm fs _ vs _ fun _ => rfl] at this
 have hyv : ∀ (D : Nat -> Bool) (fr1 : List V) (Y1 : Dyn) (B : Nat -> Nat) (ru : Value),InvW S Y (Xaj ops.toList []) m v fs xs ko xs0 vs fr0 D fr1 Y1 B ru -> ∀ x ∈ xs,(∀ i r,fs[i]? = some r -> r.d = some x.y -> D i = true) -> (∀ r,ko = some r -> x.y = r.t -> D r.j = true) ->
   getV (frD D vs fs fr1) x.y = valV ko ru (frD (fun _ => true) vs fs fr0) x.y := fun D fr1 Y1 B ru hW x hx hdone hrd => by
  by_cases e : ∃ r,ko = some r /\ r.t = x.y
  ·obtain ⟨r,hr,e⟩ := e
   rw [<- e,hrslot D fr1 r hr,(hW.row r hr (hrd r hr e.symm)).1]
   subst hr
   simp only [valV,if_true]
  ·rw [Xzh fun r hr h => e ⟨r,hr,h⟩]
   exact Xb6 fs D _ vs fr1 fr0 x.y hW.len (hW.base x.y (fun z hzm e => hok.y z hzm x hx e.symm) fun r hr h => e ⟨r,hr,h⟩) fun i r hi hdd => hdone i r hi hdd
 have hslot : ∀ (D : Nat -> Bool) (fr1 : List V),∀ x ∈ xs,getV (frD D vs fs fr1) x.t = getV fr1 x.t := fun D fr1 x hx => by
  have := Xb6 fs D (fun _ => false) vs fr1 fr1 x.t rfl rfl fun i r hr hdd => absurd hdd (hok.free x hx r (List.mem_of_getElem? hr)).1
  rwa [Xdm fs _ vs _ fun _ => rfl] at this
 have ends : ∀ (listed : Array Bool) (p : Nat) (fr1 : List V) (Y1 : Dyn) (B : Nat -> Nat) (ru : Value) (n : Nat) (a : Act) (w : World),listed.size = ops.size -> InvD (Xaj ops.toList []) fs (fun i => listed.getD i false) p ->
   InvW S Y (Xaj ops.toList []) m v fs xs ko xs0 vs fr0 (fun i => listed.getD i false) fr1 Y1 B ru -> Sat (S.at_ n) Y1 ⟨frD (fun i => listed.getD i false) vs fs fr1,os p⟩ a w -> Region.ready .any ops listed = [] -> Q .normal a w := by
  intro listed p fr1 Y1 B ru n a w hsz hI hW h hr
  have all : ∀ j,j < ops.size -> listed.getD j false = true := by
   intro j
   induction j using Nat.strongRecOn with
   | _ j ih =>
    intro hj
    cases hD : listed.getD j false with
    | true => rfl
    | false =>
     exfalso
     have ho : ops[j]? = some ops[j] := Array.getElem?_eq_getElem hj
     have : j ∈ Region.ready .any ops listed := mem_ready.2 ⟨by simpa [Array.getD_eq_getD_getElem?,hsz,hj] using hD,_,ho,fun e hea hb => by
      have := Xd8 he j ops[j] (by simpa using ho) e.on (Xda.2 ⟨e,hea,hb,rfl⟩)
      exact ih e.on (by omega) (by omega)⟩
     rw [hr] at this; cases this
  have hos : os m = os p := by
   obtain ⟨k,hk⟩ := Nat.exists_eq_add_of_le hI.ple
   rw [<- hm,hk]
   refine Xih hst p k (by omega) fun i r h1 h2 hr => ?_
   cases hc : Xa8 r.kind with
   | false => rfl
   | true =>
    exfalso
    have := (hI.pos i r hr hc).1 (all i (by omega))
    omega
  obtain ⟨H,an,F,ms,hsx⟩ := h
  have hb := hW.reb.back hsx
  have hU : ∀ k,k < knK v ko -> Y1.U (B k) := fun k hk => (hW.u _).2 (.inr ⟨k,hk,all _ (by
   rcases Xdx hk with h' | ⟨rfl,r,hr⟩
   ·rw [Xb2 h']; omega
   ·rw [Xdw hr]; have := (hkk r hr).j; omega),rfl⟩)
  have hF : ∀ k,k < knK v ko -> (∀ i,¬ F i (B k)) /\ B k ∉ ms := fun k hk => ⟨fun i hi => (hsx.fp i _ hi).2.2 (hU k hk),fun hmm => (hsx.mks _ hmm).2.2.1 (hU k hk)⟩
  have hbase : ∀ t,(∀ x ∈ xs,x.t ≠ t) -> (∀ r,ko = some r -> r.t ≠ t) -> getV (frD (fun i => listed.getD i false) vs fs fr1) t = getV (frD (fun _ => true) vs fs fr0) t := fun t h1 h2 =>
   Xb6 fs _ _ vs fr1 fr0 t hW.len (hW.base t h1 h2) fun i r hi _ => all i (by have := (List.getElem?_eq_some_iff.1 hi).1; omega)
  have row : ∃ fr2 an2 F2,SatX S Y ⟨fr2,(Xe7 ko xs0 ⟨frD (fun _ => true) vs fs fr0,os p⟩).own⟩ a w H an2 F2 ms /\ fr2.length = fr0.length /\ (∀ t,(∀ x ∈ xs,x.t ≠ t) -> getV fr2 t = getV (Xe7 ko xs0 ⟨frD (fun _ => true) vs fs fr0,os p⟩).fr t) /\
    (∀ x ∈ xs,getV fr2 x.t = getV fr1 x.t) /\ Anc.Le an an2 /\ (∀ k,k < v -> ∀ i,¬ F2 i (B k)) /\ ∀ x ∈ xs,∀ us,Xao H an (valV ko ru (frD (fun _ => true) vs fs fr0) x.y).cells us -> Xao H an2 (getV (Xe7 ko xs0 ⟨frD (fun _ => true) vs fs fr0,os p⟩).fr x.y).cells us := by
   by_cases hk : ∃ r,ko = some r
   ·obtain ⟨r,hr⟩ := hk
    have hvk := Xna (v := v) hr
    obtain ⟨g1,g2,g3,g4⟩ := hW.row r hr (all _ (by have := (hkk r hr).j; omega))
    have hrl := hrt r hr
    have t1 := hb.take_inR (t := r.t) (by rw [hrslot _ _ r hr]; exact g1) (g4.keep hsx.h0 hsx.al fun x hx => by subst hx; exact (hsx.ub _ (hU v hvk)).2) (Nat.lt_of_lt_of_le (hsx.ub _ (hU v hvk)).1 hsx.size) (Xfm hsx (hU v hvk) g3) g2 (hF v hvk).1 (hF v hvk).2
    subst hr
    refine ⟨_,_,_,t1,by rw [Xa6,Xba,hW.len],fun t ht => ?_,fun x hx => ?_,Xf3 hb.anc,fun k hk i hi => ?_,fun x hx us hus => ?_⟩
    ·show getV (setV _ _ _) t = getV (setV _ _ _) t
     rw [Xag,Xag]
     by_cases e : r.t = t
     ·subst e
      rw [if_pos ⟨rfl,by rw [Xba,hW.len,<- Xba fs (fun _ => true) vs fr0]; exact hrl⟩,if_pos ⟨rfl,hrl⟩]
     ·rw [if_neg (fun q => e q.1),if_neg (fun q => e q.1)]
      exact hbase t ht fun q hq => by cases hq; exact e
    ·rw [Xag,if_neg (fun q => ((hkk r rfl).var x hx).1 q.1.symm)]
     exact hslot _ _ x hx
    ·have hi : if i = (os p).length then B k = B v else F i (B k) := hi
     split at hi
     ·have := hW.inj k v (Xcv hk) hvk (by rw [Xb2 hk]; exact all _ (by omega)) (by rw [Xdw rfl]; exact all _ (by have := (hkk r rfl).j; omega)) hi
      omega
     ·exact (hF k (Xcv hk)).1 i hi
    ·show Xao H _ (getV (setV _ _ _) x.y).cells us
     rw [Xag]
     by_cases e : r.t = x.y
     ·rw [if_pos ⟨e,by rw [<- e]; exact hrl⟩]
      simp only [valV,if_pos e] at hus
      obtain ⟨u',rfl,hu'⟩ : ∃ u',us = [u'] /\ DenA H an (.d (.raw ru)) u' := by
       cases us with
       | nil => exact hus.elim
       | cons u' l => cases l with
        | nil => exact ⟨u',rfl,hus.1⟩
        | cons _ _ => exact hus.2.elim
      have hu' : Den H (.raw ru) u' := hu'
      cases hu' with
      | raw _ ho => exact ⟨show DenA H _ (.own (os p).length 0) _ from ⟨ho,(0,ru),by simp [Anc.put],Nat.le_refl _,fun _ => rfl⟩,trivial⟩
     ·rw [if_neg (fun q => e q.1)]
      simp only [valV,if_neg e] at hus
      exact All2.mono (fun _ _ => DenA.mono (Heap.Le.refl _) (Xf3 hb.anc)) hus
   ·have hno : ko = none := by cases ko with
     | none => rfl
     | some r => exact absurd ⟨r,rfl⟩ hk
    subst hno
    exact ⟨_,_,_,hb,by rw [Xba,hW.len],fun t ht => hbase t ht fun q hq => (by cases hq),fun x hx => hslot _ _ x hx,Anc.Le.refl _,fun k hk => (hF k hk).1,fun x hx us h => h⟩
  obtain ⟨fr2,an2,F2,q1,q2,q3,q4,q5,q6,q7⟩ := row
  refine hQ a w ?_
  rw [hos]
  have e0 : Xe7 ko xs0 ⟨frD (fun _ => true) vs fs fr0,os p⟩ = ⟨(Xe7 ko xs0 ⟨frD (fun _ => true) vs fs fr0,os p⟩).fr,(Xe7 ko xs0 ⟨frD (fun _ => true) vs fs fr0,os p⟩).own⟩ := rfl
  rw [e0]
  refine Xzi (B := B) xs 0 fr2 _ _ an2 F2 q1 (by rw [q2,hfrL]) q3 (fun k x hx => ?_) (fun i j hi hj e => ?_) (fun i j y z hy' hz' hij => ?_)
  ·have hk := (List.getElem?_eq_some_iff.1 hx).1
   have hkv : k < v := by omega
   have hxm := List.mem_of_getElem? hx
   obtain ⟨g1,g2,g3,us,T,g4,g5⟩ := hW.var k x hx (all _ (by omega))
   rw [Nat.zero_add]
   refine ⟨by rw [q2]; exact hlt x hxm,by rw [q4 x hxm]; exact g1,Xfm hsx (hU k (Xcv hkv)) g3,g2,q6 k hkv,(hF k (Xcv hkv)).2,us,T,?_,?_⟩
   ·rw [(hsx.ub _ (hU k (Xcv hkv))).2]; exact g4
   ·rw [show listed.getD (m + v + k) false = true from all _ (by omega)] at g5
    exact q7 x hxm us (All2.mono (fun _ _ => DenA.mono hsx.h0 hsx.al) g5)
  ·rw [Nat.zero_add,Nat.zero_add] at e
   have hi' : i < v := by omega
   have hj' : j < v := by omega
   exact hW.inj i j (Xcv hi') (Xcv hj') (by rw [Xb2 hi']; exact all _ (by omega)) (by rw [Xb2 hj']; exact all _ (by omega)) e
  ·rcases Nat.lt_or_gt_of_ne hij with h | h
   ·exact hok.ne j i z y hz' hy' h
   ·exact (hok.ne i j y z hy' hz' h).symm
 intro fuel
 induction fuel with
 | zero =>
  intro listed p fr1 Y1 B ru n a w hsz hc hI hW h
  have hr : Region.ready .any ops listed = [] := by
   rw [List.eq_nil_iff_forall_not_mem]
   intro j hj
   obtain ⟨h1,o,ho,_⟩ := mem_ready.1 hj
   have hlt : j < listed.size := by rw [hsz]; exact (Array.getElem?_eq_some_iff.1 ho).1
   simp only [Array.getD_eq_getD_getElem?,Array.getElem?_eq_getElem hlt,Option.getD_some] at h1
   have : false ∈ listed.toList := by rw [<- h1]; simp
   have := List.count_pos_iff.2 this
   omega
  exact ⟨hr,ends listed p fr1 Y1 B ru n a w hsz hI hW h hr⟩
 | succ fuel ih =>
  intro listed p fr1 Y1 B ru n a w hsz hc hI hW h
  refine ⟨ends listed p fr1 Y1 B ru n a w hsz hI hW h,fun j hj => ?_⟩
  obtain ⟨h1,o,ho,hall⟩ := mem_ready.1 hj
  have hltj : j < ops.size := (Array.getElem?_eq_some_iff.1 ho).1
  have hlj : listed[j]? = some false := by
   have hl : j < listed.size := by omega
   simp only [Array.getD_eq_getD_getElem?,Array.getElem?_eq_getElem hl,Option.getD_some] at h1
   rw [Array.getElem?_eq_getElem hl,h1]
  obtain ⟨r1,hr1,htr⟩ := (Xdu ht0).2 j o (by simpa using ho)
  obtain ⟨r,hr⟩ : ∃ r,rs[j]? = some r := ⟨_,List.getElem?_eq_getElem (by rw [hlen]; exact hltj)⟩
  obtain ⟨r0,hr0,hs4,hs5,hs6⟩ := href.2 j r hr
  rw [hr1] at hr0
  cases hr0
  have hsame : r1.g = r.g /\ r1.d = r.d /\ Refd r1.o r.o := ⟨hs4,hs5,hs6⟩
  have hDj : listed.getD j false = false := by simp [Array.getD_eq_getD_getElem?,hlj]
  have hedge : ∀ e ∈ Xcq o,listed.getD e false = true := fun e hem => by
   obtain ⟨g,hg,hb,rfl⟩ := Xda.1 hem
   exact hall g hg hb
  have hmk : ∀ i,((Xaj ops.toList []).getD j 0).testBit i = true -> listed.getD i false = true := by
   intro i hb
   obtain ⟨e,hem,h2⟩ := Xig (l := ops.toList) (by simpa using ho) hb
   rcases h2 with rfl | h2
   ·exact hedge i hem
   ·exact hI.closed e i (hedge e hem) h2
  have hD : ∀ i,(listed.setIfInBounds j true).getD i false = if i = j then true else listed.getD i false := by
   intro i
   simp only [Array.getD_eq_getD_getElem?,Array.getElem?_setIfInBounds]
   by_cases e : j = i
   ·subst e; simp [hsz,hltj]
   ·simp [e,Ne.symm e]
  have hD1 : ∀ i,i ≠ j -> (listed.setIfInBounds j true).getD i false = listed.getD i false := fun i hi => by rw [hD,if_neg hi]
  have hD2 : (listed.setIfInBounds j true).getD j false = true := by rw [hD,if_pos rfl]
  have hsz' : (listed.setIfInBounds j true).size = ops.size := by simp [hsz]
  have hcount : (listed.setIfInBounds j true).toList.count false = fuel := by
   have := Xhh listed.toList j (by simpa using hlj)
   simp only [Array.toList_setIfInBounds]
   omega
  have hround : Y1.round = Y.round := hW.reb.round
  have hjD : ∀ r,ko = some r -> j ≠ r.j -> (listed.setIfInBounds j true).getD r.j false = listed.getD r.j false := fun r _ hne => hD1 _ (Ne.symm hne)
  have hInv : (∀ r,fs[j]? = some r -> Xa8 r.kind = false) -> InvD (Xaj ops.toList []) fs (fun i => (listed.setIfInBounds j true).getD i false) p := fun hch => ⟨fun k i hk hb => by
    by_cases hij : i = j
    ·rw [hij]; exact hD2
    ·rw [hD1 i hij]
     by_cases hkj : k = j
     ·subst hkj; exact hmk i hb
     ·rw [hD1 k hkj] at hk
      exact hI.closed k i hk hb,fun i r hi hc => by
    have hij : i ≠ j := fun e => by subst e; rw [hch r hi] at hc; cases hc
    rw [hD1 i hij]; exact hI.pos i r hi hc,hI.ple⟩
  obtain ⟨H0,an0,F0,ms0,hp⟩ := id h
  have hall1 := Yiy hp.anc hp.fr
  have hall2 := hp.own_lt
  have hnp : ∀ i q,Y1.an0 i = some q -> i < (os p).length := fun i q hq => by
   obtain ⟨q',hq',_⟩ := hp.al.same i q hq
   exact (hp.anc i).1 ⟨q',hq'⟩
  by_cases hjk : ∃ r,ko = some r /\ j = r.j
  · -- the row is made
   obtain ⟨rk,hko,rfl⟩ := hjk
   have hk := hkk rk hko
   have hf := hkf rk hko
   have hrx : r = rk.rc := by
    rw [hrs,List.getElem?_append_left (by rw [hlm]; exact hk.j),(hl2 rk hko).1] at hr
    exact (Option.some.inj hr).symm
   subst hrx
   have hl0 : rk.t < (frD (fun i => listed.getD i false) vs fs fr1).length := by rw [Xba,hW.len,<- Xba fs (fun _ => true) vs fr0]; exact hrt rk hko
   have hops : ∀ x ∈ rk.rc.o.opds,evO (frD (fun i => listed.getD i false) vs fs fr1) x = evO (frD (fun _ => true) vs fs fr0) x := fun x hx => by
    cases x with
    | c _ => rfl
    | t s =>
     have hs : s ∈ rk.rc.slots := by
      simp only [Rc.slots,List.mem_append,List.mem_filterMap]
      exact .inr ⟨.t s,hx,rfl⟩
     show getV _ s = getV _ s
     refine Xb6 fs _ _ vs fr1 fr0 s hW.len (hW.base s (fun x hx e => (hk.var x hx).2 (e ▸ hs)) fun q hq e => by rw [hko] at hq; cases hq; exact hk.self (e ▸ hs)) fun i q hi hdd => hmk i (hk.ops i q (by have := (List.getElem?_eq_some_iff.1 hi).1; omega) hi s hs hdd)
   have hev : Ev (S.at_ n) rk.rc.o (evO (frD (fun i => listed.getD i false) vs fs fr1)) (os p) (.one (.own (os p).length 0)) (os p ++ [.row rk.sz 0 xs0]) := by
    rw [Xhf hops]
    exact ⟨hf.z,hf.b,hf.sz,xs0,hf.lay,hf.ok,rfl,rfl⟩
   have key := Xd7 (S := S.at_ n) (Y := Y1) (Q := Q) (q := true) (v := .one (.own (os p).length 0)) (own' := os p ++ [.row rk.sz 0 xs0]) (K := fun a' w' => wpAnyIn (Xd3 Y.round) 0 S.P .any ops Q fuel (listed.setIfInBounds rk.j true) a' w') ho htr hsame h (.inl ⟨fun t b hg => (by cases hg),hev,fun _ _ hq => (by cases hq)⟩) fun a' w' h' => by
    obtain ⟨H',an',F',ms',hx'⟩ := h'
    obtain ⟨b,u,an2,F2,g1,g2,g3,g4,g5,g6,g7⟩ := hx'.releaseR hf.ne hnp (t := rk.t) (by show getV (setV _ _ _) _ = _; rw [Xag,if_pos ⟨rfl,hl0⟩]) (fun z => Xff _ _ _ _) hall1 hall2
    obtain ⟨Y2,hW2,hs2⟩ := InvW.turnR hv hm hko hk (hl2 rk hko).2 hW hDj (D' := fun i => (listed.setIfInBounds rk.j true).getD i false) (fun k x hx hxy => by
     cases e : listed.getD (m + v + k) false with
     | false => rfl
     | true => have := hI.closed _ _ e (hk.y k x hx hxy); rw [hDj] at this; cases this) (fun i hi => hD1 i hi) hD2 g1 g2 g3 g4 g5 g6 (by rw [hW.len,<- Xba fs (fun _ => true) vs fr0]; exact hrt rk hko) g7
    exact ih _ p _ Y2 _ _ _ a' w' hsz' hcount (hInv fun q hq => by rw [(hl2 rk hko).2] at hq; cases hq; rfl) hW2 ⟨H',an2,F2,ms',hs2⟩
   rw [hround] at key
   exact key
  have hjk' : ∀ r,ko = some r -> j ≠ r.j := fun r hr e => hjk ⟨r,hr,e⟩
  by_cases hjm : j < m
  · -- one that is ahead of the variables
   have hr' : fs[j]? = some r := by rw [hrs,List.getElem?_append_left (by omega),hl1 j hjk'] at hr; exact hr
   obtain ⟨p',hev,hnext⟩ := Xsg (S := S.at_ n) (Y := Y1) hd (hst1 fr1 n hW.len hW.base) hI hr' hDj hmk h
   have key := Xd7 (S := S.at_ n) (Y := Y1) (Q := Q) (K := fun a' w' => wpAnyIn (Xd3 Y.round) 0 S.P .any ops Q fuel (listed.setIfInBounds j true) a' w') ho htr hsame h hev fun a' w' h' => by
    obtain ⟨hI',hf⟩ := hnext (fun i => (listed.setIfInBounds j true).getD i false) hD1 hD2
    exact ih _ p' fr1 Y1 B ru n a' w' hsz' hcount hI' (hW.same (fun i hi => hD1 i (by omega)) fun r hr => hjD r hr (hjk' r hr)) (by rw [hf]; exact h')
   rw [hround] at key
   exact key
  ·have hI' := hInv fun r hr => absurd (List.getElem?_eq_some_iff.1 hr).1 (by omega)
   by_cases hja : j < m + v
   · -- a variable is made
    obtain ⟨k,rfl⟩ := Nat.exists_eq_add_of_le (Nat.le_of_not_lt hjm)
    obtain ⟨x,hx⟩ : ∃ x,xs[k]? = some x := ⟨_,List.getElem?_eq_getElem (by omega)⟩
    have hxm := List.mem_of_getElem? hx
    have hrx : r = x.aRc := by
     rw [hrs,List.getElem?_append_right (by omega),hlm,Nat.add_sub_cancel_left,List.getElem?_append_left (by simp; omega),List.getElem?_map,hx] at hr
     exact (Option.some.inj hr).symm
    subst hrx
    have key := Xd7 (S := S.at_ n) (Y := Y1) (Q := Q) (q := true) (v := .one (.ptr (os p).length 0)) (own' := os p ++ [.cells (x.z.map A.ofZ)]) (K := fun a' w' => wpAnyIn (Xd3 Y.round) 0 S.P .any ops Q fuel (listed.setIfInBounds (m + k) true) a' w') ho htr hsame h (.inl ⟨fun t b hg => (by cases hg),⟨rfl,rfl⟩,fun _ _ hq => (by cases hq)⟩) fun a' w' h' => by
     obtain ⟨H',an',F',ms',hx'⟩ := h'
     have hs0 : listed.getD (m + v + k) false = false := by
      cases e : listed.getD (m + v + k) false with
      | false => rfl
      | true => have := hI.closed _ _ e (hok.own k x hx); rw [hDj] at this; cases this
     have hl1 : x.t < (frD (fun i => listed.getD i false) vs fs fr1).length := by rw [Xba,hW.len]; exact hlt x hxm
     obtain ⟨b,us,T,an2,F2,g1,g2,g3,g4,g5,g6,g7⟩ := hx'.release hnp (t := x.t) (by show getV (setV _ _ _) _ = _; rw [Xag,if_pos ⟨rfl,hl1⟩]) (fun z => Xff _ _ _ _) hall1 hall2 Yc2
     obtain ⟨Y2,hW2,hs2⟩ := InvW.turn hv hok hkk hm hx hW.len hW.base hW.reb (fun c => by
      rw [hW.u c]
      constructor
      ·rintro (h1 | ⟨l,h1,h2,h3⟩)
       ·exact .inl h1
       ·exact .inr ⟨l,h1,fun e => (by subst e; rw [Xb2 (by omega),hDj] at h2; cases h2),h2,h3⟩
      ·rintro (h1 | ⟨l,h1,_,h2,h3⟩)
       ·exact .inl h1
       ·exact .inr ⟨l,h1,h2,h3⟩) (fun l z hz' _ hl => hW.var l z hz' hl) hW.row hW.inj (D' := fun i => (listed.setIfInBounds (m + k) true).getD i false) (fun i h1 _ => hD1 i h1) hD2 g1 g2 g3 g4 g5 (by
       rw [hD1 _ (by omega),hs0]; exact g6) (by rw [hW.len]; exact hlt x hxm) g7
     exact ih _ p _ Y2 _ _ _ a' w' hsz' hcount hI' hW2 ⟨H',an2,F2,ms',hs2⟩
    rw [hround] at key
    exact key
   · -- a variable is written
    obtain ⟨k,rfl⟩ := Nat.exists_eq_add_of_le (Nat.le_of_not_lt hja)
    obtain ⟨x,hx⟩ : ∃ x,xs[k]? = some x := ⟨_,List.getElem?_eq_getElem (by omega)⟩
    have hxm := List.mem_of_getElem? hx
    have hkv : k < v := by omega
    have hrx : r = x.sRc := by
     rw [hrs,List.getElem?_append_right (by omega),hlm,List.getElem?_append_right (by simp; omega),List.length_map,hv,show m + v + k - m - v = k by omega,List.getElem?_map,hx] at hr
     exact (Option.some.inj hr).symm
    subst hrx
    have hDa : listed.getD (m + k) false = true := hmk _ (hok.own k x hx)
    obtain ⟨g1,g2,g3,us,T,g4,g5⟩ := hW.var k x hx hDa
    have hUk : Y1.U (B k) := (hW.u _).2 (.inr ⟨k,Xcv hkv,by rw [Xb2 hkv]; exact hDa,rfl⟩)
    have hHr : ∀ l,l < knK v ko -> listed.getD (ixK m v ko l) false = true -> H0 (B l) = none := fun l hlk hl => by
     refine Xfm hp ((hW.u _).2 (.inr ⟨l,hlk,hl,rfl⟩)) ?_
     rcases Xdx hlk with h' | ⟨rfl,r,hr⟩
     ·rw [Xb2 h'] at hl
      exact (hW.var l _ (List.getElem?_eq_getElem (by omega)) hl).2.2.1
     ·rw [Xdw hr] at hl
      exact (hW.row r hr hl).2.2.1
    have hHn : ∀ l z,xs[l]? = some z -> listed.getD (m + l) false = true -> H0 (B l) = none := fun l z hz' hl => by
     have hlv : l < v := by have := (List.getElem?_eq_some_iff.1 hz').1; omega
     exact hHr l (Xcv hlv) (by rw [Xb2 hlv]; exact hl)
    have hUd : ∀ c,(Y1.U c /\ c ≠ B k) ↔ Y.U c \/ ∃ l,l < knK v ko /\ l ≠ k /\ listed.getD (ixK m v ko l) false = true /\ c = B l := fun c => by
     rw [hW.u c]
     constructor
     ·rintro ⟨h1 | ⟨l,h1,h2,h3⟩,h4⟩
      ·exact .inl h1
      ·exact .inr ⟨l,h1,fun e => by subst e; exact h4 h3,h2,h3⟩
     ·rintro (h1 | ⟨l,h1,h2,h3,h4⟩)
      ·exact ⟨.inl h1,fun e => by subst e; exact g2 h1⟩
      ·exact ⟨.inr ⟨l,h1,h3,h4⟩,fun e => h2 (hW.inj l k h1 (Xcv hkv) h3 (by rw [Xb2 hkv]; exact hDa) (by rw [<- h4,e]))⟩
    obtain ⟨hr2,hs2⟩ := (hW.reb.back hp).rebase (fun c => Y1.U c /\ c ≠ B k) (fun c hc => (hUd c).2 (.inl hc)) (fun c hc => by
     rcases (hUd c).1 hc with h1 | ⟨l,h1,h2,h3,h4⟩
     ·exact .inl h1
     ·exact .inr ⟨Nat.lt_of_lt_of_le (hp.ub c hc.1).1 hp.size,by rw [h4]; exact hHr l h1 h3,fun i hi => (hp.fp i c hi).2.2 hc.1,fun hmm => (hp.mks c hmm).2.2.1 hc.1⟩)
    have hst := hs2.take_in (t := x.t) (b := B k) ⟨by show getV (frD _ _ _ _) _ = _; rw [hslot _ _ x hxm]; exact g1,hHn k x hx hDa,fun hc => hc.2 rfl,fun i hi => (hp.fp i _ hi).2.2 hUk,fun hmm => (hp.mks _ hmm).2.2.1 hUk,us,T,by rw [(hp.ub _ hUk).2]; exact g4,All2.mono (fun _ _ => DenA.mono hp.h0 hp.al) g5⟩
    rw [show listed.getD (m + v + k) false = false from hDj] at hst
    have hyx : x.y ≠ x.t := hok.y x hxm x hxm
    have hl1 : x.t < (frD (fun i => listed.getD i false) vs fs fr1).length := by rw [Xba,hW.len]; exact hlt x hxm
    have hyval : getV (frD (fun i => listed.getD i false) vs fs fr1) x.y = valV ko ru (frD (fun _ => true) vs fs fr0) x.y := hyv _ fr1 Y1 B ru hW x hxm (fun i r hi hdd => hmk i (hok.def_ k x hx i r (by have := (List.getElem?_eq_some_iff.1 hi).1; omega) hi hdd)) fun r hr hxy => hmk r.j ((hkk r hr).y k x hx hxy)
    have e1 : evO (setV (frD (fun i => listed.getD i false) vs fs fr1) x.t (.one (.ptr (os p).length 0))) (.t x.y) = valV ko ru (frD (fun _ => true) vs fs fr0) x.y := by
     show getV (setV _ _ _) _ = _
     rw [Xag,if_neg (fun h => hyx h.1.symm)]; exact hyval
    have e2 : evO (setV (frD (fun i => listed.getD i false) vs fs fr1) x.t (.one (.ptr (os p).length 0))) (.t x.t) = .one (.ptr (os p).length 0) := by
     show getV (setV _ _ _) _ = _
     rw [Xag,if_pos ⟨rfl,hl1⟩]
    have hzn := hz x hxm
    have hyo := hyok ru x hxm
    have hrefs : ∀ i ∈ (valV ko ru (frD (fun _ => true) vs fs fr0) x.y).cells.flatMap A.refs,i < (os p).length := fun i hi => by
     have := Xxe i hi
     rw [<- hyval] at this
     exact Sat.refs h (t := x.y) i this
    have ho' : setC (os p ++ [Ch.cells (x.z.map A.ofZ)]) (os p).length (.cells (((x.z.map A.ofZ).take 0 ++ (valV ko ru (frD (fun _ => true) vs fs fr0) x.y).cells) ++ (x.z.map A.ofZ).drop (0 + x.n))) = os p ++ [.cells (valV ko ru (frD (fun _ => true) vs fs fr0) x.y).cells] := by
     rw [Xam,List.set_append_right _ _ (Nat.le_refl _),Nat.sub_self,List.drop_of_length_le (by simp [hzn])]
     simp
    have hev : Xbr (S.at_ (os p).length) true x.sRc ⟨setV (frD (fun i => listed.getD i false) vs fs fr1) x.t (.one (.ptr (os p).length 0)),os p ++ [.cells (x.z.map A.ofZ)]⟩ .un (os p ++ [.cells (valV ko ru (frD (fun _ => true) vs fs fr0) x.y).cells]) := by
     refine .inl ⟨fun t b hg => (by cases hg),?_,fun _ _ hq => (by cases hq)⟩
     show Ev _ (.store x.n (.t x.t) (.t x.y)) _ _ _ _
     simp only [Ev,e1,e2,Xo6]
     exact ⟨hyo.1,hyo.2.2,trivial,by simp [hzn],hyo.2.1,ho'.symm⟩
    exact Xd7 (S := S.at_ (os p).length) (Y := ⟨H0,an0,fun c => Y1.U c /\ c ≠ B k,w,Y.round⟩) (Q := Q) (K := fun a' w' => wpAnyIn (Xd3 Y.round) 0 S.P .any ops Q fuel (listed.setIfInBounds (m + v + k) true) a' w') ho htr hsame ⟨_,_,_,_,hst⟩ hev fun a' w' h' => by
     obtain ⟨H',an',F',ms',hx'⟩ := h'
     obtain ⟨b,us',T',an2,F2,q1,q2,q3,q4,q5,q6,q7⟩ := hx'.release (fun i q hq => (hp.anc i).1 ⟨q,hq⟩) (t := x.t) (by show getV (setV _ _ _) _ = _; rw [Xag,if_pos ⟨rfl,hl1⟩]) (fun z => Xff _ _ _ _) hall1 hall2 hrefs
     have hgo : ∀ l,l < knK v ko -> listed.getD (ixK m v ko l) false = true -> Y1.U (B l) := fun l hlk hl => (hW.u _).2 (.inr ⟨l,hlk,hl,rfl⟩)
     obtain ⟨Y2,hW2,hs2⟩ := InvW.turn (D := fun i => listed.getD i false) (B := B) hv hok hkk hm hx hW.len hW.base hr2 hUd (fun l z hz' hlk hl => by
      have hlv : l < v := by have := (List.getElem?_eq_some_iff.1 hz').1; omega
      exact (hW.var l z hz' hl).go hp (hgo l (Xcv hlv) (by rw [Xb2 hlv]; exact hl)) rfl) (fun r hr hl => (hW.row r hr hl).go hp (hgo v (Xna hr) (by rw [Xdw hr]; exact hl)) rfl) hW.inj (D' := fun i => (listed.setIfInBounds (m + v + k) true).getD i false) (fun i _ h2 => hD1 i h2) (by rw [hD1 _ (by omega)]; exact hDa) q1 q2 q3 q4 q5 (by
       rw [hD2]; exact q6) (by rw [hW.len]; exact hlt x hxm) q7
     exact ih _ p _ Y2 _ _ _ a' w' hsz' hcount hI' hW2 ⟨H',an2,F2,ms',hs2⟩
end
section
variable {S : Sx} {s : St} {k : List MI}
theorem Sx.at_np (S : Sx) : S.at_ S.np = S := by cases S; rfl
theorem Xsq {ev : Opd -> V} {sz : Nat} : ∀ (ps : List (Nat × Opd)) (z : List (List D)) {xs : List (List D)},layE ev sz z ps = some xs -> xs.length = z.length
 | [],z,xs,h => by cases h; rfl
 | (i,x) :: l,z,xs,h => by
  simp only [layE] at h
  split at h
  ·split at h
   ·have := Xsq l _ h
    rw [List.length_set] at this
    exact this
   ·cases h
  ·cases h
theorem zLen (z : List D) : ∀ n,(Xc4 z n).length = n
 | 0 => rfl
 | n + 1 => by simp [Xc4,zLen z n]
theorem Ypu {q : Bool} {K : St -> Prop} {ko : Option RowK} {ps : List Rc} {fr : List V} {o : List Ch} (h : Runs S q K ((ko.map RowK.rc).toList ++ ps) ⟨fr,o⟩) :
  ∃ xs0,(∀ r,ko = some r -> r.z.length = r.sz /\ r.n * r.sz <= 16777216 /\ 0 < r.sz /\ layE (evO fr) r.sz (Xc4 r.z r.n) r.ps = some xs0 /\ (r.ps.all fun p => (evO fr p.2).ok) = true) /\ Runs S q K ps (Xe7 ko xs0 ⟨fr,o⟩) := by
 cases ko with
 | none => exact ⟨[],fun r h => (by cases h),h⟩
 | some r =>
  rcases h with ⟨v,own',_,⟨h1,h2,h3,xs0,h4,h5,rfl,rfl⟩,_,h⟩ | ⟨t,b,h1,_⟩
  ·exact ⟨xs0,fun r' e => by cases e; exact ⟨h1,h2,h3,h4,h5⟩,h⟩
  ·cases h1
theorem Xek {l : List MO} (h : VO S true k l s) : G S (.code (.regw l) :: k) s := by
 intro Y a w hs hs' c hc
 obtain ⟨id,ops,d,rfl,hr⟩ := Ycv hc
 cases d with
 | false => cases hr
 | true =>
  simp only [trW] at hr
  split at hr
  ·rename_i hch
   obtain ⟨rs0,ht,hr⟩ := Option.bind_eq_some_iff.1 hr
   have hr : ∃ v,trW1 ops (rfH hs' rs0) v = some l := by
    split at hr
    ·rename_i e; cases hr; exact ⟨_,e⟩
    ·exact ⟨_,hr⟩
   obtain ⟨v,hr⟩ := hr
   simp only [trW1] at hr
   obtain ⟨xs,hx,hr⟩ := Option.bind_eq_some_iff.1 hr
   obtain ⟨e1,e2,hz⟩ := Xgt hx
   have href := Xqy hs' rs0
   generalize rfH hs' rs0 = rs at *
   obtain ⟨fs,ko,hle,he,hfm,hl1,hl2,hd,hvo,hkr,h⟩ : ∃ (fs : List Rc) (ko : Option RowK),2 * v <= rs.length /\ Xdh 0 ops.toList = true /\ fs.length = rs.length - 2 * v /\ (∀ j,(∀ r,ko = some r -> j ≠ r.j) -> (rs.take (rs.length - 2 * v))[j]? = fs[j]?) /\
     (∀ r,ko = some r -> (rs.take (rs.length - 2 * v))[r.j]? = some r.rc /\ fs[r.j]? = some Xjv) /\ Xb5 (Xaj ops.toList []) 0 fs = true /\ Xn7 (Xaj ops.toList []) (rs.length - 2 * v) v fs xs = true /\ (∀ r,ko = some r -> Ybw (Xaj ops.toList []) (rs.length - 2 * v) v fs xs r = true) /\
     VO S true k (Xea (fs ++ ((ko.map RowK.rc).toList ++ xs.flatMap Var.two))) s := by
    split at hr
    ·rename_i hchk
     cases hr
     simp only [Bool.and_eq_true,decide_eq_true_eq] at hchk
     obtain ⟨⟨hle,he⟩,hd,hvo⟩ := hchk
     exact ⟨_,none,hle,he,by rw [List.length_take]; omega,fun _ _ => rfl,fun r h => (by cases h),hd,hvo,fun r h => (by cases h),h⟩
    ·obtain ⟨r,hri,hr⟩ := Option.bind_eq_some_iff.1 hr
     split at hr
     ·rename_i hchk
      cases hr
      simp only [Bool.and_eq_true,decide_eq_true_eq] at hchk
      obtain ⟨⟨hle,he⟩,⟨hd,hvo⟩,hro⟩ := hchk
      obtain ⟨_,hrj⟩ := Xmb hri
      rw [Nat.sub_zero] at hrj
      exact ⟨_,some r,hle,he,by rw [List.length_set,List.length_take]; omega,fun j hj => by rw [List.getElem?_set_ne (Ne.symm (hj r rfl))],fun r' h' => by
       cases h'
       exact ⟨hrj,by rw [List.getElem?_set_self (List.getElem?_eq_some_iff.1 hrj).1]⟩,hd,hvo,fun r' h' => by cases h'; exact hro,h⟩
     ·cases hr
   have hrs : rs = rs.take (rs.length - 2 * v) ++ (xs.map Var.aRc ++ xs.map Var.sRc) := by rw [<- e1,<- e2,List.take_append_drop,List.take_append_drop]
   have hlm : (rs.take (rs.length - 2 * v)).length = rs.length - 2 * v := by rw [List.length_take]; omega
   have hv : xs.length = v := by
    have := congrArg List.length e1
    rw [List.length_map,List.length_take,List.length_drop] at this
    omega
   have hok := Xkr hv hvo
   have hkk := fun r hr => Xxd hv (hkr r hr)
   refine wpIn_region_any hch ?_
   obtain ⟨vs,os,h0,hK,hst⟩ := (Runs.app (Xfh (rs := fs ++ ((ko.map RowK.rc).toList ++ xs.flatMap Var.two)) h)).trace
   obtain ⟨xs0,hkf,hK⟩ := Ypu hK
   have hLl : (Xe7 ko xs0 ⟨frD (fun _ => true) vs fs s.fr,os fs.length⟩).fr.length = (frD (fun _ => true) vs fs s.fr).length := by
    unfold Xe7
    split
    ·exact Xa6 _ _ _
    ·rfl
   obtain ⟨hy,hG⟩ := Xzf (frL := (Xe7 ko xs0 ⟨frD (fun _ => true) vs fs s.fr,os fs.length⟩).fr) hz hok.y rfl (fun _ _ => rfl) hK
   rw [hfm] at hG hy
   obtain ⟨H,an,F,ms,hsx⟩ := hs
   have hD : ∀ i,(Array.replicate ops.size false).getD i false = false := fun i => by
    simp only [Array.getD_eq_getD_getElem?,Array.getElem?_replicate]
    split <;> rfl
   refine Yc3 (m := rs.length - 2 * v) (v := v) (xs0 := xs0) (ls := rs.take (rs.length - 2 * v)) href he ht hrs hlm hfm hv hz hl1 hl2 hok hkk (fun r hr => ?_) hd hst hy (fun a w hs => hG Y a w hs) ops.size _ 0 s.fr Y (fun _ => 0) (.pointer none) S.np a _ (by simp) (by simp) ?_ ?_ ?_
   ·obtain ⟨f1,f2,f3,f4,f5⟩ := hkf r hr
    refine ⟨f1,f2,f3,f4,f5,fun e => ?_,?_⟩
    ·have := Xsq _ _ f4
     rw [e,zLen] at this
     have := (hkk r hr).n
     simp at *
     omega
    ·obtain ⟨x,hx,hxy⟩ := (hkk r hr).used
     have h1 := (hy x hx).ok
     rw [hxy] at h1
     subst hr
     by_cases hlt : r.t < (frD (fun _ => true) vs fs s.fr).length
     ·exact hlt
     ·have : getV (setV (frD (fun _ => true) vs fs s.fr) r.t (.one (.own (os (rs.length - 2 * v)).length 0))) r.t = .un := Xhk (by rw [Xa6]; exact hlt)
      rw [show getV (Xe7 (some r) xs0 ⟨frD (fun _ => true) vs fs s.fr,os (rs.length - 2 * v)⟩).fr r.t = .un from this] at h1
      cases h1
   ·refine ⟨fun k i hk => (by simp only [hD] at hk; cases hk),fun i r _ _ => ⟨fun hk => (by simp only [hD] at hk; cases hk),fun hk => (by omega)⟩,Nat.zero_le _⟩
   ·refine ⟨rfl,fun _ _ _ => rfl,⟨Heap.Le.refl _,fun b o hb => .inl hb,Anc.Le.refl _,hsx.npl,fun b hu => ⟨hu,(hsx.ub b hu).1,rfl⟩,rfl,rfl,rfl,Nat.le_refl _,rfl⟩,fun c => ⟨.inl,fun hc => hc.elim (fun q => q) fun ⟨k,_,hk,_⟩ => (by simp only [hD] at hk; cases hk)⟩,fun k x _ hk => (by simp only [hD] at hk; cases hk),fun r _ hk => (by simp only [hD] at hk; cases hk),fun k l _ _ hk => (by simp only [hD] at hk; cases hk)⟩
   ·rw [Sx.at_np,Xdm _ _ _ _ fun i => hD i,h0]
    exact ⟨H,an,F,ms,hsx.drawn _⟩
  ·cases hr
end
end Go.Fw
namespace Go.Fw
open Go
section
variable {S : Sx} {Y : Dyn} {k : List MI} {s : St} {a : Act} {w w' : World} {H : Heap} {an : Anc} {F : Nat -> Nat -> Prop} {ms : List Nat}
theorem Xkt {α : Type} : ∀ {l : List α} {i : Nat} {x : α},l[i]? = some x -> l.set i x = l
 | [],_,_,h => by simp at h
 | _ :: _,0,_,h => by simp at h; simp [h]
 | _ :: l,i + 1,x,h => by simpa using Xkt (l := l) (i := i) (by simpa using h)
def fr (n : Nat) : List (Nat × V) -> List V
 | [] => List.replicate n .un
 | (i,v) :: l => setV (fr n l) i v
theorem Xsr {R : V -> Value -> Prop} {v : V} (hv : ∀ u,R v u) : ∀ {l : List V} {m : List Value} (t : Nat),All2 R l m -> All2 R (setV l t v) m
 | [],[],_,_ => trivial
 | _ :: _,_ :: _,0,h => ⟨hv _,h.2⟩
 | _ :: _,_ :: _,t + 1,h => ⟨h.1,Xsr hv t h.2⟩
theorem Xe3 (t : Nat) (h : G S k ⟨setV s.fr t (.one .un),s.own⟩) : G S k s := by
 rintro Y a w ⟨H,an,F,ms,hs⟩
 exact h Y a w ⟨H,an,F,ms,hs.reframe (Xsr (fun _ => trivial) t hs.fr)⟩
theorem Ypv (t : Nat) (ht : getV s.fr t = .one (.d (.sl []))) (h : ∀ (A : Option Addr) (c : Nat),G S k ⟨setV s.fr t (.one (.d (.raw (.slice A 0 c)))),s.own⟩) : G S k s := by
 rintro Y a w ⟨H,an,F,ms,hs⟩
 obtain ⟨u,hu,hd⟩ := hs.fr.get (Xaz _ _ _ ht (by simp))
 have hd : Den H (.sl []) u := hd
 have : ∃ A c,u = .slice A 0 c := by
  cases hd with
  | slE A c => exact ⟨A,c,rfl⟩
  | sl xs b o c sz cells T fz f => exact ⟨_,_,rfl⟩
 obtain ⟨A,c,rfl⟩ := this
 refine h A c Y a w ⟨H,an,F,ms,hs.reframe ?_⟩
 have := Xbi s.fr a.tmps.toList t (.one (.d (.raw (.slice A 0 c)))) (.slice A 0 c) hs.fr (Den.raw (H := H) _ rfl)
 rwa [Xkt hu] at this
theorem Xq3 (t : Nat) {A : Option Addr} {c : Nat} (ht : getV s.fr t = .one (.d (.raw (.slice A 0 c)))) (h : G S k ⟨setV s.fr t (.one (.d (.sl []))),s.own⟩) : G S k s := by
 rintro Y a w ⟨H,an,F,ms,hs⟩
 obtain ⟨u,hu,hd⟩ := hs.fr.get (Xaz _ _ _ ht (by simp))
 have hd : Den H (.raw (.slice A 0 c)) u := hd
 generalize hv : Value.slice A 0 c = v at hd
 cases hd
 refine h Y a w ⟨H,an,F,ms,hs.reframe ?_⟩
 have := Xbi s.fr a.tmps.toList t (.one (.d (.sl []))) u hs.fr (by rw [<- hv]; exact Den.slE (H := H) A c)
 rwa [Xkt hu] at this
theorem SatX.nil_row (h : SatX S Y s a w H an F ms) {u : Value} (hu : ∃ A,u = .slice A 0 0) (sz : Nat) (hsz : 0 < sz) :
  SatX S Y { s with own := s.own ++ [.row sz 0 []] } a w H (an.put s.own.length (0,u)) (fun j b => if j = s.own.length then False else F j b) ms := by
 obtain ⟨A,rfl⟩ := hu
 exact h.add_own (WKeep.refl w _) (fun _ hb => hb.elim) ⟨rfl,⟨_,_,_,rfl⟩,hsz,by simp,by simp [Xad],.inl ⟨rfl,⟨_,rfl⟩,fun _ hb => hb⟩⟩
theorem Xku (t sz : Nat) (hsz : 0 < sz) (ht : getV s.fr t = .one .nil) (h : G S k ⟨setV s.fr t (.one (.own s.own.length 0)),s.own ++ [.row sz 0 []]⟩) : G S k s := by
 rintro Y a w ⟨H,an,F,ms,hs⟩
 obtain ⟨u,hu,hd⟩ := hs.fr.get (Xaz _ _ _ ht (by simp))
 have hd : ∃ A,u = .slice A 0 0 := hd
 have h1 := hs.nil_row hd sz hsz
 refine h Y a w ⟨H,_,_,ms,h1.reframe ?_⟩
 have := Xbi s.fr a.tmps.toList t (.one (.own s.own.length 0)) u h1.fr (by
  obtain ⟨A,rfl⟩ := hd
  exact ⟨rfl,(0,.slice A 0 0),by simp [Anc.put],Nat.le_refl _,fun _ => rfl⟩)
 rwa [Xkt hu] at this
theorem Xin (i off sz : Nat) {cs : List A} (hsz : 0 < sz) (hc : getC s.own i = .cells cs) (ht : cs[off]? = some .nil)
  (h : G S k ⟨s.fr,setC s.own i (.cells (cs.set off (.own s.own.length 0))) ++ [.row sz 0 []]⟩) : G S k s := by
 rintro Y a w ⟨H,an,F,ms,hs⟩
 have hi := Xbj hc (by simp)
 have hil := (List.getElem?_eq_some_iff.1 hi).1
 obtain ⟨p,hp,h0,b,T,vs,h1,h2,h3,h4⟩ := hs.own i _ hi
 obtain ⟨u,hu,hd⟩ := h4.get ht
 have hd : ∃ A,u = .slice A 0 0 := hd
 have hx := hs.nil_row hd sz hsz
 have hle : Anc.Le an (an.put s.own.length (0,u)) := ⟨fun j q hq => by
  refine ⟨q,?_,.inl rfl⟩
  unfold Anc.put
  rw [if_neg (by have := (hs.anc j).1 ⟨q,hq⟩; omega)]
  exact hq⟩
 have hxl : i < (s.own ++ [Ch.row sz 0 []]).length := by simp; omega
 have := hx.set_own (w' := w) (i := i) (b := b) (p := p) (c := .cells (cs.set off (.own s.own.length 0))) (by unfold Anc.put; rw [if_neg (by omega)]; exact hp)
  (fun x => by simp only [if_neg (show i ≠ s.own.length by omega)]; exact h2 x) (WKeep.refl w _) ⟨h0,b,T,vs,h1,fun x => by simp only [if_neg (show i ≠ s.own.length by omega)]; exact h2 x,h3,by
   have := All2.set off (All2.mono (fun _ _ => DenA.mono (Heap.Le.refl _) hle) h4) (a := A.own s.own.length 0) (b := u) (by
    obtain ⟨B,rfl⟩ := hd
    exact ⟨rfl,(0,.slice B 0 0),by simp [Anc.put],Nat.le_refl _,fun _ => rfl⟩)
   rwa [Xkt hu] at this⟩
 have e : (s.own ++ [Ch.row sz 0 []]).set i (.cells (cs.set off (.own s.own.length 0))) = s.own.set i (.cells (cs.set off (.own s.own.length 0))) ++ [Ch.row sz 0 []] := by
  rw [List.set_append_left _ _ hil]
 rw [show (s.own ++ [Ch.row sz 0 []]).set i (.cells (cs.set off (.own s.own.length 0))) = _ from e,<- Xam] at this
 exact h Y a w ⟨H,_,_,ms,this⟩
theorem Y5i (j : Nat) (T : TypeId) {y : A} (hc : getC s.own j = .cells [.ptr j 0,y]) (h : G S k ⟨s.fr,setC s.own j (.bld T y)⟩) : G S k s := by
 rintro Y a w ⟨H,an,F,ms,hs⟩
 have hi := Xbj hc (by simp)
 obtain ⟨p,hp,h0,b,T',vs,h1,h2,h3,h4⟩ := hs.own j _ hi
 match vs,h4 with
 | [u,v],⟨hu,hv,_⟩ =>
  obtain ⟨b',rfl,q,hq,he⟩ := hu
  rw [hp] at hq; cases hq
  obtain rfl := he b h1
  have := hs.set_own (w' := w) (i := j) (b := b') (p := p) (c := .bld T y) hp h2 (WKeep.refl w _) ⟨h0,b',_,v,T',h1,h2,h3,.inr rfl,hv⟩
  rw [<- Xam] at this
  exact h Y a w ⟨H,_,_,ms,this⟩
def Ypw (id : Nat) : List MI -> Option (Exit -> St -> Prop)
 | .code _ :: k => Ypw id k
 | .blk i :: k => if i = id then none else Ypw id k
 | .again _ :: k => Ypw id k
 | .rnd p :: _ => some p
 | _ => none
theorem Y5j {P : Program} {hs : List Nat} {c : Code} {f : Opd} {ps : List Nat} {x y : MC} (h : trC P hs c = some (.rf f ps x y)) : ∃ t ps' a b,c = .rangeFunc t ps' a b /\ Xac t = f /\ ps'.toList = ps /\ trC P hs a = some x /\ trC P hs b = some y := by
 cases c <;> first | (rcases Xa1 h with ⟨_,e⟩ | ⟨_,e⟩ | ⟨_,e⟩ <;> cases e; done) | simp [trC,Option.bind_eq_some_iff] at h
 obtain ⟨_,h1,_,h2,rfl,rfl,rfl,rfl⟩ := h
 exact ⟨_,_,_,_,rfl,rfl,rfl,h1,h2⟩
theorem G_rf {g : Opd} {ps : List Nat} {asg body : MC} {f2 : FuncId} {caps : List V} (R2 : Option Code -> List Ch -> Prop) (hrd : S.rd = false)
  (hg : ∀ y,Xfa (evO s.fr g) [y] = some (f2,y :: caps)) (hcal : Xaa S.P f2 = true)
  (hI : ∀ (l : Nat) (rc : Loop),rc.params.toList = ps -> (∃ hs,trC S.P hs rc.assign = some asg /\ trC S.P hs rc.body = some body) ->
   Tri S.P S.gp f2 (.one (.d (.raw (.func (.yield l) #[] #[]))) :: caps) (s.own ++ [.lp l s.fr rc .ready none]) fun _ post => ∃ st pd,getC post s.own.length = .lp l s.fr rc st pd /\ st ≠ .busy /\ R2 pd (setC post s.own.length .dead))
  (hk : ∀ own',R2 none own' -> G S k ⟨s.fr,own'⟩) (hj : ∀ c own',R2 (some c) own' -> ∃ m,trC S.P [] c = some m /\ G S (.code m :: k) ⟨s.fr,own'⟩) : G S (.code (.rf g ps asg body) :: k) s := by
 rintro Y a w ⟨H,an,F,ms,h⟩ hs' c hc
 obtain ⟨t,ps',ca,cb,rfl,rfl,rfl,hta,htb⟩ := Y5j hc
 have hro : Y.round = none := by
  rcases h.ro with h1 | h1
  ·rw [hrd] at h1; cases h1
  ·exact h1
 refine wpIn_rangeFunc fun fn _ => ?_
 rw [hro]
 generalize hrc : ({ state := .ready,pending := none,fn,tmps := a.tmps,params := ps',assign := ca,body := cb,defers := w.heap.size } : Loop) = rc
 generalize hW1 : (w.alloc (.deferred (some []))).alloc (.loop rc) = W1
 have hh1 : W1.heap = (w.heap.push (.deferred (some []))).push (.loop rc) := by rw [<- hW1]; rfl
 have hs1 : W1.heap.size = w.heap.size + 2 := by rw [hh1]; simp
 have hold : ∀ b,b < w.heap.size -> W1.heap[b]? = w.heap[b]? := fun b hb => by
  rw [hh1,Array.getElem?_push,if_neg (by simp; omega),Array.getElem?_push,if_neg (by omega)]
 have hD : W1.heap[w.heap.size]? = some (.deferred (some [])) := by
  rw [hh1,Array.getElem?_push,if_neg (by simp),Array.getElem?_push,if_pos rfl]
 have hL : W1.heap[w.heap.size + 1]? = some (.loop rc) := by
  rw [hh1,Array.getElem?_push,if_pos (by simp)]
 have hHn : ∀ b,w.heap.size <= b -> H b = none := fun b hb => h.none_new hb
 -- the call
 obtain ⟨first,cs,us,hu,hus,hden⟩ := Xl6 (an := an) (x := .un) (args := [.one (.d (.raw (.func (.yield (w.heap.size + 1)) #[] #[])))]) (vs := [.func (.yield (w.heap.size + 1)) #[] #[]]) (h.ev t) ⟨Den.raw (H := H) _ rfl,trivial⟩ (hg _)
 let an1 : Anc := an.put s.own.length (0,.nilFunc)
 let F1 : Nat -> Nat -> Prop := fun j b => if j = s.own.length then b = w.heap.size + 1 else F j b
 have hle : Anc.Le an an1 := ⟨fun j q hq => by
  refine ⟨q,?_,.inl rfl⟩
  show Anc.put _ _ _ _ = _
  unfold Anc.put
  rw [if_neg (by have := (h.anc j).1 ⟨q,hq⟩; omega)]
  exact hq⟩
 have hrcs : rc = { rc with state := .ready,pending := none } := by rw [<- hrc]
 have hT := hI (w.heap.size + 1) rc (by rw [<- hrc]) ⟨hs',by rw [<- hrc]; exact hta,by rw [<- hrc]; exact htb⟩ H W1 an1 F1 us h.gp
  (fun b o hb => by
   have h1 := h.mod b o hb
   rw [hold b (Array.getElem?_eq_some_iff.1 h1).1]; exact h1)
  (fun i => by
   show (∃ p,Anc.put _ _ _ _ = _) ↔ _
   unfold Anc.put
   by_cases e : i = s.own.length
   ·subst e; simp
   ·rw [if_neg e,h.anc i]; simp; omega)
  (fun i c hc => by
   by_cases e : i = s.own.length
   ·subst e
    rw [List.getElem?_append_right (Nat.le_refl _)] at hc
    simp at hc
    subst hc
    refine ⟨(0,.nilFunc),by simp [an1,Anc.put],fun x => by simp [F1],by rw [<- hrcs]; exact hL,?_⟩
    have : rc.tmps = a.tmps := by rw [<- hrc]
    rw [this]
    exact All2.mono (fun _ _ => DenV.mono (Heap.Le.refl _) hle) h.fr
   ·have hlt : i < s.own.length := by
     have := (List.getElem?_eq_some_iff.1 hc).1
     simp at this
     omega
    rw [List.getElem?_append_left hlt] at hc
    obtain ⟨q,hq,hsc⟩ := h.own i c hc
    refine ⟨q,by simp [an1,Anc.put,e,hq],?_⟩
    have := hsc.keep (w' := W1) (Heap.Le.refl _) hle fun x hx => hold x (h.fp i x hx).1
    simpa [F1,e] using this)
  (fun i b hb => by
   by_cases e : i = s.own.length
   ·simp only [F1,if_pos e] at hb
    subst hb
    exact ⟨by simp [e],by omega,hHn _ (by omega)⟩
   ·simp only [F1,if_neg e] at hb
    obtain ⟨g1,g2,_⟩ := h.fp i b hb
    exact ⟨by have := h.fl i b hb; simp; omega,by omega,g2⟩)
  (fun i j b hi hj => by
   by_cases e : i = s.own.length <;> by_cases e' : j = s.own.length
   ·omega
   ·simp only [F1,if_pos e] at hi; simp only [F1,if_neg e'] at hj
    have := (h.fp j b hj).1; omega
   ·simp only [F1,if_neg e] at hi; simp only [F1,if_pos e'] at hj
    have := (h.fp i b hi).1; omega
   ·simp only [F1,if_neg e] at hi; simp only [F1,if_neg e'] at hj
    exact h.dj i j b hi hj)
  (All2.mono (fun _ _ => DenV.mono (Heap.Le.refl _) hle) hden)
 refine ⟨w.heap.size + 1,[{ target := .collected w.heap.size,args := #[] }],W1,{ target := .fn (.func f2) cs,args := first ++ #[.func (.yield (w.heap.size + 1)) #[] #[]] },W1,f2,us.toArray,W1,?_,?_,fun _ _ => trivial,?_,fun hd => by simp [Xd3,Fence.wide] at hd,?_⟩
 ·rw [<- hW1,<- hrc]; exact run_enterLoop_outer _ _ _ _ _
 ·simp [resolve,hu,Deferred.ofValue]
  rfl
 ·simp only [invoke]
  rw [<- hus]
  exact Xd6 hcal _
 ·refine ⟨trivial,fun fs _ => ?_⟩
  obtain ⟨e,w3,frm,⟨v,res,post,H',an',F',rfl,⟨st,pd,hlp,hst,hR2⟩,hw,hH,hmod,hnew,hal,hanc,hown,hF',hdj,_⟩,g2,g3,g4⟩ := hT fs
  refine ⟨.returned v,w3,frm,?_,(StepsIn.of_steps g2).mono fun m _ => (fenced_wide S.P m : Machine.fenced S.P Fence.wide m),g3,g4⟩
  have hpi := Xbj hlp (by simp)
  have hpl := (List.getElem?_eq_some_iff.1 hpi).1
  obtain ⟨q,hq,hql,hqh,hqf⟩ := hown _ _ hpi
  have hFl : F' s.own.length (w.heap.size + 1) := (hql _).2 rfl
  have h3s : w.heap.size + 1 < w3.heap.size := (Array.getElem?_eq_some_iff.1 hqh).1
  have hH'l : H' (w.heap.size + 1) = none := (hF' _ _ hFl).2.2.1
  refine ⟨pd,_,run_endLoop hqh hst,?_⟩
  generalize hw4 : w3.putObj (w.heap.size + 1) (.loop { ({ rc with state := st,pending := pd } : Loop) with state := .exhausted }) = w4
  have hoth : ∀ x,x ≠ w.heap.size + 1 -> w4.heap[x]? = w3.heap[x]? := fun x hx => by rw [<- hw4]; exact World.putObj_heap_other (fun e => hx e)
  have hsz4 : w4.heap.size = w3.heap.size := by rw [<- hw4]; simp [World.putObj]
  have hFD : ∀ j,¬ F' j w.heap.size := fun j hj => by
   rcases (hF' j _ hj).2.2.2 with g | ⟨i,g⟩
   ·omega
   ·by_cases e : i = s.own.length
    ·simp only [F1,if_pos e] at g; omega
    ·simp only [F1,if_neg e] at g
     have := (h.fp i _ g).1; omega
  have hev := h.evolve (own' := setC post s.own.length .dead) (w' := w4) (H' := H') (an' := an') (F' := fun j x => j ≠ s.own.length /\ F' j x) (may := fun x => ∃ j,F j x)
   ⟨by rw [<- hw4]; exact hw.os.trans (by rw [<- hW1]; rfl),by rw [<- hw4]; exact hw.tape.trans (by rw [<- hW1]; rfl),by rw [<- hw4]; exact hw.output.trans (by rw [<- hW1]; rfl),by have := hw.size; omega,fun x hx hn => by
    rw [hoth x (by omega),hw.block x (by omega) (fun ⟨i,hi⟩ => by
     by_cases e : i = s.own.length
     ·simp only [F1,if_pos e] at hi; omega
     ·simp only [F1,if_neg e] at hi; exact hn ⟨i,hi⟩),hold x hx]⟩
   (fun x hx => hx) hH (fun x o hx => by
    rw [hoth x (fun e => by rw [e,hH'l] at hx; cases hx)]; exact hmod x o hx) (fun x o hx => by
    rcases hnew x o hx with g | g | ⟨i,g⟩
    ·exact .inl g
    ·exact .inr (.inl (by omega))
    ·by_cases e : i = s.own.length
     ·simp only [F1,if_pos e] at g; exact .inr (.inl (by omega))
     ·simp only [F1,if_neg e] at g; exact .inr (.inr ⟨i,g⟩)) (hle.trans hal) (fun j => by rw [Xam,List.length_set]; exact hanc j) (fun j c hc => by
    rw [Xam,List.getElem?_set] at hc
    by_cases e : s.own.length = j
    ·subst e
     simp only [if_true,if_pos hpl] at hc
     cases hc
     exact ⟨q,hq,fun x hx => hx.1 rfl⟩
    ·rw [if_neg e] at hc
     obtain ⟨r,hr,hsc⟩ := hown j c hc
     refine ⟨r,hr,?_⟩
     have e2 : (fun x => j ≠ s.own.length /\ F' j x) = F' j := by funext x; simp [Ne.symm e]
     rw [e2]
     exact hsc.keep (Heap.Le.refl _) (Anc.Le.refl _) fun x hx => hoth x (fun e3 => e (hdj _ _ _ hFl (e3 ▸ hx)))) (fun j x hx => by
    rw [Xam,List.length_set]
    obtain ⟨g1,g2,g3,g4⟩ := hF' j x hx.2
    refine ⟨g1,by omega,g3,?_⟩
    rcases g4 with g | ⟨i,g⟩
    ·exact .inl (by omega)
    ·by_cases e : i = s.own.length
     ·simp only [F1,if_pos e] at g; exact .inl (by omega)
     ·simp only [F1,if_neg e] at g; exact .inr ⟨i,g⟩) (fun j j' x hx hx' => hdj j j' x hx.2 hx'.2)
  have hsat : Sat S Y ⟨s.fr,setC post s.own.length .dead⟩ { a with defers := [{ target := .collected w.heap.size,args := #[] }] ++ a.defers } w4 := by
   refine ⟨H',an',_,w.heap.size :: ms,hev.gp,hev.h0,hev.mod,hev.fr,hev.anc,hev.own,hev.fl,hev.fp,hev.dj,hev.hn,hev.ub,hev.os,hev.tape,hev.output,hev.size,?_,?_,?_,hev.al,hev.npl,hev.ro⟩
   ·show _ :: a.defers = _
    rw [h.df]; rfl
   ·intro r hr
    rcases List.mem_cons.1 hr with rfl | hr
    ·refine ⟨?_,?_,?_,fun i hi => hFD i hi.2⟩
     ·rw [hoth _ (by omega),hw.block _ (by omega) (fun ⟨i,hi⟩ => by
       by_cases e : i = s.own.length
       ·simp only [F1,if_pos e] at hi; omega
       ·simp only [F1,if_neg e] at hi; have := (h.fp i _ hi).1; omega)]
      exact hD
     ·cases e : H' w.heap.size with
      | none => rfl
      | some o =>
       rcases hnew _ o e with g | g | ⟨i,g⟩
       ·rw [hHn _ (Nat.le_refl _)] at g; cases g
       ·omega
       ·by_cases e : i = s.own.length
        ·simp only [F1,if_pos e] at g; omega
        ·simp only [F1,if_neg e] at g; have := (h.fp i _ g).1; omega
     ·intro hu
      have := (h.ub _ hu).1; have := h.size; omega
    ·exact hev.mks r hr
   ·refine List.nodup_cons.2 ⟨fun hm => ?_,h.nd⟩
    have := (Array.getElem?_eq_some_iff.1 (h.mks _ hm).1).1
    omega
  cases pd with
  | none => exact hk _ hR2 Y _ w4 hsat
  | some c =>
   obtain ⟨m,hm,hG⟩ := hj c _ hR2
   have := hG Y _ w4 hsat [] c hm
   rw [hro] at this
   exact this
end
namespace Sq
theorem true_and (p : Prop) : (True /\ p) = p := _root_.true_and p
theorem and_true (p : Prop) : (p /\ True) = p := _root_.and_true p
theorem and_false (p : Prop) : (p /\ False) = False := _root_.and_false p
theorem false_and (p : Prop) : (False /\ p) = False := _root_.false_and p
theorem or_true (p : Prop) : (p \/ True) = True := _root_.or_true p
theorem true_or (p : Prop) : (True \/ p) = True := _root_.true_or p
theorem false_or (p : Prop) : (False \/ p) = p := _root_.false_or p
theorem or_false (p : Prop) : (p \/ False) = p := _root_.or_false p
theorem and_self (p : Prop) : (p /\ p) = p := _root_.and_self p
theorem or_self (p : Prop) : (p \/ p) = p := _root_.or_self p
theorem not_true_eq_false : (¬True) = False := _root_.not_true_eq_false
theorem not_false_eq_true : (¬False) = True := _root_.not_false_eq_true
theorem ne_eq {α : Sort _} (a b : α) : (a ≠ b) = ¬(a = b) := _root_.ne_eq a b
theorem if_true {α : Sort _} {h : Decidable True} (t e : α) : (@ite α True h t e) = t := _root_.if_true t e
theorem if_false {α : Sort _} {h : Decidable False} (t e : α) : (@ite α False h t e) = e := _root_.if_false t e
theorem false_implies (p : Prop) : (False -> p) = True := _root_.false_implies p
theorem implies_true (α : Sort _) : (α -> True) = True := _root_.implies_true α
theorem true_implies (p : Prop) : (True -> p) = p := _root_.true_implies p
theorem forall_const {b : Prop} (α : Sort _) [i : Nonempty α] : (α -> b) ↔ b := _root_.forall_const α
theorem and_imp {a b c : Prop} : (a /\ b -> c) ↔ (a -> b -> c) := _root_.and_imp
theorem eq_self {α : Sort _} (a : α) : (a = a) = True := _root_.eq_self a
theorem decide_true (h : Decidable True) : @decide True h = true := _root_.decide_true h
theorem decide_false (h : Decidable False) : @decide False h = false := _root_.decide_false h
theorem decide_eq_true_eq {p : Prop} [Decidable p] : (decide p = true) = p := _root_.decide_eq_true_eq
theorem decide_eq_false_iff_not {p : Prop} {h : Decidable p} : (decide p = false) ↔ ¬p := _root_.decide_eq_false_iff_not
end Sq
end Go.Fw
namespace Go.Fw
open Go
section
variable {S : Sx} {Y : Dyn} {k : List MI} {s : St} {a : Act} {w w' : World} {H : Heap} {an : Anc} {F : Nat -> Nat -> Prop} {ms : List Nat}
theorem Xzj {xs : List (List D)} {v : Value} (h : Den H (.sl xs) v) : xs.length < Xad := by
 cases h with
 | slE A c => simp [Xad]
 | sl => assumption
theorem Xxf (t : Nat) {xs : List (List D)} (ht : getV s.fr t = .one (.d (.sl xs))) (h : xs.length < Xad -> G S k s) : G S k s := by
 rintro Y a w ⟨H,an,F,ms,hs⟩
 obtain ⟨u,hu,hd⟩ := hs.fr.get (Xaz _ _ _ ht (by simp))
 have hd : Den H (.sl xs) u := hd
 exact h (Xzj hd) Y a w ⟨H,an,F,ms,hs⟩
theorem Yiz (t i : Nat) {cs : List D} {xs : List (List D)} (ht : getV s.fr t = .one (.d (.bx cs))) (hi : cs[i]? = some (.sl xs)) (h : xs.length < Xad -> G S k s) : G S k s := by
 rintro Y a w ⟨H,an,F,ms,hs⟩
 obtain ⟨u,hu,hd⟩ := hs.fr.get (Xaz _ _ _ ht (by simp))
 have hd : Den H (.bx cs) u := hd
 cases hd with
 | bx => rename_i h3; exact h (Xzj (h3 _ _ hi)) Y a w ⟨H,an,F,ms,hs⟩
theorem Y5k (j : Nat) {sz ver : Nat} {xs : List (List D)} (hj : getC s.own j = .row sz ver xs) (h : xs.length < Xad -> G S k s) : G S k s := by
 rintro Y a w ⟨H,an,F,ms,hs⟩
 obtain ⟨p,_,hsc⟩ := hs.own j _ (Xbj hj (by simp))
 exact h hsc.2.2.2.2.1 Y a w ⟨H,an,F,ms,hs⟩
end
theorem Xan {i n : Nat} (h : i < n) (hn : n < Xad) : inK .i64 ((i : Int) + 1) := by
 unfold inK Xad at *
 simp [IntKind.min,IntKind.max,IntKind.signed,IntKind.bits]
 omega
theorem Xkv {i : Nat} (hn : i < Xad) : inK .i64 ((i : Int) - 1) := by
 unfold inK Xad at *
 simp [IntKind.min,IntKind.max,IntKind.signed,IntKind.bits]
 omega
section
variable {S : Sx} {Y : Dyn} {k : List MI} {s : St}
theorem Xzk {x : MC} (h : G S (.code x :: .again (fun _ => False) :: k) s) : G S (.code (.loop x) :: k) s := by
 intro Y a w hs hs' c hc
 obtain ⟨b,rfl,hb⟩ := Xsi hc
 refine wpIn_loop (fun a w => Sat S Y s a w) (fun _ _ => 0) hs fun a w hJ => ?_
 refine wpIn_mono (h Y a w hJ hs' b hb) ?_
 intro e a' w' hm
 cases e with
 | normal => obtain ⟨_,_,hf⟩ := hm; exact hf.elim
 | _ => exact hm
end
end Go.Fw
namespace Go.Fw
open Go
theorem Xio {S : Sx} {q : Bool} {k : List MI} {d : Option Nat} {o : MOp} {r : List MO} {s : St} (h : vc1 S q (VO S q k r) (fun _ => False) (.op d o) s) : VO S q k (.op d o :: r) s := by
 rw [Yct]; exact h
theorem Xip {S : Sx} {q : Bool} {k : List MI} {d : Option Nat} {o : MOp} {r : List MO} {s : St} (h : vc1 S false (VO S q k r) (fun _ => False) (.op d o) s) : VO S q k (.opx d o :: r) s := by
 rw [Xsh]; exact h
theorem Xel {S : Sx} {q : Bool} {k : List MI} {s : St} (h : G S k s) : VO S q k [] s := h
def Ypx : List MI -> Option (List MI)
 | .code (.seq x y) :: k => some (.code x :: .code y :: k)
 | .code .skip :: k => some k
 | .code (.scope x) :: k => some (.code x :: k)
 | .code (.blk id x) :: k => some (.code x :: .blk id :: k)
 | .blk _ :: k => some k
 | _ => none
def Y5l : List MI -> Option (List MI)
 | .code (.exit id) :: k => Xox id k
 | k => Ypx k
theorem Gw {S : Sx} {k k' : List MI} {s : St} (e : Ypx k = some k') (h : G S k' s) : G S k s := by
 unfold Ypx at e
 split at e <;> cases e
 ·exact Ycz h
 ·exact Y5h h
 ·exact Ypr h
 ·exact Wf3 h
 ·exact Xy6 h
theorem Gx {S : Sx} {k k' : List MI} {s : St} (e : Y5l k = some k') (h : G S k' s) : G S k s := by
 unfold Y5l at e
 split at e
 ·exact Xgk e h
 ·exact Gw e h
section
variable {P : Program} {gp : Heap} {f : FuncId} {fn : Func} {hs : List Nat} {m : MC} {rs : List RV} {n : Nat} {args : List V} {res : V} {pre : List Ch} {R : V -> List Ch -> Prop}
abbrev MC.r0 (l : List MO) : MC := .reg false l
structure KK (P : Program) (f : FuncId) (fn : Func) (hs : List Nat) (m : MC) (rs : List RV) (n : Nat) : Prop where
 fd : P.funcs[f]? = some fn
 b : fn.body.isSome = true
 tr : trC P hs (fn.body.getD .skip) = some m
 rs : rsOf P fn.results.toList = some rs
 nt : fn.ntmps = n
abbrev GI (P : Program) (gp : Heap) (rs : List RV) (res : V) (n : Nat) (m : MC) (args : List V) : Prop :=
 G ⟨P,gp,0,rs,fun r c => r = res /\ c = [],false⟩ [.code m,.fin] ⟨args ++ List.replicate (n - args.length) .un,[]⟩
abbrev GT (P : Program) (gp : Heap) (rs : List RV) (pre : List Ch) (R : V -> List Ch -> Prop) (n : Nat) (m : MC) (args : List V) : Prop :=
 G ⟨P,gp,pre.length,rs,R,false⟩ [.code m,.fin] ⟨args ++ List.replicate (n - args.length) .un,pre⟩
theorem KK.i (k : KK P f fn hs m rs n) (hc : Xaa P f = true) (h : GI P gp rs res n m args) : Does P gp f args res := by
 obtain ⟨h1,h2,h3,h4,rfl⟩ := k
 obtain ⟨c,hb⟩ := Option.isSome_iff_exists.1 h2
 rw [hb] at h3
 exact Xw8 hc h1 hb h3 h4 h
theorem KK.t (k : KK P f fn hs m rs n) (h : GT P gp rs pre R n m args) : Tri P gp f args pre R := by
 obtain ⟨h1,h2,h3,h4,rfl⟩ := k
 obtain ⟨c,hb⟩ := Option.isSome_iff_exists.1 h2
 rw [hb] at h3
 exact Xo0 h1 hb h3 h4 h
end
attribute [go_sem] GI GT
attribute [go_sem] Ypk vc1 Y5f Yct Xsh nilD evO getV setV putV getC setC V.ok A.solid V.cells Xbs allD layF layE Xc4 mkV V.nrm V.nrm2 A.nrm A.ofZ binD binI binS binB isSh eqV eqLs eqL
 Xgr Xjy Xjx Xe2 Xjw Xg4 Xw7 renL renV renA Xwt Xn8 Xya Xwu Ch.live Ch.refs V.refs0 frzS subT subV subA sub0 subC Xw9 Xim V.data A.data V.scal V.scal1 A.scal D.scal clov Xqe Xqf A.low mvv ifv Xfa Xap fr Xwv
 isBx Ypj posN rn0 rn0s rnA rnAs rnV rnVs rnEs rnC rnCs sgN bk0 bkA bk1 bkV bkC bkO ltJs
 Xox retK FinS Xx9 resL resV V.refsT V.refs A.refs A.refs0
attribute [go_sem] reduceCtorEq Nat.reduceAdd Nat.reduceSub Nat.reduceMul Nat.reduceLeDiff Nat.reduceLT Nat.reduceEqDiff Int.reduceToNat Int.reduceLT Int.reduceLE Int.reduceGT Int.reduceGE Int.reduceEq Int.reduceNe Int.reduceBEq Int.reduceBNe Int.reduceAdd Int.reduceSub Int.reduceNeg
attribute [go_sem ↓] reduceIte
attribute [go_sem] List.map List.length_nil List.length_cons List.length_map List.nil_append List.cons_append List.append_nil List.take_succ_cons List.take_zero List.take_nil List.drop_succ_cons List.drop_zero List.drop_nil
 List.set_cons_zero List.set_cons_succ List.all_cons List.all_nil List.flatMap_nil List.flatMap_cons List.replicate_succ List.replicate_zero List.getElem?_cons_zero List.getElem?_cons_succ
attribute [go_sem] true_and and_true and_false false_and or_true true_or false_or or_false and_self not_true_eq_false not_false_eq_true ne_eq if_true if_false Bool.false_eq_true Bool.true_eq_false Bool.not_true Bool.not_false
 Bool.and_true Bool.true_and Bool.and_false Bool.false_and Bool.or_true Bool.true_or Bool.or_false Bool.false_or false_implies implies_true forall_const true_implies
attribute [go_sem] Int.toNat_natCast Int.cast_ofNat_Int Nat.zero_add Nat.add_zero Nat.zero_mul Nat.mul_one Nat.one_mul Nat.le_refl List.isEmpty_nil List.isEmpty_cons Option.isNone_none Option.isNone_some Option.isSome_none Option.isSome_some Option.getD_none Option.getD_some
 Option.some.injEq bne_self_eq_false beq_self_eq_true decide_eq_true_eq decide_eq_false_iff_not and_imp eq_self decide_true decide_false
end Go.Fw
