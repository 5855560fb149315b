/- The framework,part 21: what must be shown of a region,as a function that is worked out ('VO'); it is enough. -/
import Derived.Test.YtejnfjophhnaeaaGreatDoorFc
import Derived.Attr
set_option linter.all false
namespace Go.Fw
open Go
def Xzk (S:Sx) (f:FuncId) (args:List V) (own:List Ch) (v:V):Prop:=match Xh0 own args with
 | some l=>Xam S.P S.gp f l v/\(args.all V.data=true\/v.scal=true)
 | none=>False
theorem Xzk.to {S:Sx} {f:FuncId} {args:List V} {own:List Ch} {v:V} (h:Xzk S f args own v):Xr7 S f args own v:=by
 unfold Xzk at h
 split at h
 ·rename_i l hl;exact⟨l,hl,h⟩
 ·exact h.elim
def Xqu (S:Sx) (f:FuncId) (args:List V) (own:List Ch) (j:Nat) (v0:V) (c':Ch):Prop:=match Yv4 j args with
 | some l=>(args.flatMap V.refs).contains j=true/\(args.flatMap V.refs0).contains j=true/\(Xao own j).live=true/\(Xao own j).refs=[]/\c'.refs=[]/\Xaa S.P f=true/\Tri S.P S.gp f l [Xao own j] (fun r post=>r=v0/\post=[c'])
 | none=>False
theorem Xqu.to {S:Sx} {f:FuncId} {args:List V} {own:List Ch} {j:Nat} {v0:V} {c':Ch} (h:Xqu S f args own j v0 c'):(args.flatMap V.refs0).contains j=true/\Xr8 S f args own j v0 c':=by
 unfold Xqu at h
 split at h
 ·rename_i l hl;exact⟨h.2.1,l,hl,h.1,h.2.2⟩
 ·exact h.elim
theorem Xbu.len {S:Sx} {f:FuncId} {args:List V} {own:List Ch} {js:List Nat} {v0:V} {post:List Ch} (h:Xbu S f args own js v0 post):own.length<=(bkO own.length js js own post).length:=by
 unfold Xbu at h
 split at h
 ·rw[Xol h.2.1];omega
 ·obtain⟨rfl,_⟩:=h
  simp[bkO]
structure Sh (K:St->Prop) (s:St):Prop where
 intro ::
 get:K s
def Ywd (fr:List V):Option Nat->Bool
 | some d=>(match Xa0 fr d with|.one .un=>true|_=>false)
 | none=>false
def Ywe:IntKind->Bool
 | .u8=>true
 | .u32=>true
 | _=>false
def vc1 (S:Sx) (q:Bool) (K K2:St->Prop):MO->St->Prop
 | .opx ..,_=>False
 | .chk t b d,s=>(match Xa0 s.fr t with
  | .one (.d (.bool c))=>(c=b->K ⟨Xbv s.fr t (.one (.d (.bool b))),s.own⟩)/\(c≠b->K2 ⟨Xba (Xbv s.fr t (.one (.d (.bool (!b))))) d (.tup []),s.own⟩)
  | .tup []=>K2 ⟨Xba s.fr d (.tup []),s.own⟩
  | _=>False)
 | .op d (.mv x),s=>K ⟨Xba s.fr d (evO s.fr x),s.own⟩
 | .op d (.pick c x y),s=>(match evO s.fr c with
  | .one (.d (.bool b))=>K ⟨Xba s.fr d (if b then evO s.fr x else evO s.fr y),s.own⟩
  | _=>False)
 | .op d (.alloc z),s=>K ⟨Xba s.fr d (.one (.ptr s.own.length 0)),s.own++[.cells (z.map A.ofZ)]⟩
 | .op d (.bldN T e),s=>K ⟨Xba s.fr d (.one (.ptr s.own.length 0)),s.own++[.bld T (.own (s.own.length+1) 0),.brow e 0 []]⟩
 | .op d (.appS e x y),s=>(match evO s.fr x,evO s.fr y with
  | .one (.own j ver),.one (.d (.str t))=>(match Xao s.own j with
   | .brow e' ver' bs=>e'=e/\ver'=ver/\bs.length+t.size<=140737488355328/\K ⟨Xba s.fr d (.one (.own j (ver+1))),Xbt s.own j (.brow e (ver+1) (bs++t.data.toList))⟩
   | _=>False)
  | _,_=>False)
 | .op d (.box x),s=>(evO s.fr x).ok=true/\Xcm (evO s.fr x).cells=true/\K ⟨Xba s.fr d (.one (.ptr s.own.length 0)),s.own++[.cells (evO s.fr x).cells]⟩
 | .op d (.ibox x),s=>(evO s.fr x).ok=true/\(match Xkp (evO s.fr x).cells with
  | some ds=>K ⟨Xba s.fr d (.one (.d (.bx ds))),s.own⟩
  | none=>False)
 | .op d (.build z ps),s=>(ps.all fun p=>(evO s.fr p.2.2).ok)=true/\(match X0v (evO s.fr) (z.map A.ofZ) ps with
  | some cs=>K ⟨Xba s.fr d (.agg cs),s.own⟩
  | none=>False)
 | .op d (.bslice sz z n ps),s=>z.length=sz/\n*sz<=16777216/\0 < sz/\(ps.all fun p=>(evO s.fr p.2).ok)=true/\(match Xpx (evO s.fr) sz (Xdv z n) ps with
  | some xs=>K ⟨Xba s.fr d (.one (.d (.sl xs))),s.own⟩
  | none=>False)
 | .op d (.bslO sz z n ps),s=>z.length=sz/\n*sz<=16777216/\0 < sz/\(ps.all fun p=>(evO s.fr p.2).ok)=true/\(match Xpx (evO s.fr) sz (Xdv z n) ps with
  | some xs=>K ⟨Xba s.fr d (.one (.own s.own.length 0)),s.own++[.row sz 0 xs]⟩
  | none=>False)
 | .op d (.load n ag x),s=>(ag=true\/n=1)/\(match evO s.fr x with
  | .one (.ptr i off)=>(match Xao s.own i with
   | .cells cs=>off+n<=cs.length/\K ⟨Xba s.fr d (mkV ag ((cs.drop off).take n)),s.own⟩
   | _=>False)
  | .one (.d (.bx cs))=>n<=cs.length/\K ⟨Xba s.fr d (mkV ag ((cs.take n).map .d)),s.own⟩
  | .one (.rp i ver sz e off)=>(match Xao s.own i with
   | .row sz' ver' xs=>sz'=sz/\ver'=ver/\∃ x,(xs[e]?=some x/\off+n<=x.length)/\Sh K ⟨Xba s.fr d (mkV ag (((x.drop off).take n).map .d)),s.own⟩
   | .rowA sz' ver' xs=>sz'=sz/\ver'=ver/\∃ x,(xs[e]?=some x/\off+n<=x.length)/\Sh K ⟨Xba s.fr d (mkV ag ((x.drop off).take n)),s.own⟩
   | _=>False)
  | .one (.d (.raw (.pointer (some ⟨g,0,none⟩))))=>∃ cells T fz ds,(S.gp g=some (.cells cells T fz)/\Xka cells.toList=some ds/\n<=ds.length)/\Sh K ⟨Xba s.fr d (mkV ag ((ds.take n).map .d)),s.own⟩
  | _=>False)
 | .op d (.ild n ag x),s=>(ag=true\/n=1)/\(match evO s.fr x with
  | .one (.d (.bx cs))=>n<=cs.length/\K ⟨Xba s.fr d (mkV ag ((cs.take n).map .d)),s.own⟩
  | _=>False)
 | .op d (.cld n ag x),s=>(ag=true\/n=1)/\(match evO s.fr x with
  | .one (.ptr i off)=>(match Xao s.own i with
   | .cells cs=>off+n<=cs.length/\K ⟨Xba s.fr d (mkV ag ((cs.drop off).take n)),s.own⟩
   | _=>False)
  | .one (.d (.bx cs))=>n<=cs.length/\K ⟨Xba s.fr d (mkV ag ((cs.take n).map .d)),s.own⟩
  | _=>False)
 | .op d (.slcR sz x lo hi),s=>(match evO s.fr x with
  | .one (.own j ver)=>(match Xao s.own j with
   | .row sz' ver' xs=>sz'=sz/\ver'=ver/\∃ l h:Nat,(Xax (evO s.fr) lo 0 l/\Xax (evO s.fr) hi xs.length h/\l<=h/\h<=xs.length) /\
     Sh K ⟨Xba s.fr d (.one (.own j (ver+1))),Xbt s.own j (.row sz (ver+1) ((xs.take h).drop l))⟩
   | _=>False)
  | _=>False)
 | .op d (.iadD sz x i),s=>(match evO s.fr x,evO s.fr i with
  | .one (.d (.sl xs)),.one (.d (.int _ n))=>∃ cs,(0<=n/\xs[n.toNat]?=some cs/\cs.length=sz)/\Sh K ⟨Xba s.fr d (.one (.d (.bx cs))),s.own⟩
  | _,_=>False)
 | .op d (.strB x),s=>∃ bs:List UInt8,(bs≠[]/\evO s.fr x=.one (.d (.sl (bs.map fun b=>[.int .u8 b.toNat]))))/\Sh K ⟨Xba s.fr d (.one (.d (.str ⟨bs.toArray⟩))),s.own⟩
 | .op d (.holes ts),s=>(ts.all fun t=>Wfd t.2 (evO s.fr (.t t.1)))=true/\K ⟨Xba s.fr d .un,s.own++List.replicate ts.length .dead⟩
 | .op d (.store n x y),s=>(evO s.fr y).ok=true/\(evO s.fr y).cells.length=n/\(match evO s.fr x with
  | .one (.ptr i off)=>(match Xao s.own i with
   | .cells cs=>off+n<=cs.length/\Xcm (evO s.fr y).cells=true/\K ⟨Xba s.fr d .un,Xbt s.own i (.cells (cs.take off++(evO s.fr y).cells++cs.drop (off+n)))⟩
   | _=>False)
  | .one (.rp i ver sz e off)=>(match Xao s.own i with
   | .row sz' ver' xs=>sz'=sz/\ver'=ver/\(match Xkp (evO s.fr y).cells with
    | some ds=>∃ x,(xs[e]?=some x/\off+n<=x.length)/\Sh K ⟨Xba s.fr d .un,Xbt s.own i (.row sz ver (xs.set e (x.take off++ds++x.drop (off+n))))⟩
    | none=>False)
   | _=>False)
  | _=>False)
 | .op d (.fad off x),s=>(match evO s.fr x with
  | .one (.ptr i o)=>K ⟨Xba s.fr d (.one (.ptr i (o+off))),s.own⟩
  | .one (.d (.bx cs))=>K ⟨Xba s.fr d (.one (.d (.bx (cs.drop off)))),s.own⟩
  | .one (.rp i ver sz e o)=>K ⟨Xba s.fr d (.one (.rp i ver sz e (o+off))),s.own⟩
  | _=>False)
 | .op d (.iad sz x i),s=>(match evO s.fr x,evO s.fr i with
  | .one (.d (.sl xs)),.one (.d (.int _ n))=>∃ cs,(0<=n/\xs[n.toNat]?=some cs/\cs.length=sz)/\Sh K ⟨Xba s.fr d (.one (.d (.bx cs))),s.own⟩
  | .one (.own j ver),.one (.d (.int _ n))=>(match Xao s.own j with
   | .row sz' ver' xs=>sz'=sz/\ver'=ver/\0<=n/\n.toNat < xs.length/\K ⟨Xba s.fr d (.one (.rp j ver sz n.toNat 0)),s.own⟩
   | .rowA sz' ver' xs=>sz'=sz/\ver'=ver/\0<=n/\n.toNat < xs.length/\K ⟨Xba s.fr d (.one (.rp j ver sz n.toNat 0)),s.own⟩
   | _=>False)
  | _,_=>False)
 | .op d (.iadA len sz x i),s=>(match evO s.fr x,evO s.fr i with
  | .one (.ptr j off),.one (.d (.int _ n))=>∃ m:Nat,(n=m/\m < len)/\Sh K ⟨Xba s.fr d (.one (.ptr j (off+m*sz))),s.own⟩
  | .one (.d (.bx cs)),.one (.d (.int _ n))=>∃ m:Nat,(n=m/\m < len)/\Sh K ⟨Xba s.fr d (.one (.d (.bx (cs.drop (m*sz))))),s.own⟩
  | .one (.d (.raw (.pointer (some ⟨g,0,none⟩)))),.one (.d (.int _ n))=>∃ (m:Nat) (cells:Array Value) (T:TypeId) (fz:Nat × Nat) (ds:List D),(n=m/\m < len/\S.gp g=some (.cells cells T fz)/\Xka cells.toList=some ds) /\
    Sh K ⟨Xba s.fr d (.one (.d (.bx (ds.drop (m*sz))))),s.own⟩
  | _,_=>False)
 | .op d (.idxS x i),s=>(match evO s.fr x,evO s.fr i with
  | .one (.d (.str st)),.one (.d (.int _ n))=>∃ (m:Nat) (b:UInt8),(n=m/\st[m]?=some b)/\Sh K ⟨Xba s.fr d (.one (.d (.int .u8 b.toNat))),s.own⟩
  | _,_=>False)
 | .op d (.len kd x),s=>(match kd,(evO s.fr x).nrm with
  | .s,.one (.d (.str st))=>K ⟨Xba s.fr d (.one (.d (.int .i64 st.size))),s.own⟩
  | .i,.one (.d (.sl xs))=>K ⟨Xba s.fr d (.one (.d (.int .i64 xs.length))),s.own⟩
  | .i,.one (.own j ver)=>(match Xao s.own j with
   | .row _ ver' xs=>ver'=ver/\K ⟨Xba s.fr d (.one (.d (.int .i64 xs.length))),s.own⟩
   | .brow _ ver' bs=>ver'=ver/\K ⟨Xba s.fr d (.one (.d (.int .i64 bs.length))),s.own⟩
   | _=>False)
  | .b,.one (.own j 0)=>(match Xao s.own j with
   | .map es=>K ⟨Xba s.fr d (.one (.d (.int .i64 es.length))),s.own⟩
   | _=>False)
  | _,_=>False)
 | .op d (.app e sz bytes x y),s=>(match (evO s.fr y).nrm,evO s.fr x with
  | .one (.d (.sl ys)),.one .nil=>(∀ p∈ys,p.length=sz)/\0 < sz/\ys.length*bytes<=140737488355328/\ys.length < Xab/\K ⟨Xba s.fr d (.one (.own s.own.length 0)),s.own++[.row sz 0 ys]⟩
  | .one (.d (.sl ys)),.one (.own j ver)=>(match Xao s.own j with
   | .row sz' ver' xs=>(∀ p∈ys,p.length=sz)/\sz'=sz/\ver'=ver/\(xs.length+ys.length)*bytes<=140737488355328/\xs.length+ys.length < Xab /\
     K ⟨Xba s.fr d (.one (.own j (ver+1))),Xbt s.own j (.row sz (ver+1) (xs++ys))⟩
   | .brow e' ver' bs=>(∀ p∈ys,p.length=sz)/\e'=e/\sz=1/\bytes=1/\ver'=ver/\bs.length+ys.length<=140737488355328/\∃ cs:List UInt8,ys=Yow cs/\Sh K ⟨Xba s.fr d (.one (.own j (ver+1))),Xbt s.own j (.brow e (ver+1) (bs++cs))⟩
   | _=>False)
  | _,_=>False)
 | .op d (.min x y),s=>(match evO s.fr x,evO s.fr y with
  | .one (.d (.int kk a)),.one (.d (.int _ b))=>K ⟨Xba s.fr d (.one (.d (.int kk (if b < a then b else a)))),s.own⟩
  | _,_=>False)
 | .op d (.max x y),s=>(match evO s.fr x,evO s.fr y with
  | .one (.d (.int kk a)),.one (.d (.int _ b))=>K ⟨Xba s.fr d (.one (.d (.int kk (if a < b then b else a)))),s.own⟩
  | _,_=>False)
 | .op d (.bin kd o x y),s=>(match Yhg kd o (evO s.fr x) (evO s.fr y) with
  | (c,v)=>c/\K ⟨Xba s.fr d (.one (.d v)),s.own⟩)
 | .op d (.eqs neg ks x y),s=>(match evO s.fr x,evO s.fr y with
  | .agg a,.agg b=>(match Xdu ks a b with
   | some e=>K ⟨Xba s.fr d (.one (.d (.bool (if neg then !e else e)))),s.own⟩
   | none=>False)
  | _,_=>False)
 | .op d (.nilq kd neg x),s=>(match Yhj kd (evO s.fr x) with
  | some b=>K ⟨Xba s.fr d (.one (.d (.bool (if neg then !b else b)))),s.own⟩
  | none=>False)
 | .op d (.not x),s=>(match evO s.fr x with
  | .one (.d (.bool b))=>K ⟨Xba s.fr d (.one (.d (.bool !b))),s.own⟩
  | _=>False)
 | .op d (.conv kk x),s=>(match evO s.fr x with
  | .one (.d (.int _ n))=>(Ywe kk=true\/inK kk n)/\K ⟨Xba s.fr d (.one (.d (.int kk (if Ywe kk=true then kk.wrap n else n)))),s.own⟩
  | _=>False)
 | .op d (.mkI t x),s=>(match ifv t (evO s.fr x) with
  | some a=>K ⟨Xba s.fr d (.one a),s.own⟩
  | none=>False)
 | .op d (.mkF f caps),s=>(match Wfg f (caps.map (evO s.fr)) with
  | some a=>K ⟨Xba s.fr d (.one a),s.own⟩
  | none=>False)
 | .op d (.mkMv f x),s=>(match mvv f (evO s.fr x) with
  | some a=>K ⟨Xba s.fr d (.one a),s.own⟩
  | none=>False)
 | .op d .mkM,s=>K ⟨Xba s.fr d (.one (.own s.own.length 0)),s.own++[.map []]⟩
 | .op d (.lkp ok z kag ks m kx),s=>eqV kag ks (evO s.fr kx) (evO s.fr kx)≠none/\(match evO s.fr m with
  | .one (.own j 0)=>(match Xao s.own j with
   | .map es=>∃ e,(Xep kag ks es (evO s.fr kx)=some e/\(e.getD z).ok=true)/\Sh K ⟨Xba s.fr d (if ok then .tup [e.getD z,.one (.d (.bool e.isSome))] else e.getD z),s.own⟩
   | _=>False)
  | .one (.d (.raw (.map none)))=>z.ok=true/\K ⟨Xba s.fr d (if ok then .tup [z,.one (.d (.bool false))] else z),s.own⟩
  | _=>False)
 | .op d (.mupd kag ks m kx x),s=>eqV kag ks (evO s.fr kx) (evO s.fr kx)≠none/\(evO s.fr kx).ok=true/\(evO s.fr x).ok=true/\(match evO s.fr m with
  | .one (.own j 0)=>(match Xao s.own j with
   | .map es=>∃ e,Xob kag ks es (evO s.fr kx) (evO s.fr x)=some e/\Sh K ⟨Xba s.fr d .un,Xbt s.own j (.map e)⟩
   | _=>False)
  | _=>False)
 | .op d (.mkS sz bytes z l),s=>(match evO s.fr l with
  | .one (.d (.int _ n))=>0<=n/\0 < sz/\z.length=sz/\n*bytes<=140737488355328/\n < Xab/\K ⟨Xba s.fr d (.one (.own s.own.length 0)),s.own++[.row sz 0 (List.replicate n.toNat z)]⟩
  | _=>False)
 | .op d (.slcS x lo hi),s=>(match evO s.fr x with
  | .one (.d (.str st))=>∃ l h:Nat,(Xax (evO s.fr) lo 0 l/\Xax (evO s.fr) hi st.size h/\l<=h/\h<=st.size)/\Sh K ⟨Xba s.fr d (.one (.d (.str (st.extract l h)))),s.own⟩
  | _=>False)
 | .op d (.slc sz x lo hi),s=>(match (evO s.fr x).nrm with
  | .one (.d (.sl xs))=>∃ l h:Nat,(Xax (evO s.fr) lo 0 l/\Xax (evO s.fr) hi xs.length h/\l<=h/\h<=xs.length/\(∀ p∈xs,p.length=sz))/\Sh K ⟨Xba s.fr d (.one (.d (.sl ((xs.take h).drop l)))),s.own⟩
  | .one (.own j ver)=>(match Xao s.own j with
   | .row sz' ver' xs=>q=false/\sz'=sz/\ver'=ver/\∃ l h:Nat,(Xax (evO s.fr) lo 0 l/\Xax (evO s.fr) hi xs.length h/\l<=h/\h<=xs.length) /\
     Sh K ⟨Xba s.fr d (.one (.own j (ver+1))),Xbt s.own j (.row sz (ver+1) ((xs.take h).drop l))⟩
   | _=>False)
  | _=>False)
 | .op d (.ext x i),s=>(match evO s.fr x with
  | .tup l=>i < l.length/\K ⟨Xba s.fr d (Xa0 l i),s.own⟩
  | _=>False)
 | .op d (.rng x),s=>(match evO s.fr x with
  | .one (.d (.str st))=>K ⟨Xba s.fr d (.one (.own s.own.length 0)),s.own++[.siter st 0]⟩
  | _=>False)
 | .op d (.nxt x),s=>(match evO s.fr x with
  | .one (.own j 0)=>(match Xao s.own j with
   | .siter st pos=>(pos < st.size->Sh K ⟨Xba s.fr d (.tup [.one (.d (.bool true)),.one (.d (.int .i64 pos)),.one (.d (.int .i32 (Utf8.decode st pos).1))]),Xbt s.own j (.siter st (pos+(Utf8.decode st pos).2))⟩) /\
     (¬ pos < st.size->Sh K ⟨Xba s.fr d (.tup [.one (.d (.bool false))]),s.own⟩)
   | _=>False)
  | _=>False)
 | .op d (.tas t ok z x),s=>(match evO s.fr x with
  | .one (.d (.ifc t' ag cs))=>(t'=t->K ⟨Xba s.fr d (if ok then .tup [mkV ag (cs.map .d),.one (.d (.bool true))] else mkV ag (cs.map .d)),s.own⟩) /\
    (t'≠t->ok=true/\z.ok=true/\K ⟨Xba s.fr d (.tup [z,.one (.d (.bool false))]),s.own⟩)
  | .one (.d .nilI)=>ok=true/\z.ok=true/\K ⟨Xba s.fr d (.tup [z,.one (.d (.bool false))]),s.own⟩
  | _=>False)
 | .op d (.idxA len x i),s=>(match evO s.fr x,evO s.fr i with
  | .agg cs,.one (.d (.int _ n))=>∃ (m:Nat) (c:A),(n=m/\m < len/\cs[m]?=some c)/\Sh K ⟨Xba s.fr d (.one c),s.own⟩
  | _,_=>False)
 | .op d (.nck x),s=>(match Yhj .ptr (evO s.fr x) with
  | some false=>K ⟨Xba s.fr d (evO s.fr x),s.own⟩
  | _=>False)
 | .op d (.cpy sz x y),s=>(match evO s.fr x,(evO s.fr y).nrm with
  | .one (.own j ver),.one (.d (.sl ys))=>(match Xao s.own j with
   | .row sz' ver' xs=>(∀ p∈ys,p.length=sz)/\sz'=sz/\ver'=ver/\ys.length=xs.length/\K ⟨Xba s.fr d (.one (.d (.int .i64 ys.length))),Xbt s.own j (.row sz ver ys)⟩
   | _=>False)
  | _,_=>False)
 | .op d (.call f args),s=>(∃ v,Xzk S f (args.map (evO s.fr)) s.own v/\Sh K ⟨Xba s.fr d v,s.own⟩) \/
   (((args.map (evO s.fr)).flatMap V.refs0).isEmpty=false/\q=false/\∃ j v0 c',Xqu S f (args.map (evO s.fr)) s.own j v0 c'/\Sh K ⟨Xba s.fr d (Xp6 j v0),Xbt s.own j c'⟩) \/
   ((((args.map (evO s.fr)).flatMap V.refs).isEmpty=false\/Ywd s.fr d=true)/\q=false/\∃ js v0 post,Xbu S f (args.map (evO s.fr)) s.own js v0 post/\Sh K ⟨Xba s.fr d (bkV s.own.length js v0),bkO s.own.length js js s.own post++[.dead]⟩)
 | .op d (.appF e sz bytes x y),s=>(match (evO s.fr y).nrm,evO s.fr x with
  | .one (.d (.sl ys)),.one (.own j ver)=>(match Xao s.own j with
   | .row sz' ver' xs=>(∀ p∈ys,p.length=sz)/\sz'=sz/\ver'=ver/\(xs.length+ys.length)*bytes<=140737488355328/\xs.length+ys.length < Xab/\K ⟨Xba s.fr d (.one (.d (.sl (xs++ys)))),Xbt s.own j .dead⟩
   | _=>False)
  | _,_=>False)
 | .op d (.callN f args),s=>∃ v0 post,Xbu S f (args.map (evO s.fr)) s.own [] v0 post/\Sh K ⟨Xba s.fr d (bkV s.own.length [] v0),(s.own++post.map (bkC s.own.length []))++[.dead]⟩
 | .op d (.callv g args),s=>(match Xgi (evO s.fr g) (args.map (evO s.fr)) with
  | some (f,l)=>(∃ v,Xzk S f l s.own v/\Sh K ⟨Xba s.fr d v,s.own⟩) \/
    ((l.flatMap V.refs0).isEmpty=false/\q=false/\∃ j v0 c',Xqu S f l s.own j v0 c'/\Sh K ⟨Xba s.fr d (Xp6 j v0),Xbt s.own j c'⟩) \/
    (((l.flatMap V.refs).isEmpty=false\/Ywd s.fr d=true)/\q=false/\∃ js v0 post,Xbu S f l s.own js v0 post/\Sh K ⟨Xba s.fr d (bkV s.own.length js v0),bkO s.own.length js js s.own post++[.dead]⟩)
  | none=>match evO s.fr g with
   | .one (.d (.raw (.func (.yield l) fs cs)))=>fs=#[]/\cs=#[]/\q=false/\∃ own1 b,s.own.length<=own1.length/\Xr9 S l (args.map (evO s.fr)) s.own own1 b/\Sh K ⟨Xba s.fr d (.one (.d (.bool b))),own1++[.dead]⟩
   | _=>False)
def vcx (S:Sx) (q:Bool) (K K2:St->Prop):MO->St->Prop
 | .opx d o,s=>vc1 S false K K2 (.op d o) s
 | .op d o,s=>vc1 S q K K2 (.op d o) s
 | .chk t b d,s=>vc1 S q K K2 (.chk t b d) s
def VO (S:Sx) (q:Bool) (k:List MI):List MO->St->Prop
 | []=>fun s=>G S k s
 | x::r=>fun s=>vcx S q (VO S q k r) (match r with|_::r'=>VO S q k r'|[]=>fun _=>False) x s
theorem Wfl (S:Sx) (q:Bool) (k:List MI) (s:St):VO S q k [] s=G S k s:=rfl
theorem Xl3 {S:Sx} {q:Bool} {k:List MI} (x:MO) (r:List MO) (s:St):VO S q k (x::r) s=vcx S q (VO S q k r) (match r with|_::r'=>VO S q k r'|[]=>fun _=>False) x s:=by
 cases r <;> rfl
theorem Yif (S:Sx) (q:Bool) (k:List MI) (d:Option Nat) (o:MOp) (r:List MO) (s:St):VO S q k (.op d o::r) s=vc1 S q (VO S q k r) (fun _=>False) (.op d o) s:=by
 rw[Xl3]
 cases o <;> rfl
theorem Xuc (S:Sx) (q:Bool) (k:List MI) (d:Option Nat) (o:MOp) (r:List MO) (s:St):VO S q k (.opx d o::r) s=vc1 S false (VO S q k r) (fun _=>False) (.op d o) s:=by
 rw[Xl3]
 cases o <;> rfl
theorem Xed {S:Sx} {q:Bool} {k:List MI} {t:Nat} {b:Bool} {d:Option Nat} {x:MO} {r:List MO} {s:St} (h:vc1 S q (VO S q k (x::r)) (VO S q k r) (.chk t b d) s):VO S q k (.chk t b d::x::r) s:=by
 rw[Xl3];exact h
section
variable {S:Sx} {q:Bool} {k:List MI}
theorem Xl4:∀ (l:List V) (t:Nat) (v:V),Xa0 l t=v->Xbv l t v=l
 | [],_,_,_=>rfl
 | _::_,0,_,h=>by simp[Xa0] at h;simp[Xbv,h]
 | _::l,t+1,v,h=>by simp[Xbv,Xl4 l t v (by simpa [Xa0] using h)]
theorem Wfm {o:MOp} {d:Option Nat} {s:St} {K K2:St->Prop} (h:vc1 S q K K2 (.op d o) s) :
  ∃ v own',Ev S o (evO s.fr) s.own v own'/\(q=true->Xsa o=true->own'=s.own)/\K ⟨Xba s.fr d v,own'⟩:=by
 have nq:∀ {o:MOp} {own' own:List Ch},Xsa o=false->q=true->Xsa o=true->own'=own:=fun h1 _ h2=>by rw[h1] at h2;cases h2
 cases o with
 | mv x=>exact⟨_,_,⟨rfl,rfl⟩,nq rfl,h⟩
 | pick c x y =>
  simp only[vc1] at h
  split at h
  ·rename_i b e;exact⟨_,_,⟨rfl,by rw[e]⟩,nq rfl,h⟩
  ·exact h.elim
 | alloc z=>exact⟨_,_,⟨rfl,rfl⟩,nq rfl,h⟩
 | bldN T e=>exact⟨_,_,⟨rfl,rfl⟩,nq rfl,h⟩
 | appS e x y =>
  simp only[vc1] at h
  split at h
  ·rename_i e1 e2
   split at h
   ·rename_i hc;exact⟨_,_,(by simp only[Ev,e1,e2,hc];exact⟨h.1,h.2.1,h.2.2.1,(by trivial),(by trivial)⟩),nq (by trivial),h.2.2.2⟩
   ·exact h.elim
  ·exact h.elim
 | box x=>obtain⟨h1,h2,h3⟩:=h;exact⟨_,_,⟨h1,h2,rfl,rfl⟩,nq rfl,h3⟩
 | ibox x =>
  obtain⟨h1,h2⟩:=h
  split at h2
  ·rename_i ds e;exact⟨_,_,⟨h1,rfl,ds,e,rfl⟩,nq rfl,h2⟩
  ·exact h2.elim
 | build z ps =>
  obtain⟨h1,h2⟩:=h
  split at h2
  ·rename_i cs e;exact⟨_,_,⟨rfl,cs,e,h1,rfl⟩,nq rfl,h2⟩
  ·exact h2.elim
 | bslice sz z n ps =>
  obtain⟨h1,h2,h3,h4,h5⟩:=h
  split at h5
  ·rename_i cs e;exact⟨_,_,⟨rfl,h1,h2,h3,cs,e,h4,rfl⟩,nq rfl,h5⟩
  ·exact h5.elim
 | bslO sz z n ps =>
  obtain⟨h1,h2,h3,h4,h5⟩:=h
  split at h5
  ·rename_i cs e;exact⟨_,_,⟨h1,h2,h3,cs,e,h4,rfl,rfl⟩,nq rfl,h5⟩
  ·exact h5.elim
 | load n ag x =>
  obtain⟨h1,h2⟩:=h
  split at h2
  ·rename_i i off e
   split at h2
   ·rename_i cs hc;exact⟨_,_,⟨(by trivial),h1,by simp only[e,hc];exact⟨h2.1,(by trivial)⟩⟩,nq (by trivial),h2.2⟩
   ·exact h2.elim
  ·rename_i cs e;exact⟨_,_,⟨(by trivial),h1,by simp only[e];exact⟨h2.1,(by trivial)⟩⟩,nq (by trivial),h2.2⟩
  ·rename_i i ver sz e off e'
   split at h2
   ·rename_i sz' ver' xs hc
    obtain⟨e1,e2,x,h3,h4⟩:=h2
    exact⟨_,_,⟨rfl,h1,by simp only[e',hc];exact⟨e1,e2,x,h3.1,h3.2,rfl⟩⟩,nq rfl,(h4).get⟩
   ·rename_i sz' ver' xs hc
    obtain⟨e1,e2,x,h3,h4⟩:=h2
    exact⟨_,_,⟨rfl,h1,by simp only[e',hc];exact⟨e1,e2,x,h3.1,h3.2,rfl⟩⟩,nq rfl,(h4).get⟩
   ·exact h2.elim
  ·rename_i g e
   obtain⟨cells,T,fz,ds,h3,h4⟩:=h2
   exact⟨_,_,⟨rfl,h1,by simp only[e];exact⟨cells,T,fz,ds,h3.1,h3.2.1,h3.2.2,rfl⟩⟩,nq rfl,(h4).get⟩
  ·exact h2.elim
 | store n x y =>
  obtain⟨h1,h2,h3⟩:=h
  split at h3
  ·rename_i i off e
   split at h3
   ·rename_i cs hc;exact⟨_,_,⟨h1,h2,(by trivial),by simp only[e,hc];exact⟨h3.1,h3.2.1,(by trivial)⟩⟩,nq (by trivial),h3.2.2⟩
   ·exact h3.elim
  ·rename_i i ver sz e off e'
   split at h3
   ·rename_i sz' ver' xs hc
    obtain⟨e1,e2,h3⟩:=h3
    split at h3
    ·rename_i ds hds
     obtain⟨x,h3,h4⟩:=h3
     exact⟨_,_,⟨h1,h2,rfl,by simp only[e',hc];exact⟨e1,e2,x,ds,h3.1,h3.2,hds,rfl⟩⟩,nq rfl,(h4).get⟩
    ·exact h3.elim
   ·exact h3.elim
  ·exact h3.elim
 | fad off x =>
  simp only[vc1] at h
  split at h
  ·rename_i e;exact⟨_,_,⟨rfl,by simp only[e]⟩,nq rfl,h⟩
  ·rename_i e;exact⟨_,_,⟨rfl,by simp only[e]⟩,nq rfl,h⟩
  ·rename_i e;exact⟨_,_,⟨rfl,by simp only[e]⟩,nq rfl,h⟩
  ·exact h.elim
 | ild n ag x =>
  obtain⟨h1,h2⟩:=h
  split at h2
  ·rename_i cs e;exact⟨_,_,⟨(by trivial),h1,by simp only[e];exact⟨h2.1,(by trivial)⟩⟩,nq (by trivial),h2.2⟩
  ·exact h2.elim
 | cld n ag x =>
  obtain⟨h1,h2⟩:=h
  split at h2
  ·rename_i i off e
   split at h2
   ·rename_i cs hc;exact⟨_,_,⟨(by trivial),h1,by simp only[e,hc];exact⟨h2.1,(by trivial)⟩⟩,nq (by trivial),h2.2⟩
   ·exact h2.elim
  ·rename_i cs e;exact⟨_,_,⟨(by trivial),h1,by simp only[e];exact⟨h2.1,(by trivial)⟩⟩,nq (by trivial),h2.2⟩
  ·exact h2.elim
 | slcR sz x lo hi =>
  simp only[vc1] at h
  split at h
  ·rename_i j ver e
   split at h
   ·rename_i sz' ver' xs hc
    obtain⟨e1,e2,l,h',h3,h4⟩:=h
    exact⟨_,_,by simp only[Ev,e,hc];exact⟨e1,e2,l,h',h3.1,h3.2.1,h3.2.2.1,h3.2.2.2,(by trivial),(by trivial)⟩,fun _ hq=>(by cases hq),(h4).get⟩
   ·exact h.elim
  ·exact h.elim
 | iadD sz x i =>
  simp only[vc1] at h
  split at h
  ·rename_i e1 e2;obtain⟨cs,h3,h4⟩:=h;exact⟨_,_,⟨rfl,by simp only[e1,e2];exact⟨cs,h3.1,h3.2.1,h3.2.2,rfl⟩⟩,nq rfl,(h4).get⟩
  ·exact h.elim
 | strB x =>
  obtain⟨bs,h1,h2⟩:=h
  exact⟨_,_,⟨rfl,bs,h1.1,h1.2,rfl⟩,nq rfl,h2.get⟩
 | holes ts=>exact⟨_,_,⟨rfl,rfl,h.1⟩,fun _ hq=>(by cases hq),h.2⟩
 | iad sz x i =>
  simp only[vc1] at h
  split at h
  ·rename_i e1 e2;obtain⟨cs,h3,h4⟩:=h;exact⟨_,_,⟨rfl,by simp only[e1,e2];exact⟨cs,h3.1,h3.2.1,h3.2.2,rfl⟩⟩,nq rfl,(h4).get⟩
  ·rename_i e1 e2
   split at h
   ·rename_i hc;exact⟨_,_,⟨(by trivial),by simp only[e1,e2,hc];exact⟨h.1,h.2.1,h.2.2.1,h.2.2.2.1,(by trivial)⟩⟩,nq (by trivial),h.2.2.2.2⟩
   ·rename_i hc;exact⟨_,_,⟨(by trivial),by simp only[e1,e2,hc];exact⟨h.1,h.2.1,h.2.2.1,h.2.2.2.1,(by trivial)⟩⟩,nq (by trivial),h.2.2.2.2⟩
   ·exact h.elim
  ·exact h.elim
 | iadA len sz x i =>
  simp only[vc1] at h
  split at h
  ·rename_i e1 e2;obtain⟨m,h3,h4⟩:=h;exact⟨_,_,⟨rfl,by simp only[e1,e2];exact⟨m,h3.1,h3.2,rfl⟩⟩,nq rfl,(h4).get⟩
  ·rename_i e1 e2;obtain⟨m,h3,h4⟩:=h;exact⟨_,_,⟨rfl,by simp only[e1,e2];exact⟨m,h3.1,h3.2,rfl⟩⟩,nq rfl,(h4).get⟩
  ·rename_i e1 e2;obtain⟨m,cells,T,fz,ds,h3,h4⟩:=h;exact⟨_,_,⟨rfl,by simp only[e1,e2];exact⟨m,cells,T,fz,ds,h3.1,h3.2.1,h3.2.2.1,h3.2.2.2,rfl⟩⟩,nq rfl,(h4).get⟩
  ·exact h.elim
 | idxS x i =>
  simp only[vc1] at h
  split at h
  ·rename_i e1 e2;obtain⟨m,b,h3,h4⟩:=h;exact⟨_,_,⟨rfl,by simp only[e1,e2];exact⟨m,b,h3.1,h3.2,rfl⟩⟩,nq rfl,(h4).get⟩
  ·exact h.elim
 | len kd x =>
  simp only[vc1] at h
  split at h
  ·rename_i e;exact⟨_,_,⟨rfl,by simp only[X0w,e]⟩,nq rfl,h⟩
  ·rename_i e;exact⟨_,_,⟨rfl,by simp only[X0w,e]⟩,nq rfl,h⟩
  ·rename_i e
   split at h
   ·rename_i hc;exact⟨_,_,⟨(by trivial),by simp only[X0w,e,hc];exact⟨h.1,(by trivial)⟩⟩,nq (by trivial),h.2⟩
   ·rename_i hc;exact⟨_,_,⟨(by trivial),by simp only[X0w,e,hc];exact⟨h.1,(by trivial)⟩⟩,nq (by trivial),h.2⟩
   ·exact h.elim
  ·rename_i e
   split at h
   ·rename_i hc;exact⟨_,_,⟨rfl,by simp only[X0w,e,hc]⟩,nq rfl,h⟩
   ·exact h.elim
  ·exact h.elim
 | app e sz bytes x y =>
  simp only[vc1] at h
  split at h
  ·rename_i e1 e2;exact⟨_,_,(by simp only[Ev,e1,e2];exact⟨h.1,h.2.1,h.2.2.1,h.2.2.2.1,(by trivial),(by trivial)⟩),nq (by trivial),h.2.2.2.2⟩
  ·rename_i e1 e2
   split at h
   ·rename_i hc;exact⟨_,_,(by simp only[Ev,e1,e2,hc];exact⟨h.1,h.2.1,h.2.2.1,h.2.2.2.1,h.2.2.2.2.1,(by trivial),(by trivial)⟩),nq (by trivial),h.2.2.2.2.2⟩
   ·rename_i hc
    obtain⟨h1,h2,g1,g2,h3,h4,cs,h5,h6⟩:=h
    exact⟨_,_,(by simp only[Ev,e1,e2,hc];exact⟨h1,h2,g1,g2,h3,h4,cs,h5,(by trivial),(by trivial)⟩),nq (by trivial),h6.get⟩
   ·exact h.elim
  ·exact h.elim
 | min x y =>
  simp only[vc1] at h
  split at h
  ·rename_i e1 e2;exact⟨_,_,⟨rfl,by simp only[e1,e2]⟩,nq rfl,h⟩
  ·exact h.elim
 | max x y =>
  simp only[vc1] at h
  split at h
  ·rename_i e1 e2;exact⟨_,_,⟨rfl,by simp only[e1,e2]⟩,nq rfl,h⟩
  ·exact h.elim
 | bin kd o x y=>exact⟨_,_,⟨rfl,h.1,rfl⟩,nq rfl,h.2⟩
 | eqs neg ks x y =>
  simp only[vc1] at h
  split at h
  ·rename_i e1 e2
   split at h
   ·rename_i e he;exact⟨_,_,⟨rfl,by simp only[e1,e2];exact⟨e,he,rfl⟩⟩,nq rfl,h⟩
   ·exact h.elim
  ·exact h.elim
 | nilq kd neg x =>
  simp only[vc1] at h
  split at h
  ·rename_i b e;exact⟨_,_,⟨rfl,b,e,rfl⟩,nq rfl,h⟩
  ·exact h.elim
 | not x =>
  simp only[vc1] at h
  split at h
  ·rename_i e;exact⟨_,_,⟨rfl,by simp only[e]⟩,nq rfl,h⟩
  ·exact h.elim
 | conv kk x =>
  simp only[vc1] at h
  split at h
  ·rename_i kq n e
   refine⟨_,_,⟨rfl,?_⟩,nq rfl,h.2⟩
   simp only[e]
   split
   ·rfl
   ·rename_i hw
    rw[Xg5 (h.1.resolve_left hw)]
  ·exact h.elim
 | mkI t x =>
  simp only[vc1] at h
  split at h
  ·rename_i a e;exact⟨_,_,⟨rfl,a,e,rfl⟩,nq rfl,h⟩
  ·exact h.elim
 | mkF f caps =>
  simp only[vc1] at h
  split at h
  ·rename_i a e;exact⟨_,_,⟨rfl,a,e,rfl⟩,nq rfl,h⟩
  ·exact h.elim
 | mkMv f x =>
  simp only[vc1] at h
  split at h
  ·rename_i a e;exact⟨_,_,⟨rfl,a,e,rfl⟩,nq rfl,h⟩
  ·exact h.elim
 | mkM=>exact⟨_,_,⟨rfl,rfl⟩,nq rfl,h⟩
 | lkp ok z kag ks m kx =>
  obtain⟨h1,h⟩:=h
  split at h
  ·rename_i j e
   split at h
   ·rename_i es hc
    obtain⟨e',h2,h3⟩:=h
    exact⟨_,_,⟨rfl,e',_,by simp only[e,hc];exact h2.1,h1,rfl,h2.2,rfl⟩,nq rfl,(h3).get⟩
   ·exact h.elim
  ·rename_i e;exact⟨_,_,⟨rfl,none,_,by simp only[e],h1,rfl,h.1,rfl⟩,nq rfl,h.2⟩
  ·exact h.elim
 | mupd kag ks m kx x =>
  obtain⟨h1,h2,h3,h⟩:=h
  split at h
  ·rename_i j e
   split at h
   ·rename_i es hc
    obtain⟨e',h4,h5⟩:=h
    exact⟨_,_,⟨rfl,h1,h2,h3,by simp only[e,hc];exact⟨e',h4,rfl⟩⟩,nq rfl,(h5).get⟩
   ·exact h.elim
  ·exact h.elim
 | mkS sz bytes z l =>
  simp only[vc1] at h
  split at h
  ·rename_i e;exact⟨_,_,(by simp only[Ev,e];exact⟨h.1,h.2.1,h.2.2.1,h.2.2.2.1,h.2.2.2.2.1,(by trivial),(by trivial)⟩),nq (by trivial),h.2.2.2.2.2⟩
  ·exact h.elim
 | slcS x lo hi =>
  simp only[vc1] at h
  split at h
  ·rename_i e;obtain⟨l,u,h1,h2⟩:=h;exact⟨_,_,⟨rfl,by simp only[e];exact⟨l,u,h1.1,h1.2.1,h1.2.2.1,h1.2.2.2,rfl⟩⟩,nq rfl,(h2).get⟩
  ·exact h.elim
 | slc sz x lo hi =>
  simp only[vc1] at h
  split at h
  ·rename_i e;obtain⟨l,u,h1,h2⟩:=h;exact⟨_,_,(by simp only[Ev,e];exact⟨(by trivial),l,u,h1.1,h1.2.1,h1.2.2.1,h1.2.2.2.1,h1.2.2.2.2,(by trivial)⟩),fun _ _=>(by trivial),(h2).get⟩
  ·rename_i e
   split at h
   ·rename_i hc
    obtain⟨hq,e1,e2,l,u,h1,h2⟩:=h
    exact⟨_,_,(by simp only[Ev,e,hc];exact⟨e1,e2,l,u,h1.1,h1.2.1,h1.2.2.1,h1.2.2.2,(by trivial),(by trivial)⟩),(fun h3 _=>by rw[hq] at h3;cases h3),(h2).get⟩
   ·exact h.elim
  ·exact h.elim
 | ext x i =>
  simp only[vc1] at h
  split at h
  ·rename_i e;exact⟨_,_,⟨(by trivial),by simp only[e];exact⟨(by trivial),h.1⟩⟩,nq (by trivial),h.2⟩
  ·exact h.elim
 | rng x =>
  simp only[vc1] at h
  split at h
  ·rename_i e;exact⟨_,_,(by simp only[Ev,e];exact⟨(by trivial),(by trivial)⟩),nq (by trivial),h⟩
  ·exact h.elim
 | nxt x =>
  simp only[vc1] at h
  split at h
  ·rename_i e
   split at h
   ·rename_i st pos hc
    by_cases hp:pos < st.size
    ·exact⟨_,_,(by simp only[Ev,e,hc,hp,if_true];exact⟨(by trivial),(by trivial)⟩),nq rfl,(h.1 hp).get⟩
    ·exact⟨_,_,(by simp only[Ev,e,hc,hp,if_false];exact⟨(by trivial),(by trivial)⟩),nq rfl,(h.2 hp).get⟩
   ·exact h.elim
  ·exact h.elim
 | tas t ok z x =>
  simp only[vc1] at h
  split at h
  ·rename_i t' ag cs e
   by_cases ht:t'=t
   ·exact⟨_,_,⟨rfl,by simp only[e,if_pos ht]⟩,nq rfl,h.1 ht⟩
   ·exact⟨_,_,⟨rfl,by simp only[e,if_neg ht];exact⟨(h.2 ht).1,(h.2 ht).2.1,(by trivial)⟩⟩,nq rfl,(h.2 ht).2.2⟩
  ·rename_i e;exact⟨_,_,⟨(by trivial),by simp only[e];exact⟨h.1,h.2.1,(by trivial)⟩⟩,nq (by trivial),h.2.2⟩
  ·exact h.elim
 | idxA len x i =>
  simp only[vc1] at h
  split at h
  ·rename_i e1 e2;obtain⟨m,c,h3,h4⟩:=h;exact⟨_,_,⟨rfl,by simp only[e1,e2];exact⟨m,c,h3.1,h3.2.1,h3.2.2,rfl⟩⟩,nq rfl,(h4).get⟩
  ·exact h.elim
 | nck x =>
  simp only[vc1] at h
  split at h
  ·rename_i e;exact⟨_,_,⟨rfl,rfl,e⟩,nq rfl,h⟩
  ·exact h.elim
 | cpy sz x y =>
  simp only[vc1] at h
  split at h
  ·rename_i e1 e2
   split at h
   ·rename_i hc
    exact⟨_,_,(by simp only[Ev,e1,e2,hc];exact⟨h.2.1,h.2.2.1,h.1,h.2.2.2.1,(by trivial),(by trivial)⟩),nq (by trivial),h.2.2.2.2⟩
   ·exact h.elim
  ·exact h.elim
 | call f args =>
  rcases h with ⟨v,h1,h2⟩|⟨_,hq,j,v0,c',h1,h2⟩|⟨_,hq,js,v0,post,h1,h2⟩
  ·exact⟨v,_,.inl ⟨rfl,h1.to⟩,fun _ _=>rfl,(h2).get⟩
  ·exact⟨_,_,.inr (.inl ⟨j,v0,c',rfl,rfl,h1.to.2⟩),(fun h3 _=>by rw[hq] at h3;cases h3),(h2).get⟩
  ·exact⟨_,_,.inr (.inr ⟨_,rfl,h1.len,js,v0,post,h1,rfl,rfl⟩),(fun h3 _=>by rw[hq] at h3;cases h3),(h2).get⟩
 | appF e sz bytes x y =>
  simp only[vc1] at h
  split at h
  ·rename_i e1 e2
   split at h
   ·rename_i hc;exact⟨_,_,(by simp only[Ev,e1,e2,hc];exact⟨h.1,h.2.1,h.2.2.1,h.2.2.2.1,h.2.2.2.2.1,(by trivial),(by trivial)⟩),nq (by trivial),h.2.2.2.2.2⟩
   ·exact h.elim
  ·exact h.elim
 | callN f args =>
  obtain⟨v0,post,h1,h2⟩:=h
  exact⟨_,_,⟨_,rfl,v0,post,h1,rfl,rfl⟩,nq rfl,(h2).get⟩
 | callv g args =>
  simp only[vc1] at h
  split at h
  ·rename_i f l e
   rcases h with ⟨v,h1,h2⟩|⟨_,hq,j,v0,c',h1,h2⟩|⟨_,hq,js,v0,post,h1,h2⟩
   ·exact⟨v,_,.inl ⟨f,l,e,.inl ⟨rfl,h1.to⟩⟩,fun _ _=>rfl,(h2).get⟩
   ·exact⟨_,_,.inl ⟨f,l,e,.inr (.inl ⟨j,v0,c',rfl,rfl,h1.to.1,h1.to.2⟩)⟩,(fun h3 _=>by rw[hq] at h3;cases h3),(h2).get⟩
   ·exact⟨_,_,.inl ⟨f,l,e,.inr (.inr ⟨_,rfl,h1.len,js,v0,post,h1,rfl,rfl⟩)⟩,(fun h3 _=>by rw[hq] at h3;cases h3),(h2).get⟩
  ·split at h
   ·rename_i l fs cs e
    obtain⟨rfl,rfl,hq,own1,b,hl,h1,h2⟩:=h
    exact⟨_,_,.inr ⟨l,own1,b,e,rfl,hl,rfl,h1⟩,(fun h3 _=>by rw[hq] at h3;cases h3),(h2).get⟩
   ·exact h.elim
theorem Xh2:∀ {rs:List Rc} {s:St},VO S q k (Xfb rs) s->Xng S q (G S k) rs s
 | [],_,h=>h
 | ⟨none,d,o,fx⟩::rs,s,h=>by
  have h:vc1 S (if fx then false else q) (VO S q k (Xfb rs)) (fun _=>False) (.op d o) s:=by
   cases fx with
   | false=>simp only[Xfb] at h;rw[Yif] at h;exact h
   | true=>simp only[Xfb] at h;rw[Xuc] at h;exact h
  obtain⟨v,own',h1,h2,h3⟩:=Wfm (o:=o) (d:=d) (K:=VO S q k (Xfb rs)) h
  exact .inl ⟨v,own',by simp,h1,fun hq hf=>by subst hf;exact h2 (by simpa using hq),Xh2 h3⟩
 | ⟨some (t,b),d,o,fx⟩::rs,s,h=>by
  have h:vc1 S q (VO S q k ((if fx then .opx d o else .op d o)::Xfb rs)) (VO S q k (Xfb rs)) (.chk t b d) s:=by
   cases fx with
   | false=>simp only[Xfb] at h;rw[Xl3] at h;exact h
   | true=>simp only[Xfb] at h;rw[Xl3] at h;exact h
  simp only[vc1] at h
  split at h
  ·rename_i c hc
   by_cases hcb:c=b
   ·have h:=h.1 hcb
    rw[Xl4 _ _ _ (by rw[hc,hcb])] at h
    have h:vc1 S (if fx then false else q) (VO S q k (Xfb rs)) (fun _=>False) (.op d o) s:=by
     cases fx with
     | false=>simp only[Bool.false_eq_true,if_false] at h;rw[Yif] at h;exact h
     | true=>simp only[if_true] at h;rw[Xuc] at h;exact h
    obtain⟨v,own',h1,h2,h3⟩:=Wfm (o:=o) (d:=d) (K:=VO S q k (Xfb rs)) h
    exact .inl ⟨v,own',fun t' b' e=>by cases e;rw[hc,hcb],h1,fun hq hf=>by subst hf;exact h2 (by simpa using hq),Xh2 h3⟩
   ·have h:=h.2 hcb
    rw[Xl4 _ _ _ (by rw[hc];cases b <;> cases c <;> first|rfl|exact absurd rfl hcb)] at h
    exact .inr ⟨t,b,rfl,.inr ⟨c,hc,hcb⟩,Xh2 h⟩
  ·rename_i hc;exact .inr ⟨t,b,rfl,.inl hc,Xh2 h⟩
  ·exact h.elim
end
end Go.Fw
namespace Go.Fw
open Go
section
variable {S:Sx} {Y:Dyn} {k:List MI} {s:St} {a:Act} {w:World} {m m':MC} {P:Program} {hs:List Nat} {c:Code}
theorem Xbe {id:Nat} {ops:Array Oper} {d:Bool} (h:trC P hs (.region id ops d)=some m):(∃ l,m=.reg d l)\/(∃ l,m=.regv l)\/∃ l,m=.regw l:=by
 simp only[trC] at h
 split at h
 ·exact .inl ⟨_,(Option.some.inj h).symm⟩
 ·split at h
  ·exact .inr (.inl ⟨_,(Option.some.inj h).symm⟩)
  ·obtain⟨l,_,e⟩:=Option.map_eq_some_iff.1 h
   exact .inr (.inr ⟨l,e.symm⟩)
theorem Ywf {d:Bool} {l:List MO} (h:trC P hs c=some (.reg d l)):∃ id ops,c=.region id ops d/\trR P hs ops d=some l:=by
 cases c with
 | region id ops d0 =>
  simp only[trC] at h
  split at h
  ·rename_i l0 e
   cases h
   exact⟨_,_,rfl,e⟩
  ·split at h
   ·cases h
   ·obtain⟨l,_,e⟩:=Option.map_eq_some_iff.1 h
    cases e
 | _=>simp[trC,Option.bind_eq_some_iff] at h
theorem Yig {l:List MO} (h:trC P hs c=some (.regw l)):∃ id ops d,c=.region id ops d/\trW P hs ops d=some l:=by
 cases c with
 | region id ops d0 =>
  simp only[trC] at h
  split at h
  ·cases h
  ·split at h
   ·cases h
   ·obtain⟨l,e,e'⟩:=Option.map_eq_some_iff.1 h
    cases e'
    exact⟨_,_,_,rfl,e⟩
 | _=>simp[trC,Option.bind_eq_some_iff] at h
theorem Ywg {x y:MC} (h:trC P hs c=some (.seq x y)):∃ a b,c=.seq a b/\trC P hs a=some x/\trC P hs b=some y:=by
 cases c <;> first|(rcases Xbe h with ⟨_,e⟩|⟨_,e⟩|⟨_,e⟩ <;> cases e;done)|simp[trC,Option.bind_eq_some_iff] at h
 exact⟨_,_,rfl,h.1,h.2⟩
theorem Yih {o:Opd} {x y:MC} (h:trC P hs c=some (.cond o x y)):∃ t a b,c=.cond t a b/\Xae t=o/\trC P hs a=some x/\trC P hs b=some y:=by
 cases c <;> first|(rcases Xbe h with ⟨_,e⟩|⟨_,e⟩|⟨_,e⟩ <;> cases e;done)|simp[trC,Option.bind_eq_some_iff] at h
 obtain⟨_,h1,_,h2,h3,rfl,rfl⟩:=h
 exact⟨_,_,_,rfl,h3,h1,h2⟩
theorem Ywh {id:Nat} {x:MC} (h:trC P hs c=some (.blk id x)):∃ b,c=.block id b/\trC P hs b=some x:=by
 cases c <;> first|(rcases Xbe h with ⟨_,e⟩|⟨_,e⟩|⟨_,e⟩ <;> cases e;done)|simp[trC,Option.bind_eq_some_iff] at h
 obtain⟨h1,rfl⟩:=h
 exact⟨_,rfl,h1⟩
theorem Xud {x:MC} (h:trC P hs c=some (.loop x)):∃ b,c=.loop b/\trC P hs b=some x:=by
 cases c <;> first|(rcases Xbe h with ⟨_,e⟩|⟨_,e⟩|⟨_,e⟩ <;> cases e;done)|simp[trC,Option.bind_eq_some_iff] at h
 exact⟨_,rfl,h⟩
theorem X1u {x:MC} (h:trC P hs c=some (.scope x)):∃ b,c=.scope b/\trC P hs b=some x:=by
 cases c <;> first|(rcases Xbe h with ⟨_,e⟩|⟨_,e⟩|⟨_,e⟩ <;> cases e;done)|simp[trC,Option.bind_eq_some_iff] at h
 exact⟨_,rfl,h⟩
theorem Yii {id:Nat} (h:trC P hs c=some (.exit id)):c=.exit id:=by
 cases c <;> first|(rcases Xbe h with ⟨_,e⟩|⟨_,e⟩|⟨_,e⟩ <;> cases e;done)|simp[trC,Option.bind_eq_some_iff] at h
 rw[h]
theorem X1v (h:trC P hs c=some .ret):c=.ret:=by
 cases c <;> first|(rcases Xbe h with ⟨_,e⟩|⟨_,e⟩|⟨_,e⟩ <;> cases e;done)|simp[trC,Option.bind_eq_some_iff] at h
 rfl
theorem Yij (h:trC P hs c=some .skip):c=.skip\/∃ l,c=.label l:=by
 cases c <;> first|(rcases Xbe h with ⟨_,e⟩|⟨_,e⟩|⟨_,e⟩ <;> cases e;done)|simp[trC,Option.bind_eq_some_iff] at h
 ·exact .inl rfl
 ·exact .inr ⟨_,rfl⟩
theorem Ywi {x:MC} {Q:Exit->Act->World->Prop} {P':Act->World->Prop} (hP:∀ a w,Mx S Y (.code x::k) .normal a w->P' a w) (hQ:∀ e a w,e≠.normal->Mx S Y k e a w->Q e a w) :
  ∀ e a w,Mx S Y (.code x::k) e a w->Exit.then P' Q e a w:=by
 intro e a w h
 cases e with
 | normal=>exact hP a w h
 | _=>exact hQ _ a w (by simp) h
theorem Xhi {d:Bool} {l:List MO} (h:VO S d k l s):G S (.code (.reg d l)::k) s:=by
 intro Y a w hs hs' c hc
 obtain⟨id,ops,rfl,hr⟩:=Ywf hc
 cases d with
 | false =>
  simp only[trR,Option.map_eq_some_iff] at hr
  obtain⟨rs,ht,rfl⟩:=hr
  refine wpIn_region ?_
  have:=Xt7 (Q:=Mx S Y k) (ops:=ops) (K:=G S k) (fun s a w hs hk=>hk Y a w hs) ops.toList 0 rs s a w (by simp) ht (Xh2 h) hs
  rwa [Array.length_toList,<- List.range_eq_range'] at this
 | true =>
  simp only[trR,Option.bind_eq_some_iff] at hr
  obtain⟨rs,ht,hr⟩:=hr
  split at hr
  ·rename_i hchk
   cases hr
   simp only[Bool.and_eq_true] at hchk
   obtain⟨⟨hm,he⟩,hd⟩:=hchk
   refine wpIn_region_any hm ?_
   obtain⟨vs,os,h0,hK,hst⟩:=(Xh2 h).trace
   obtain⟨H,an,F,ms,hsx⟩:=hs
   have hD:∀ i,(Array.replicate ops.size false).getD i false=false:=fun i=>by
    simp only[Array.getD_eq_getD_getElem?,Array.getElem?_replicate]
    split <;> rfl
   refine Xzj (X1r _ _) he hd ht rfl hst (fun a w hs=>hK Y a w hs) ops.size _ 0 a _ (by simp) (by simp) ⟨fun k i hk=>(by simp only[hD] at hk;cases hk),fun i r _ _=>(by simp only[hD];simp),Nat.zero_le _⟩ ?_
   rw[Xe8 _ _ _ _ hD,h0]
   exact⟨H,an,F,ms,hsx.drawn _⟩
  ·cases hr
theorem Xzl {x y:MC} (h:G S (.code x::.code y::k) s):G S (.code (.seq x y)::k) s:=by
 intro Y a w hs hs' c hc
 obtain⟨c1,c2,rfl,h1,h2⟩:=Ywg hc
 refine wpIn_seq (wpIn_mono (h Y a w hs hs' c1 h1) ?_)
 exact Ywi (fun a w hm=>hm hs' c2 h2) (fun _ _ _ _ h=>h)
theorem Xee {o:Opd} {x y:MC} (h:match evO s.fr o with
  | .one (.d (.bool t))=>(t=true->G S (.code x::k) s)/\(t=false->G S (.code y::k) s)
  | _=>False):G S (.code (.cond o x y)::k) s:=by
 intro Y a w hs hs' c hc
 obtain⟨t,c1,c2,rfl,rfl,h1,h2⟩:=Yih hc
 split at h
 ·rename_i b e
  obtain⟨H,an,F,ms,hx⟩:=hs
  have hb:=Xd7 (e ▸ hx.ev t)
  refine wpIn_cond_split hb (fun hb=>?_) (fun hb=>?_)
  ·exact h.1 hb Y a w ⟨H,an,F,ms,hx⟩ hs' c1 h1
  ·exact h.2 hb Y a w ⟨H,an,F,ms,hx⟩ hs' c2 h2
 ·exact h.elim
theorem Wsa {id:Nat} {x:MC} (h:G S (.code x::.blk id::k) s):G S (.code (.blk id x)::k) s:=by
 intro Y a w hs hs' c hc
 obtain⟨c1,rfl,h1⟩:=Ywh hc
 refine wpIn_block (wpIn_mono (h Y a w hs hs' c1 h1) ?_)
 intro e a w hm
 cases e <;> exact hm
theorem X1w {id:Nat} (h:G S k s):G S (.blk id::k) s:=fun Y a w hs=>h Y a w hs
theorem Wfn (h:G S k s):G S (.code .skip::k) s:=by
 intro Y a w hs hs' c hc
 rcases Yij hc with rfl|⟨l,rfl⟩
 ·exact wpIn_skip (h Y a w hs)
 ·exact wpIn_label (h Y a w hs)
def Xqv (id:Nat):List MI->Option (List MI)
 | .code _::k=>Xqv id k
 | .blk i::k=>if i=id then some k else Xqv id k
 | .again _::k=>Xqv id k
 | _=>none
theorem Xg8 {id:Nat}:∀ {k k':List MI},Xqv id k=some k'->∀ Y a w,Mx S Y k' .normal a w->Mx S Y k (.exit id) a w
 | .code _::k,k',h,Y,a,w,hm=>Xg8 (k:=k) h Y a w hm
 | .again _::k,k',h,Y,a,w,hm=>Xg8 (k:=k) h Y a w hm
 | .blk i::k,k',h,Y,a,w,hm=>by
  simp only[Xqv] at h
  split at h
  ·rename_i e
   cases h
   subst e
   simpa [Mx] using hm
  ·rename_i e
   simp only[Mx]
   rw[if_neg (fun e'=>e e'.symm)]
   exact Xg8 h Y a w hm
 | .rnd _::_,_,h,_,_,_,_=>by cases h
 | .fin::_,_,h,_,_,_,_=>by cases h
 | [],_,h,_,_,_,_=>by cases h
theorem Xc3 {id:Nat} {k':List MI} (he:Xqv id k=some k') (h:G S k' s):G S (.code (.exit id)::k) s:=by
 intro Y a w hs hs' c hc
 rw[Yii hc]
 exact wpIn_exit (Xg8 he Y a w (h Y a w hs))
def Ywj:List MI->Option (List MI)
 | .code _::k=>Ywj k
 | .blk _::k=>Ywj k
 | .again _::k=>Ywj k
 | .fin::k=>some (.fin::k)
 | .rnd p::k=>some (.rnd p::k)
 | []=>none
theorem Xgt:∀ {k k':List MI},Ywj k=some k'->∀ Y a w,Mx S Y k' .ret a w->Mx S Y k .ret a w
 | .code _::k,k',h,Y,a,w,hm=>Xgt (k:=k) h Y a w hm
 | .again _::k,k',h,Y,a,w,hm=>Xgt (k:=k) h Y a w hm
 | .blk i::k,k',h,Y,a,w,hm=>Xgt (k:=k) h Y a w hm
 | .rnd _::_,_,h,_,_,_,hm=>by cases h;exact hm
 | .fin::_,_,h,_,_,_,hm=>by cases h;exact hm
 | [],_,h,_,_,_,_=>by cases h
def We3 (S:Sx) (s:St):Prop:=match X0u s S.rs with
 | some res=>S.R res.nrm2 s.own\/(S.np=0/\res.refsT=[]/\S.R res.nrm2 [])
 | none=>False
theorem We3.x {e:Exit} (h:We3 S s) (he:e=.normal\/e=.ret) {Y:Dyn} {a:Act} {w:World} (hs:Sat S Y s a w):Mx S Y (.fin::k) e a w:=by
 unfold We3 at h
 split at h
 ·rename_i res hr;exact⟨he,s,res,hs,hr,h⟩
 ·exact h.elim
theorem Xhj {k':List MI} (he:Ywj k=some (.fin::k')) (h:We3 S s):G S (.code .ret::k) s:=by
 intro Y a w hs hs' c hc
 rw[X1v hc]
 exact wpIn_ret (Xgt he Y a w (h.x (.inr rfl) hs))
theorem Xhk (h:We3 S s):G S (.fin::k) s:=fun _ _ _ hs=>h.x (.inl rfl) hs
theorem Xor {p:Exit->St->Prop} (h:p .normal s):G S (.rnd p::k) s:=fun _ _ _ hs=>⟨.inl rfl,s,hs,h⟩
theorem X1x {p:Exit->St->Prop} {k':List MI} (he:Ywj k=some (.rnd p::k')) (h:p .ret s):G S (.code .ret::k) s:=by
 intro Y a w hs hs' c hc
 rw[X1v hc]
 exact wpIn_ret (Xgt he Y a w ⟨.inr (.inl rfl),s,hs,h⟩)
theorem Xdd {p:St->Prop} (h:p s):G S (.again p::k) s:=fun _ _ _ hs=>⟨s,hs,h⟩
theorem Xd8 {p:Nat->Prop} (h:∃ n,p n):∃ n,p n/\∀ m,p m->n<=m:=by
 obtain⟨n,hn⟩:=h
 induction n using Nat.strongRecOn with
 | _ n ih =>
  by_cases hx:∃ m,m < n/\p m
  ·obtain⟨m,hm,hp⟩:=hx;exact ih m hm hp
  ·exact⟨n,hn,fun m hm=>by
    rcases Nat.lt_or_ge m n with h|h
    ·exact absurd ⟨m,h,hm⟩ hx
    ·exact h⟩
open Classical in
theorem Xe9 {x:MC} (I:Nat->St->Prop) (n:Nat) (h0:I n s) (h:∀ n s,I n s->G S (.code x::.again (fun s'=>∃ n',n' < n/\I n' s')::k) s):G S (.code (.loop x)::k) s:=by
 intro Y a w hs hs' c hc
 obtain⟨b,rfl,hb⟩:=Xud hc
 let J:Act->World->Prop:=fun a w=>∃ n s,I n s/\Sat S Y s a w
 let μ:Act->World->Nat:=fun a w=>if h:∃ n s,I n s/\Sat S Y s a w then Classical.choose (Xd8 h) else 0
 refine wpIn_loop J μ ⟨n,s,h0,hs⟩ fun a w hJ=>?_
 have hμ:μ a w=Classical.choose (Xd8 hJ):=dif_pos hJ
 obtain⟨⟨s1,hI,hs1⟩,_⟩:=Classical.choose_spec (Xd8 hJ)
 refine wpIn_mono (h _ s1 hI Y a w hs1 hs' b hb) ?_
 intro e a' w' hm
 cases e with
 | normal =>
  obtain⟨s2,hs2,n',hlt,hI2⟩:=hm
  have hJ':J a' w':=⟨n',s2,hI2,hs2⟩
  refine⟨hJ',?_⟩
  have hμ':μ a' w'=Classical.choose (Xd8 hJ'):=dif_pos hJ'
  rw[hμ,hμ']
  exact Nat.lt_of_le_of_lt ((Classical.choose_spec (Xd8 hJ')).2 _ ⟨s2,hI2,hs2⟩) hlt
 | _=>exact hm
end
end Go.Fw
namespace Go.Fw
open Go
section
variable {S:Sx} {Y:Dyn} {s:St} {a:Act} {w w':World} {H:Xag} {an:Anc} {F:Nat->Nat->Prop} {ms:List Nat}
theorem X1y {x:V} {u:Value} (h:Xaw H an x u) (hx:∀ l,x≠.tup l):Xar H an x u:=by
 cases x with
 | tup l=>exact absurd rfl (hx l)
 | _=>exact h
theorem Ywk {x:V} {u:Value} (h:Xar H an x u):Xaw H an x u:=by
 cases x with
 | tup l=>exact h.elim
 | _=>exact h
theorem Ywl {ag:Bool} {l:List A}:∀ m,mkV ag l≠.tup m:=by
 intro m
 unfold mkV
 split <;> simp
def Xl5 (ρ:Array Value):ResultVar->Sem Value
 | .tmp t=>pure (ρ.getD t undef)
 | .cell b t=>do loadVar t (<- asAddr (ρ.getD b undef))
theorem Xir {P:Program} {r:ResultVar} {l:List ResultVar} {m:List RV} (h:Xnf P (r::l)=some m):∃ rv m',m=rv::m'/\Xnf P [r]=some [rv]/\Xnf P l=some m':=by
 cases r with
 | tmp t =>
  simp only[Xnf,Option.map_eq_some_iff] at h
  obtain⟨m',h1,rfl⟩:=h
  exact⟨_,_,rfl,rfl,h1⟩
 | cell b t =>
  simp only[Xnf,Option.bind_eq_some_iff] at h
  obtain⟨n,hn,h⟩:=h
  split at h
  ·rename_i hag
   simp only[Option.map_eq_some_iff] at h
   obtain⟨m',h1,rfl⟩:=h
   exact⟨_,_,rfl,by simp only[Xnf,hn,Option.bind_some,Option.map_some];rw[if_pos hag],h1⟩
  ·cases h
theorem X1z {r:ResultVar} {rv:RV} {x:V} (h:SatX S Y s a w H an F ms) (hr:Xnf S.P [r]=some [rv]) (hx:Wez s rv=some x) :
  ∃ u,(Xl5 a.tmps r).run S.P w=.ok u w/\Xar H an x u:=by
 cases r with
 | tmp t =>
  simp only[Xnf,Option.map_some,Option.some.injEq,List.cons.injEq,and_true] at hr
  subst hr
  refine⟨a.tmps.getD t undef,by simp only[Xl5,Sem.run_pure],?_⟩
  simp only[Wez] at hx
  have:=h.ev (.tmp t)
  simp only[Xae,evO,Act.eval] at this
  split at hx
  ·cases hx
  ·rename_i hn
   cases hx
   exact X1y this hn
 | cell b t =>
  simp only[Xnf,Option.bind_eq_some_iff] at hr
  obtain⟨n,hn,hr⟩:=hr
  split at hr
  ·rename_i hag
   simp only[Option.map_some,Option.some.injEq,List.cons.injEq,and_true] at hr
   subst hr
   have hag':isAggB S.P t=true\/n=1:=by simpa using hag
   simp only[Wez] at hx
   split at hx
   ·rename_i i off e
    split at hx
    ·rename_i cs hc
     split at hx
     ·rename_i hle
      cases hx
      have hb:=h.ev (.tmp b)
      simp only[Xae,evO,Act.eval] at hb
      obtain⟨g,T,vs,hg,hF,hw,hd⟩:=h.box hc
      rw[e] at hb
      have hu:=h.ptr hg hb
      have hlv:=hd.length
      refine⟨if isAggB S.P t then .agg ((vs.drop off).take n).toArray else ((vs.drop off).take n).headD undef,?_,X1y (X0z ((hd.drop off).take n) (hag'.imp id fun e=>by simp;omega)) Ywl⟩
      simp only[Xl5,hu,asAddr,Sem.run_bind,Sem.run_pure,Result.andThen_ok]
      refine run_loadVar' hn hag' g off ((vs.drop off).take n) (by simp;omega) fun j q hq=>?_
      rw[cell_of_heap hw]
      rw[List.getElem?_take] at hq
      split at hq
      ·rw[List.getElem?_drop] at hq;simpa using hq
      ·cases hq
     ·cases hx
    ·cases hx
   ·cases hx
  ·cases hr
theorem Xue (h:SatX S Y s a w H an F ms):∀ {l:List ResultVar} {m:List RV} {xs:List V},Xnf S.P l=some m->We0 s m=some xs ->
  ∃ us,(l.mapM (Xl5 a.tmps)).run S.P w=.ok us w/\Xaq (Xar H an) xs us/\us.length=l.length
 | [],m,xs,hr,hx=>by
  simp[Xnf] at hr;subst hr
  simp[We0] at hx;subst hx
  exact⟨[],by simp,trivial,rfl⟩
 | r::l,m,xs,hr,hx=>by
  obtain⟨rv,m',rfl,h1,h2⟩:=Xir hr
  simp only[We0] at hx
  split at hx
  ·rename_i x m hx1 hx2
   cases hx
   obtain⟨u,hu,hd⟩:=X1z h h1 hx1
   obtain⟨us,hus,hds,hl⟩:=Xue h h2 hx2
   exact⟨u::us,by simp only[List.mapM_cons,Sem.run_bind,hu,Result.andThen_ok,hus,Sem.run_pure],⟨hd,hds⟩,by simp[hl]⟩
  ·cases hx
theorem Xsq {fn:Func} {res:V} (h:SatX S Y s a w H an F ms) (hr:Xnf S.P fn.results.toList=some S.rs) (hx:X0u s S.rs=some res) :
  ∃ u,(results fn a.tmps).run S.P w=.ok u w/\Xaw H an res u:=by
 have hres:results fn a.tmps=(do let vs <- fn.results.mapM (Xl5 a.tmps);pure (if h:vs.size=1 then vs[0] else .tuple vs)):=by
  unfold results
  congr 2
 rw[hres]
 have key:∀ (us:List Value),(fn.results.toList.mapM (Xl5 a.tmps)).run S.P w=.ok us w->(do let vs <- fn.results.mapM (Xl5 a.tmps);pure (if h:vs.size=1 then vs[0] else .tuple vs):Sem Value).run S.P w=.ok (if h:us.toArray.size=1 then us.toArray[0] else .tuple us.toArray) w:=by
  intro us hus
  rw[Array.mapM_eq_mapM_toList]
  simp only[Sem.run_bind,Sem.run_map,hus,Result.andThen_ok,Sem.run_pure]
 unfold X0u at hx
 split at hx
 ·rename_i r hrs
  rw[hrs] at hr
  cases hl:fn.results.toList with
  | nil=>rw[hl] at hr;simp[Xnf] at hr
  | cons r0 l =>
   rw[hl] at hr
   obtain⟨rv,m',e,h1,h2⟩:=Xir hr
   cases e
   have hl0:l=[]:=by
    cases l with
    | nil=>rfl
    | cons r1 l=>obtain⟨_,_,e,_⟩:=Xir h2;cases e
   subst hl0
   obtain⟨u,hu,hd⟩:=X1z h h1 hx
   refine⟨u,?_,Ywk hd⟩
   have:=key [u] (by rw[hl];simp only[List.mapM_cons,List.mapM_nil,Sem.run_bind,hu,Result.andThen_ok,Sem.run_pure])
   simpa using this
 ·rename_i hne
  split at hx
  ·rename_i m hm
   cases hx
   obtain⟨us,hus,hd,hl⟩:=Xue h hr hm
   have hlen:us.length≠1:=by
    intro e
    have:S.rs.length=1:=by
     have:∀ {l:List ResultVar} {m:List RV},Xnf S.P l=some m->m.length=l.length:=by
      intro l
      induction l with
      | nil=>intro m h;simp[Xnf] at h;subst h;rfl
      | cons r l ih=>intro m h;obtain⟨rv,m',rfl,h1,h2⟩:=Xir h;simp[ih h2]
     rw[this hr,<- hl,e]
    match hrs:S.rs,this with
    | [r],_=>exact hne r hrs
   refine⟨_,key us hus,?_⟩
   rw[dif_neg (by simpa using hlen)]
   exact⟨us,rfl,hd⟩
  ·cases hx
theorem SatX.unmark {r:Nat} (h:SatX S Y s a w H an F (r::ms)) {a':Act} (ha:a'.tmps=a.tmps) (hd:a'.defers=ms.map Wry) :
  SatX S Y s a' { w with heap:=w.heap.setIfInBounds r (.deferred none) } H an F ms:=by
 obtain⟨h1,h2,h3,h4⟩:=h.mks r (by simp)
 have hnd:=List.nodup_cons.1 h.nd
 have keep:∀ b,b≠r->(w.heap.setIfInBounds r (.deferred none))[b]?=w.heap[b]?:=fun b hb=>by
  rw[Array.getElem?_setIfInBounds,if_neg (fun e=>hb e.symm)]
 refine⟨h.gp,h.h0,?_,by rw[ha];exact h.fr,h.anc,?_,h.fl,?_,h.dj,h.hn,?_,h.os,h.tape,h.output,by simpa using h.size,hd,?_,hnd.2,h.al,h.npl,h.ro⟩
 ·intro b o hb
  exact (keep b (fun e=>by subst e;rw[h2] at hb;cases hb)).trans (h.mod b o hb)
 ·intro i c hc
  obtain⟨p,hp,hs⟩:=h.own i c hc
  exact⟨p,hp,hs.keep (Xag.Le.refl _) (Anc.Le.refl _) fun x hx=>keep x (fun e=>by subst e;exact h4 i hx)⟩
 ·intro i b hb
  obtain⟨g1,g2,g3⟩:=h.fp i b hb
  exact⟨by simpa using g1,g2,g3⟩
 ·intro b hb
  obtain⟨g1,g2⟩:=h.ub b hb
  exact⟨g1,(keep b (fun e=>by subst e;exact h3 hb)).trans g2⟩
 ·intro q hq
  obtain⟨g1,g2,g3,g4⟩:=h.mks q (by simp[hq])
  exact⟨(keep q (fun e=>by subst e;exact hnd.1 hq)).trans g1,g2,g3,g4⟩
theorem Xkk {fn:Func} {R:Ending->World->Prop} (hR:∀ a' w' F',a'.tmps=a.tmps->SatX S Y s a' w' H an F' []->∃ v,(results fn a.tmps).run S.P w'=.ok v w'/\R (.returned v) w') :
  ∀ (ms:List Nat) (w:World) (a':Act) (F:Nat->Nat->Prop),a'.tmps=a.tmps->SatX S Y s a' w H an F ms->LeavesInM Fence.wide 0 S.P fn a.tmps R (ms.map Wry) .returning w
 | [],w,a',F,ha,h=>hR a' w F ha h
 | r::ms,w,a',F,ha,h=>by
  refine⟨by simp,.inl ⟨r,_,rfl,?_,Xkk hR ms _ ⟨a.tmps,ms.map Wry⟩ F rfl (h.unmark ha.symm rfl)⟩⟩
  obtain⟨h1,_⟩:=h.mks r (by simp)
  simp only[Instr.takeDeferred,Sem.run_bind,Xcz h1 (by simp),Result.andThen_ok,Xft h1 (by simp),Sem.run_pure]
theorem Xqw {bn:Anc} {x:A} {u:Value} (h:Xbj H an x u) (hr:x.refs0=[]):Xbj H bn x u:=by
 cases x <;> first|exact h|(simp[A.refs0] at hr;done)
theorem Xg9 {bn:Anc}:∀ {xs:List A} {us:List Value},Xaq (Xbj H an) xs us->xs.flatMap A.refs0=[]->Xaq (Xbj H bn) xs us
 | [],[],_,_=>trivial
 | x::xs,u::us,h,hr=>by
  simp only[List.flatMap_cons,List.append_eq_nil_iff] at hr
  exact⟨Xqw h.1 hr.1,Xg9 h.2 hr.2⟩
theorem Xuf {bn:Anc} {x:A} {u:Value} (h:Xb2 H an x u) (hr:x.refs=[]):Xb2 H bn x u:=by
 cases x with
 | clo f caps=>obtain⟨vs,e,hv⟩:=h;exact⟨vs,e,Xg9 hv hr⟩
 | mvo f ag rcv =>
  cases ag with
  | false=>obtain⟨v,e,hv⟩:=h;exact⟨v,e,Xg9 hv hr⟩
  | true=>obtain⟨vs,e,hv⟩:=h;exact⟨vs,e,Xg9 hv hr⟩
 | ifo t a=>obtain⟨v,e,hv⟩:=h;exact⟨v,e,Xqw hv hr⟩
 | d x=>exact h
 | nil=>exact h
 | un=>trivial
 | own i ver=>simp[A.refs,A.refs0] at hr
 | ptr i off=>simp[A.refs,A.refs0] at hr
 | rp i ver sz e off=>simp[A.refs,A.refs0] at hr
theorem Xqx {bn:Anc}:∀ {xs:List A} {us:List Value},Xav H an xs us->xs.flatMap A.refs=[]->Xav H bn xs us
 | [],[],_,_=>trivial
 | x::xs,u::us,h,hr=>by
  simp only[List.flatMap_cons,List.append_eq_nil_iff] at hr
  exact⟨Xuf h.1 hr.1,Xqx h.2 hr.2⟩
theorem Xjt {bn:Anc} {x:V} {u:Value} (h:Xar H an x u) (hr:x.refs=[]):Xar H bn x u:=by
 cases x with
 | one a=>exact Xuf (x:=a) h hr
 | agg l=>obtain⟨vs,e,hv⟩:=h;exact⟨vs,e,Xqx hv hr⟩
 | tup l=>exact h
 | un=>trivial
theorem Xnv {bn:Anc}:∀ {xs:List V} {us:List Value},Xaq (Xar H an) xs us->xs.flatMap V.refs=[]->Xaq (Xar H bn) xs us
 | [],[],_,_=>trivial
 | x::xs,u::us,h,hr=>by
  simp only[List.flatMap_cons,List.append_eq_nil_iff] at hr
  exact⟨Xjt h.1 hr.1,Xnv h.2 hr.2⟩
theorem X10 {bn:Anc} {x:V} {u:Value} (h:Xaw H an x u) (hr:x.refsT=[]):Xaw H bn x u:=by
 cases x with
 | tup l=>obtain⟨vs,e,hv⟩:=h;exact⟨vs,e,Xnv hv hr⟩
 | one a=>exact Xjt (x:=.one a) h hr
 | agg l=>exact Xjt (x:=.agg l) h hr
 | un=>trivial
theorem X11:∀ (n:Nat),Xaq (Xaw H an) (List.replicate n V.un) (List.replicate n undef)
 | 0=>trivial
 | n+1=>⟨trivial,X11 n⟩
theorem Xqy {P:Program} {gp:Xag} {f:FuncId} {fn:Func} {c:Code} {m:MC} {rs:List RV} {hs:List Nat} {args:List V} {pre:List Ch} {R:V->List Ch->Prop}
  (hf:P.funcs[f]?=some fn) (hb:fn.body=some c) (ht:trC P hs c=some m) (hr:Xnf P fn.results.toList=some rs)
  (h:G ⟨P,gp,pre.length,rs,R,false⟩ [.code m,.fin] ⟨args++List.replicate (fn.ntmps - args.length) .un,pre⟩):Tri P gp f args pre R:=by
 intro H w an F vs hgp hmod hanc hown hF hdj hargs
 refine (callsIn_wide (n:=0)).1 ?_
 refine callsIn_of_wp_marks (n:=0) hf hb trivial ?_
 let Y:Dyn:=⟨H,an,fun b=>b < w.heap.size/\¬ ∃ i,F i b,w,none⟩
 have hsat:SatX ⟨P,gp,pre.length,rs,R,false⟩ Y ⟨args++List.replicate (fn.ntmps - args.length) .un,pre⟩ { tmps:=vs.toArray++Array.replicate (fn.ntmps - vs.toArray.size) undef,defers:=[] } w H an F []:=by
  refine⟨hgp,Xag.Le.refl _,hmod,?_,hanc,hown,fun i b hb=>(hF i b hb).1,fun i b hb=>⟨(hF i b hb).2.1,(hF i b hb).2.2,fun hu=>hu.2 ⟨i,hb⟩⟩,hdj,fun b o hb=>.inl hb,fun b hb=>⟨hb.1,rfl⟩,rfl,rfl,rfl,Nat.le_refl _,rfl,by simp,by simp,Anc.Le.refl _,fun i p hp=>(hanc i).1 ⟨p,hp⟩,.inr rfl⟩
  have:=hargs.append (X11 (H:=H) (an:=an) (fn.ntmps - args.length))
  rw[hargs.length] at this ⊢
  simpa using this
 have hG:=h Y _ w ⟨H,an,F,[],hsat⟩ hs c ht
 refine wpIn_mono hG ?_
 intro e a' w' hm
 obtain⟨he,s',res,⟨H',an',F',ms,hs'⟩,hres,hR⟩:=hm
 have hleave:LeavesInM Fence.wide 0 P fn a'.tmps (fun e w'=>∃ (v:Value) (res:V) (post:List Ch) (H':Xag) (an':Anc) (F':Nat->Nat->Prop),e=.returned v/\R res post /\
   WKeep w w' (fun b=>∃ i,F i b)/\Xag.Le H H'/\Xc8 w' H'/\(∀ b o,H' b=some o->H b=some o\/w.heap.size<=b\/∃ i,F i b) /\
   Anc.Le an an'/\(∀ i,(∃ p,an' i=some p)↔i < post.length)/\(∀ i c,post[i]?=some c->∃ p,an' i=some p/\Xb3 H' an' w' c p (F' i)) /\
   (∀ i b,F' i b->i < post.length/\b < w'.heap.size/\H' b=none/\(w.heap.size<=b\/∃ j,F j b))/\(∀ i j b,F' i b->F' j b->i=j)/\Xaw H' an' res v) a'.defers .returning w':=by
  rw[hs'.df]
  refine Xkk (S:=⟨P,gp,pre.length,rs,R,false⟩) (Y:=Y) (s:=s') ?_ ms w' a' F' rfl hs'
  intro a2 w2 F2 ha2 h2
  obtain⟨u,hu,hd⟩:=Xsq h2 hr hres
  rw[ha2] at hu
  refine⟨u,hu,u,res.nrm2,?_⟩
  have hwk:WKeep w w2 (fun b=>∃ i,F i b):=⟨h2.os,h2.tape,h2.output,h2.size,fun b hb hn=>(h2.ub b ⟨hb,hn⟩).2⟩
  have hnew:∀ b o,H' b=some o->H b=some o\/w.heap.size<=b\/∃ i,F i b:=fun b o hb=>by
   rcases h2.hn b o hb with h3|h3
   ·exact .inl h3
   ·by_cases hlt:b < w.heap.size
    ·exact .inr (.inr (Classical.byContradiction fun hn=>h3 ⟨hlt,hn⟩))
    ·exact .inr (.inl (by omega))
  have hmay:∀ i b,F2 i b->w.heap.size<=b\/∃ j,F j b:=fun i b hb=>by
   have:=(h2.fp i b hb).2.2
   by_cases hlt:b < w.heap.size
   ·exact .inr (Classical.byContradiction fun hn=>this ⟨hlt,hn⟩)
   ·exact .inl (by omega)
  rcases hR with hR|⟨hnp,hrefs,hR⟩
  ·refine⟨s'.own,H',an',F2,rfl,hR,hwk,h2.h0,h2.mod,hnew,h2.al,h2.anc,h2.own,fun i b hb=>?_,h2.dj,hd.nrm2⟩
   obtain⟨g1,g2,_⟩:=h2.fp i b hb
   exact⟨h2.fl i b hb,g1,g2,hmay i b hb⟩
  ·refine⟨[],H',fun _=>none,fun _ _=>False,rfl,hR,hwk,h2.h0,h2.mod,hnew,⟨fun i p hp=>?_⟩,by simp,by simp,by simp,by simp,(X10 hd hrefs).nrm2⟩
   have:=(hanc i).1 ⟨p,hp⟩
   have hnp':pre.length=0:=hnp
   omega
 rcases he with rfl|rfl <;> exact hleave
theorem Xzm {P:Program} {gp:Xag} {f:FuncId} {fn:Func} {c:Code} {m:MC} {rs:List RV} {hs:List Nat} {args:List V} {res:V}
  (hc:Xaa P f=true) (hf:P.funcs[f]?=some fn) (hb:fn.body=some c) (ht:trC P hs c=some m) (hr:Xnf P fn.results.toList=some rs)
  (h:G ⟨P,gp,0,rs,fun r c=>r=res/\c=[],false⟩ [.code m,.fin] ⟨args++List.replicate (fn.ntmps - args.length) .un,[]⟩):Xam P gp f args res:=⟨hc,Xqy hf hb ht hr h⟩
end
end Go.Fw
namespace Go.Fw
open Go
section
variable {S:Sx} {Y:Dyn} {k:List MI} {s:St} {a:Act} {w w':World} {H:Xag} {an:Anc} {F:Nat->Nat->Prop} {ms:List Nat}
theorem SatX.reframe (h:SatX S Y s a w H an F ms) {fr':List V} (hf:Xaq (Xaw H an) fr' a.tmps.toList):SatX S Y ⟨fr',s.own⟩ a w H an F ms :=
 ⟨h.gp,h.h0,h.mod,hf,h.anc,h.own,h.fl,h.fp,h.dj,h.hn,h.ub,h.os,h.tape,h.output,h.size,h.df,h.mks,h.nd,h.al,h.npl,h.ro⟩
def Xqz:List V->List V->Prop
 | [],[]=>True
 | v::l,u::m=>(u=.un\/u=v)/\Xqz l m
 | _,_=>False
theorem Xqz.den:∀ {l m:List V} {us:List Value},Xqz l m->Xaq (Xaw H an) l us->Xaq (Xaw H an) m us
 | [],[],[],_,_=>trivial
 | v::l,u::m,x::us,h,hd=>by
  refine⟨?_,Xqz.den h.2 hd.2⟩
  rcases h.1 with rfl|rfl
  ·trivial
  ·exact hd.1
 | [],_::_,_,h,_=>h.elim
 | _::_,[],_,h,_=>h.elim
 | [],[],_::_,_,h=>h.elim
 | _::_,_::_,[],_,h=>h.elim
theorem Yoy (fr':List V) (hf:Xqz s.fr fr') (h:G S k ⟨fr',s.own⟩):G S k s:=by
 rintro Y a w ⟨H,an,F,ms,hs⟩
 exact h Y a w ⟨H,an,F,ms,hs.reframe (hf.den hs.fr)⟩
def Xhl (n:Nat) (l:List Nat):Bool:=l.all fun i=>decide (i < n)
theorem Xnw {n:Nat} {l:List Nat} (h:Xhl n l=true):∀ i∈l,i < n:=fun i hi=>by
 have:=List.all_eq_true.1 h i hi;simpa using this
theorem SatX.cut (n:Nat) (hn:∀ i p,Y.an0 i=some p->i < n) (h1:(s.fr.all fun v=>Xhl n v.refsT)=true) (h2:((s.own.take n).all fun c=>Xhl n c.refs)=true) (hs:SatX S Y s a w H an F ms) :
  SatX S Y ⟨s.fr,s.own.take n⟩ a w H (fun i=>if i < n then an i else none) (fun i b=>i < n/\F i b) ms:=by
 refine⟨hs.gp,hs.h0,hs.mod,?_,?_,?_,?_,?_,?_,hs.hn,hs.ub,hs.os,hs.tape,hs.output,hs.size,hs.df,?_,hs.nd,?_,hs.npl,hs.ro⟩
 ·have:∀ (l:List V) (m:List Value),(l.all fun v=>Xhl n v.refsT)=true->Xaq (Xaw H an) l m->Xaq (Xaw H fun i=>if i < n then an i else none) l m:=by
   intro l
   induction l with
   | nil=>intro m _ h;cases m <;> exact h
   | cons e l ih =>
    intro m hr h
    cases m with
    | nil=>exact h.elim
    | cons en m =>
     simp only[List.all_cons,Bool.and_eq_true] at hr
     exact⟨Xtx h.1 fun i hi=>if_pos (Xnw hr.1 i hi),ih m hr.2 h.2⟩
  exact this _ _ h1 hs.fr
 ·intro i
  simp only[List.length_take]
  by_cases e:i < n
  ·simp only[if_pos e];rw[hs.anc i];omega
  ·simp only[if_neg e];constructor
   ·rintro⟨p,hp⟩;cases hp
   ·intro;omega
 ·intro i c hc
  rw[List.getElem?_take] at hc
  split at hc
  ·rename_i hi
   obtain⟨p,hp,hsc⟩:=hs.own i c hc
   refine⟨p,by simp only[if_pos hi];exact hp,?_⟩
   have hcr:=List.all_eq_true.1 h2 c (List.mem_of_getElem? (i:=i) (by rw[List.getElem?_take,if_pos hi];exact hc))
   have:=hsc.on (bn:=fun i=>if i < n then an i else none) fun j hj=>if_pos (Xnw hcr j hj)
   have e:(fun b=>i < n/\F i b)=F i:=by funext b;simp[hi]
   rw[e];exact this
  ·cases hc
 ·intro i b hb;have:=hs.fl i b hb.2;simp only[List.length_take];omega
 ·exact fun i b hb=>hs.fp i b hb.2
 ·exact fun i j b hi hj=>hs.dj i j b hi.2 hj.2
 ·exact fun r hr=>let ⟨g1,g2,g3,g4⟩:=hs.mks r hr;⟨g1,g2,g3,fun i hi=>g4 i hi.2⟩
 ·refine⟨fun i p hp=>?_⟩
  obtain⟨q,hq,h3⟩:=hs.al.same i p hp
  exact⟨q,by show (if i < n then an i else none)=some q;rw[if_pos (hn i p hp)];exact hq,h3⟩
theorem Xnx (n:Nat) (hn:S.np<=n) (h1:(s.fr.all fun v=>Xhl n v.refsT)=true) (h2:((s.own.take n).all fun c=>Xhl n c.refs)=true) (h:G S k ⟨s.fr,s.own.take n⟩):G S k s:=by
 rintro Y a w ⟨H,an,F,ms,hs⟩
 exact h Y a w ⟨H,_,_,ms,hs.cut n (fun i p hp=>Nat.lt_of_lt_of_le (hs.npl i p hp) hn) h1 h2⟩
def Xug (j:Nat) (c:Ch):A->A
 | .own i ver=>if i=j then (match c with
   | .row _ ver' xs=>if ver'=ver then .d (.sl xs) else .un
   | _=>.un) else .own i ver
 | .ptr i off=>if i=j then (match c with
   | .cells cs=>(match Xkp cs with|some ds=>.d (.bx (ds.drop off))|none=>.un)
   | _=>.un) else .ptr i off
 | .rp i ver sz e off=>if i=j then (match c with
   | .row sz' ver' xs=>if ver'=ver/\sz'=sz then (match xs[e]? with|some x=>.d (.bx (x.drop off))|none=>.un) else .un
   | _=>.un) else .rp i ver sz e off
 | a=>a
def X0k (j:Nat) (c:Ch):A->A
 | .clo f caps=>(match Xkp (caps.map (Xug j c)) with|some ds=>.d (.fn f ds)|none=>.clo f (caps.map (Xug j c)))
 | .mvo f ag rcv=>.mvo f ag (rcv.map (Xug j c))
 | .ifo t a=>(match Xug j c a with|.d x=>.d (.ifc t false [x])|b=>.ifo t b)
 | a=>Xug j c a
def Yg6 (j:Nat) (c:Ch):V->V
 | .one a=>.one (X0k j c a)
 | .agg l=>.agg (l.map (X0k j c))
 | v=>v
def We4 (j:Nat) (c:Ch):V->V
 | .tup l=>.tup (l.map (Yg6 j c))
 | v=>Yg6 j c v
def We5 (j:Nat) (c:Ch):Ch->Ch
 | .cells cs=>.cells (cs.map (X0k j c))
 | .map es=>.map (es.map fun e=>(Yg6 j c e.1,Yg6 j c e.2))
 | .bld T y=>.bld T (X0k j c y)
 | .rowA sz ver xs=>.rowA sz ver (xs.map fun x=>x.map (X0k j c))
 | x=>x
def Ch.froz:Ch->Bool
 | .row ..=>true
 | .cells cs=>(Xkp cs).isSome
 | _=>false
section
variable {j:Nat} {c:Ch}
theorem Xos (h:SatX S Y s a w H an F ms) (hc:Xao s.own j=c) {x:A} {u:Value} (hx:Xbj H an x u):Xbj (Xc7 (F j) w H) an (Xug j c x) u:=by
 have hle:=Xfv (j:=j) h
 cases x with
 | own i ver =>
  simp only[Xug]
  split
  ·rename_i e
   subst e
   split
   ·rename_i sz ver' xs
    split
    ·rename_i hv
     subst hv
     obtain⟨p,hp,hps,h0,hsz,hlen,h4⟩:=h.row hc
     have hu:u=p:=Xda hp (show Xaw H an (.one (.own i ver')) u from hx)
     show Den _ _ _
     rcases h4 with ⟨rfl,⟨A,rfl⟩,_⟩|⟨b,of,cap,vs,T,rfl,e2,e3,e4,e5,e6⟩
     ·rw[hu];exact Den.slE _ _
     ·rw[hu]
      exact Xd6.row (cells:=vs) (T:=T) (fz:=(0,0)) h0 (by rw[Xio ((e2 b).2 rfl)];exact e3) hsz e4 hlen (Xd6.mono hle e6)
    ·trivial
   ·trivial
  ·exact Xbj.mono (a:=.own i ver) hle (Anc.Le.refl _) hx
 | ptr i off =>
  simp only[Xug]
  split
  ·rename_i e
   subst e
   split
   ·rename_i cs
    split
    ·rename_i ds hds
     obtain⟨b,T,vs,hb,hF,hw,hd⟩:=h.box hc
     have hu:=h.ptr hb (show Xaw H an (.one (.ptr i off)) u from hx)
     have hdd:=Xeh hds hd
     show Den _ _ _
     rw[hu]
     refine Den.bx _ b off vs.toArray T (0,0) (fun k=>vs.getD (off+k) undef) (by rw[Xio ((hF b).2 rfl)];exact hw) (fun k y hy=>?_) (fun k y hy=>?_)
     ·rw[List.getElem?_drop] at hy
      obtain⟨q,hq,_⟩:=hdd.get hy
      simp[List.getD,hq]
     ·rw[List.getElem?_drop] at hy
      obtain⟨q,hq,hqd⟩:=hdd.get hy
      simp only[List.getD,hq,Option.getD_some]
      exact Den.mono hle hqd
    ·trivial
   ·trivial
  ·exact Xbj.mono (a:=.ptr i off) hle (Anc.Le.refl _) hx
 | rp i ver sz e off =>
  simp only[Xug]
  split
  ·rename_i ei
   subst ei
   split
   ·rename_i sz' ver' xs
    split
    ·rename_i hv
     obtain⟨rfl,rfl⟩:=hv
     split
     ·rename_i y hy
      obtain⟨p,hp,hps,h0,hsz,hlen,h4⟩:=h.row hc
      rcases h4 with ⟨rfl,_⟩|⟨b,of,cap,vs,T,rfl,e2,e3,e4,e5,e6⟩
      ·simp at hy
      ·have hu:=h.rp hp (show Xaw H an (.one (.rp i ver' sz' e off)) u from hx)
       have hd:=Xd6.elem hsz hy e6
       show Den _ _ _
       rw[hu]
       have key:∀ (k:Nat) (z:D),(y.drop off)[k]?=some z->∃ q,vs[of+e*sz'+off+k]?=some q/\Den H z q:=by
        intro k z hz
        obtain⟨q,hq,hqd⟩:=(hd.drop off).get hz
        refine⟨q,?_,hqd⟩
        rw[List.getElem?_drop,List.getElem?_take] at hq
        split at hq
        ·rw[List.getElem?_drop,List.getElem?_take] at hq
         split at hq
         ·rw[List.getElem?_drop] at hq
          rw[<- Array.getElem?_toList,<- hq];congr 1;omega
         ·cases hq
        ·cases hq
       refine Den.bx _ b (of+e*sz'+off) vs T (0,0) (fun k=>vs.getD (of+e*sz'+off+k) undef) (by rw[Xio ((e2 b).2 rfl)];exact e3) (fun k z hz=>?_) (fun k z hz=>?_)
       ·obtain⟨q,hq,_⟩:=key k z hz
        simp[Array.getD_eq_getD_getElem?,hq]
       ·obtain⟨q,hq,hqd⟩:=key k z hz
        simp only[Array.getD_eq_getD_getElem?,hq,Option.getD_some]
        exact Den.mono hle hqd
     ·trivial
    ·trivial
   ·trivial
  ·exact Xbj.mono (a:=.rp i ver sz e off) hle (Anc.Le.refl _) hx
 | d x=>exact Den.mono hle hx
 | nil=>exact hx
 | clo f caps=>exact hx
 | mvo f ag rcv=>exact hx
 | ifo t a=>exact hx
 | un=>trivial
theorem Xuh {x:A} {u:Value} (h:Xbj H an x u):Xb2 H an x u:=by
 cases x <;> first|exact h|exact h.elim
theorem Xku (h:SatX S Y s a w H an F ms) (hc:Xao s.own j=c) {x:A} {u:Value} (hx:Xb2 H an x u):Xb2 (Xc7 (F j) w H) an (X0k j c x) u:=by
 have base:∀ {x:A} {u:Value},Xbj H an x u->Xb2 (Xc7 (F j) w H) an (Xug j c x) u:=fun hx=>Xuh (Xos h hc hx)
 have all:∀ {xs:List A} {us:List Value},Xaq (Xbj H an) xs us->Xaq (Xbj (Xc7 (F j) w H) an) (xs.map (Xug j c)) us:=fun hx=>by
  have:=Xaq.map (R:=Xbj (Xc7 (F j) w H) an) (f:=Xug j c) (g:=id) (fun a b hab=>Xos h hc hab) hx
  simpa using this
 cases x with
 | clo f caps =>
  obtain⟨vs,rfl,hv⟩:=hx
  simp only[X0k]
  split
  ·rename_i ds hds
   have hd:=Xeh hds ((all hv).mono fun _ _ q=>Xuh q)
   exact Den.fn f ds vs hd.length.symm fun k y v hy hv'=>by
    obtain⟨q,hq,hqd⟩:=hd.get hy
    rw[hv'] at hq;cases hq;exact hqd
  ·exact⟨vs,rfl,all hv⟩
 | mvo f ag rcv =>
  cases ag with
  | false=>obtain⟨v,rfl,hv⟩:=hx;exact⟨v,rfl,all hv⟩
  | true=>obtain⟨vs,rfl,hv⟩:=hx;exact⟨vs,rfl,all hv⟩
 | ifo t a =>
  obtain⟨v,rfl,hv⟩:=hx
  have:=Xos h hc hv
  simp only[X0k]
  split
  ·rename_i x e
   rw[e] at this
   exact Den.ifcV t x v this
  ·exact⟨v,rfl,this⟩
 | d x=>exact base (x:=.d x) hx
 | nil=>exact base (x:=.nil) hx
 | un=>trivial
 | own i ver=>exact base (x:=.own i ver) hx
 | ptr i off=>exact base (x:=.ptr i off) hx
 | rp i ver sz e off=>exact base (x:=.rp i ver sz e off) hx
theorem Xq0 (h:SatX S Y s a w H an F ms) (hc:Xao s.own j=c) {xs:List A} {us:List Value} (hx:Xav H an xs us):Xav (Xc7 (F j) w H) an (xs.map (X0k j c)) us:=by
 have:=Xaq.map (R:=Xb2 (Xc7 (F j) w H) an) (f:=X0k j c) (g:=id) (fun a b hab=>Xku h hc hab) hx
 simpa using this
theorem Xis (h:SatX S Y s a w H an F ms) (hc:Xao s.own j=c) {x:V} {u:Value} (hx:Xar H an x u):Xar (Xc7 (F j) w H) an (Yg6 j c x) u:=by
 cases x with
 | one a=>exact Xku h hc hx
 | agg l=>obtain⟨vs,rfl,hv⟩:=hx;exact⟨vs,rfl,Xq0 h hc hv⟩
 | tup l=>exact hx
 | un=>trivial
theorem Xui (h:SatX S Y s a w H an F ms) (hc:Xao s.own j=c) {x:V} {u:Value} (hx:Xaw H an x u):Xaw (Xc7 (F j) w H) an (We4 j c x) u:=by
 cases x with
 | tup l =>
  obtain⟨vs,rfl,hv⟩:=hx
  refine⟨vs,rfl,?_⟩
  have:=Xaq.map (R:=Xar (Xc7 (F j) w H) an) (f:=Yg6 j c) (g:=id) (fun a b hab=>Xis h hc hab) hv
  simpa using this
 | one a=>exact Xis (x:=.one a) h hc hx
 | agg l=>exact Xis (x:=.agg l) h hc hx
 | un=>trivial
theorem Yik (h:SatX S Y s a w H an F ms) (hc:Xao s.own j=c) {x:Ch} {p:Nat × Value} {f:Nat->Prop} (hx:Xb3 H an w x p f):Xb3 (Xc7 (F j) w H) an w (We5 j c x) p f:=by
 have hk:=hx.keep (w':=w) (Xfv (j:=j) h) (Anc.Le.refl _) fun _ _=>rfl
 cases x with
 | cells cs=>obtain⟨h0,b,T,vs,h1,h2,h3,h4⟩:=hx;exact⟨h0,b,T,vs,h1,h2,h3,Xq0 h hc h4⟩
 | bld T y=>obtain⟨h0,b,p0,v,T',h1,h2,h3,h4,h5⟩:=hx;exact⟨h0,b,p0,v,T',h1,h2,h3,h4,Xku h hc h5⟩
 | rowA sz ver xs =>
  obtain⟨h0,h1,h2,h3,b,o,cap,vs,T,e1,e2,e3,e4,e5,e6⟩:=hx
  refine⟨h0,h1,fun x hx=>?_,by simpa using h3,b,o,cap,vs,T,by simpa using e1,e2,e3,by simpa using e4,e5,fun i x j y hx hy=>?_⟩
  ·obtain⟨z,hz,rfl⟩:=List.mem_map.1 hx
   simpa using h2 z hz
  ·rw[List.getElem?_map] at hx
   cases ez:xs[i]? with
   | none=>rw[ez] at hx;cases hx
   | some z =>
    rw[ez] at hx;cases hx
    rw[List.getElem?_map] at hy
    cases ew:z[j]? with
    | none=>rw[ew] at hy;cases hy
    | some q =>
     rw[ew] at hy;cases hy
     obtain⟨v,hv,hd⟩:=e6 i z j q ez ew
     exact⟨v,hv,Xku h hc hd⟩
 | map es =>
  obtain⟨h0,b,ents,clk,h1,h2,h3,h4⟩:=hx
  refine⟨h0,b,ents,clk,h1,h2,h3,?_⟩
  have:=Xaq.map (R:=fun (e:V × V) (en:MapEntry)=>Xar (Xc7 (F j) w H) an e.1 en.key/\Xar (Xc7 (F j) w H) an e.2 en.val) (f:=fun e=>(Yg6 j c e.1,Yg6 j c e.2)) (g:=id) (fun a b hab=>⟨Xis h hc hab.1,Xis h hc hab.2⟩) h4
  simpa using this
 | _=>exact hk
end
def Wr0 (j:Nat) (s:St):St:=⟨s.fr.map (We4 j (Xao s.own j)),(s.own.map (We5 j (Xao s.own j))).set j .dead⟩
theorem SatX.freeze (h:SatX S Y s a w H an F ms) (j:Nat):SatX S Y (Wr0 j s) a w (Xc7 (F j) w H) an (fun i b=>i≠j/\F i b) ms:=by
 have h1:=h.evolve (may:=fun _=>False) (own':=(s.own.map (We5 j (Xao s.own j))).set j .dead) (F':=fun i b=>i≠j/\F i b) (WKeep.refl w _) (fun _ hb=>hb.elim) (Xfv (j:=j) h) (Xgn h) (fun b o hb=>by
   unfold Xc7 at hb
   split at hb
   ·rename_i hx;exact .inr (.inr ⟨j,hx⟩)
   ·exact .inl hb) (Anc.Le.refl _) (fun i=>by simp[h.anc i]) (fun i c hc=>by
   rw[List.getElem?_set] at hc
   split at hc
   ·rename_i e
    subst e
    split at hc
    ·rename_i hl
     cases hc
     simp at hl
     obtain⟨p,hp⟩:=(h.anc j).2 hl
     exact⟨p,hp,fun b hb=>hb.1 rfl⟩
    ·cases hc
   ·rename_i e
    rw[List.getElem?_map] at hc
    cases e':s.own[i]? with
    | none=>simp[e'] at hc
    | some c0 =>
     simp[e'] at hc
     subst hc
     obtain⟨p,hp,hs⟩:=h.own i c0 e'
     have ef:(fun b=>i≠j/\F i b)=F i:=by funext b;simp[Ne.symm e]
     refine⟨p,hp,?_⟩
     rw[ef]
     exact Yik h rfl hs) (fun i b hb=>by
   obtain⟨g1,g2,g3⟩:=h.fp i b hb.2
   refine⟨by simpa using h.fl i b hb.2,g1,?_,.inr ⟨i,hb.2⟩⟩
   unfold Xc7
   rw[if_neg (fun hj=>hb.1 (h.dj i j b hb.2 hj))]
   exact g2) (fun i i' b hi hi'=>h.dj i i' b hi.2 hi'.2)
 refine h1.reframe ?_
 have:=Xaq.map (R:=Xaw (Xc7 (F j) w H) an) (f:=We4 j (Xao s.own j)) (g:=id) (fun a b hab=>Xui h rfl hab) h.fr
 simpa using this
theorem Xat (j:Nat) (h:G S k (Wr0 j s)):G S k s:=by
 rintro Y a w ⟨H,an,F,ms,hs⟩
 exact h Y a w ⟨_,_,_,ms,hs.freeze j⟩
theorem Xot:∀ {k:List MI} {l:Nat} {a:Act} {w:World},¬ Mx S Y k (.goto l) a w
 | [],_,_,_,h=>h
 | .code _::k,_,_,_,h=>Xot (k:=k) h
 | .blk _::k,_,_,_,h=>Xot (k:=k) h
 | .again _::k,_,_,_,h=>Xot (k:=k) h
 | .rnd _::_,_,_,_,h=>by rcases h.1 with h|h|⟨_,h⟩ <;> cases h
 | .fin::_,_,_,_,h=>by rcases h.1 with h|h <;> cases h
theorem Xd3 {P:Program} {b:Frame} {cs:List Frame} {k:List Item} {c:Code}:step P (lone (b.atR a (.code (.scope c)::k)) cs w)=.next (lone (b.atR a (.code c::.inScope c::k)) cs w) :=
 step_lone_go (by simp[stepG,stepG.exec,Frame.atR])
theorem Xou {P:Program} {b:Frame} {cs:List Frame} {k:List Item} {c:Code}:step P (lone (b.atR a (.inScope c::k)) cs w)=.next (lone (b.atR a k) cs w) :=
 step_lone_go (by simp[stepG,stepG.exec,Frame.atR])
theorem Xzn {F:Fence} {n:Nat} {P:Program} {c:Code} {Q:Exit->Act->World->Prop} (hg:∀ l a w,¬ Q (.goto l) a w) (h:c.wpIn F n P Q a w):(Code.scope c).wpIn F n P Q a w:=by
 intro b k cs hro hb hr
 have h0:(lone (b.atR a (.code (.scope c)::k)) cs w).fenced P F:=fenced_calm hb hr rfl
 obtain⟨e,a₁,w₁,hq,harr⟩:=h b (.inScope c::k) cs hro hb hr
 cases e with
 | normal=>exact⟨.normal,a₁,w₁,hq,.head h0 Xd3 (StepsIn.trans harr (.one (fenced_calm hb hr rfl) Xou))⟩
 | exit id =>
  have hx:exitTo id (.inScope c::k)=exitTo id k:=by simp[exitTo]
  exact⟨.exit id,a₁,w₁,hq,fun k' hk=>.head h0 Xd3 (harr.1 k' (by rw[hx];exact hk)),
   fun hr' hk=>let ⟨k₁,h1,h2⟩:=harr.2 hr' (by rw[hx];exact hk);⟨k₁,h1,.head h0 Xd3 h2⟩⟩
 | goto l=>exact absurd hq (hg l a₁ w₁)
 | ret=>exact⟨_,a₁,w₁,hq,.of_steps (.one h0 Xd3) harr⟩
 | panic ch=>exact⟨_,a₁,w₁,hq,.of_steps (.one h0 Xd3) harr⟩
 | outgrown=>exact⟨_,a₁,w₁,hq,.of_steps (.one h0 Xd3) harr⟩
theorem Ywm {x:MC} (h:G S (.code x::k) s):G S (.code (.scope x)::k) s:=by
 intro Y a w hs hs' c hc
 obtain⟨c1,rfl,h1⟩:=X1u hc
 exact Xzn (fun _ _ _=>Xot) (h Y a w hs hs' c1 h1)
end
end Go.Fw
namespace Go.Fw
open Go
section
variable {S:Sx} {Y:Dyn} {s:St} {a:Act} {w:World} {H:Xag} {an:Anc} {F:Nat->Nat->Prop} {ms:List Nat} {k:List MI}
theorem Sat.lay {fr:List V} {own:List Ch} (h:Sat S Y ⟨fr,own⟩ a w) {j t:Nat} {cs:List A} {ds:List D} (hc:Xao own j=.cells cs) (hds:Xkp cs=some ds) (ht:Xa0 fr t=.one (.ptr j 0)) :
  Sat S Y ⟨Xbv fr t (.one (.d (.bx ds))),own.set j .dead⟩ a w:=by
 obtain⟨H,an,F,ms,hs⟩:=h
 have h1:=hs.freeze_at j
 obtain⟨u,hu,hd⟩:=hs.fr.get (Xa8 _ _ _ ht (by simp))
 have hd2:=Xui hs (j:=j) rfl hd
 have e:We4 j (Xao own j) (.one (.ptr j 0))=.one (.d (.bx ds)):=by simp[We4,Yg6,X0k,Xug,hc,hds]
 simp only[e] at hd2
 refine⟨_,an,_,ms,h1.reframe ?_⟩
 have:=Xbx fr a.tmps.toList t (.one (.d (.bx ds))) u h1.fr hd2
 rwa [Xjs hu] at this
def Yoz (f:Nat->Bool):Nat->Nat
 | 0=>0
 | n+1=>Yoz f n+if f n then 1 else 0
theorem Xju {f g:Nat->Bool}:∀ n,(∀ i,i < n->f i=g i)->Yoz f n=Yoz g n
 | 0,_=>rfl
 | n+1,h=>by simp only[Yoz];rw[Xju n fun i hi=>h i (by omega),h n (by omega)]
theorem Xuj {f g:Nat->Bool} {k:Nat}:∀ n,k < n->f k=false->g k=true->(∀ i,i≠k->g i=f i)->Yoz g n=Yoz f n+1
 | 0,h,_,_,_=>by omega
 | n+1,h,h1,h2,h3=>by
  simp only[Yoz]
  by_cases e:k=n
  ·subst e
   rw[Xju k fun i hi=>h3 i (by omega),h1,h2];simp
  ·rw[Xuj n (by omega) h1 h2 h3,h3 n (by omega)];omega
theorem Xzo {p q:Rc} {x:Var} (h:Yv0 p q=some x):p=x.aRc/\q=x.sRc/\x.z.length=x.n:=by
 unfold Yv0 at h
 split at h
 ·split at h
  ·rename_i e
   cases h
   obtain⟨rfl,e2⟩:=e
   exact⟨rfl,rfl,e2⟩
  ·cases h
 ·cases h
theorem Xl6:∀ {l m:List Rc} {xs:List Var},Xp3 l m=some xs->l=xs.map Var.aRc/\m=xs.map Var.sRc/\∀ x∈xs,x.z.length=x.n
 | [],[],xs,h=>by cases h;exact⟨rfl,rfl,by simp⟩
 | a::l,b::m,xs,h=>by
  simp only[Xp3,Option.bind_eq_some_iff,Option.map_eq_some_iff] at h
  obtain⟨x,hx,ys,hy,rfl⟩:=h
  obtain⟨rfl,rfl,h3⟩:=Xzo hx
  obtain⟨rfl,rfl,h4⟩:=Xl6 hy
  exact⟨rfl,rfl,by simpa using ⟨h3,h4⟩⟩
 | [],_::_,_,h=>by cases h
 | _::_,[],_,h=>by cases h
structure VOK (ms:List Nat) (m v:Nat) (fs:List Rc) (xs:List Var):Prop where
 own:∀ (k:Nat) (x:Var),xs[k]?=some x->(ms.getD (m+v+k) 0).testBit (m+k)=true
 def_:∀ (k:Nat) (x:Var),xs[k]?=some x->∀ (i:Nat) (r:Rc),i < m->fs[i]?=some r->r.d=some x.y->(ms.getD (m+v+k) 0).testBit i=true
 free:∀ x∈xs,∀ r∈fs,r.d≠some x.t/\x.t ∉ r.slots
 y:∀ x∈xs,∀ z∈xs,z.y≠x.t
 ne:∀ (k l:Nat) (x z:Var),xs[k]?=some x->xs[l]?=some z->l < k->z.t≠x.t
theorem Xsr {ms:List Nat} {m v:Nat} {fs:List Rc} {xs:List Var} (hv:xs.length=v) (h:Xp4 ms m v fs xs=true):VOK ms m v fs xs:=by
 have key:∀ (k:Nat) (x:Var),xs[k]?=some x->Yv1 ms m v fs xs k x=true:=fun k x hx=>by
  have hk:=(List.getElem?_eq_some_iff.1 hx).1
  have:=List.all_eq_true.1 h k (List.mem_range.2 (by omega))
  rw[hx] at this
  exact this
 have key2:∀ (k:Nat) (x:Var),xs[k]?=some x->_:=fun k x hx=>by
  have:=key k x hx
  simp only[Yv1,Bool.and_eq_true] at this
  exact this
 refine⟨fun k x hx=>(key2 k x hx).1.1.1.1,fun k x hx i r hi hr hd=>?_,fun x hx r hr=>?_,fun x hx z hz=>?_,fun k l x z hx hz hl=>?_⟩
 ·have:=List.all_eq_true.1 (key2 k x hx).1.1.1.2 i (List.mem_range.2 hi)
  rw[hr] at this
  simp only[Option.all_some,Bool.or_eq_true,bne_iff_ne,ne_eq] at this
  rcases this with h1|h1
  ·exact absurd hd h1
  ·exact h1
 ·obtain⟨k,hk⟩:=List.mem_iff_getElem?.1 hx
  have:=List.all_eq_true.1 (key2 k x hk).1.1.2 r hr
  simpa using this
 ·obtain⟨k,hk⟩:=List.mem_iff_getElem?.1 hx
  have:=List.all_eq_true.1 (key2 k x hk).1.2 z hz
  simpa using this
 ·have:=List.all_eq_true.1 (key2 k x hx).2 l (List.mem_range.2 hl)
  rw[hz] at this
  simpa using this
def Xuk (fs:List Rc) (xs:List Var):List Rc:=fs++xs.map Var.bRc++[⟨none,none,.holes (xs.map fun x=>(x.t,x.n)),false⟩]
theorem X12 {fs:List Rc} {xs:List Var} {i:Nat} (h:i < fs.length):(Xuk fs xs)[i]?=fs[i]?:=by
 unfold Xuk
 rw[List.append_assoc,List.getElem?_append_left h]
theorem Wfo {fs:List Rc} {xs:List Var} {k:Nat} {x:Var} (h:xs[k]?=some x):(Xuk fs xs)[fs.length+k]?=some x.bRc:=by
 unfold Xuk
 have hk:=(List.getElem?_eq_some_iff.1 h).1
 rw[List.append_assoc,List.getElem?_append_right (by omega),Nat.add_sub_cancel_left,List.getElem?_append_left (by simpa using hk),List.getElem?_map,h]
 rfl
theorem Yo0 {fs:List Rc} {xs:List Var} {i:Nat} {r:Rc} {t:Nat} (h:(Xuk fs xs)[i]?=some r) (hd:r.d=some t):(i < fs.length/\fs[i]?=some r)\/∃ (k:Nat) (x:Var),i=fs.length+k/\xs[k]?=some x/\x.t=t/\r=x.bRc:=by
 by_cases hi:i < fs.length
 ·rw[X12 hi] at h;exact .inl ⟨hi,h⟩
 ·obtain⟨k,rfl⟩:=Nat.exists_eq_add_of_le (Nat.le_of_not_lt hi)
  by_cases hk:k < xs.length
  ·have hx:=List.getElem?_eq_getElem hk
   rw[Wfo hx] at h
   cases h
   exact .inr ⟨k,_,rfl,hx,Option.some.inj hd,rfl⟩
  ·exfalso
   unfold Xuk at h
   rw[List.getElem?_append_right (by simp;omega)] at h
   have:r=⟨none,none,.holes (xs.map fun x=>(x.t,x.n)),false⟩:=by
    have:=List.mem_of_getElem? h
    simpa using this
   subst this
   cases hd
structure InvV (mk:List Nat) (m v:Nat) (fs:List Rc) (xs:List Var) (vs:Nat->V) (fr0:List V) (n0:Nat) (D:Nat->Bool) (e:List Ch) (pos:Nat->Nat) (fr:List V):Prop where
 closed:∀ k i,D k=true->(mk.getD k 0).testBit i=true->D i=true
 len:fr.length=fr0.length
 base:∀ t,(∀ x∈xs,x.t≠t)->Xa0 fr t=Xa0 (frD (fun i=>decide (i < m) && D i) vs (Xuk fs xs) fr0) t
 done:∀ k x,xs[k]?=some x->D (m+k)=true->D (m+v+k)=true->Xa0 fr x.t=vs (m+k)
 pend:∀ k x,xs[k]?=some x->D (m+k)=true->D (m+v+k)=false->Xa0 fr x.t=.one (.ptr (n0+pos k) 0)/\e[pos k]?=some (.cells (x.z.map A.ofZ))
 inj:∀ k l,k < v->l < v->D (m+k)=true->D (m+v+k)=false->D (m+l)=true->D (m+v+l)=false->pos k=pos l->k=l
 cnt:e.length=Yoz (fun k=>D (m+k)) v
 rest:∀ i c,e[i]?=some c->c=.dead\/∃ k,k < v/\D (m+k)=true/\D (m+v+k)=false/\pos k=i
section
variable {n0:Nat} {rs0 rs:List Rc} {vs:Nat->V} {os:Nat->List Ch} {fr0:List V} {own0:List Ch} {mk:List Nat} {m v:Nat} {fs:List Rc} {xs:List Var} {e:List Ch} {pos:Nat->Nat} {fr:List V} {D:Nat->Bool} {j:Nat}
theorem InvV.free (hm:fs.length=m) (hok:VOK mk m v fs xs) (hd:Xcs mk 0 fs=true) (hlay:∀ (i:Nat) (r:Rc),fs[i]?=some r->Yhe r.o=true/\r.g=none)
  (hst:∀ j r,(Xuk fs xs)[j]?=some r->Xcj S true r ⟨frD (fun i=>decide (i < j)) vs (Xuk fs xs) fr0,os j⟩ (vs j) (os (j+1)))
  (hI:InvV mk m v fs xs vs fr0 n0 D e pos fr) {r:Rc} (hj:fs[j]?=some r) (hDj:D j=false) (hready:∀ i,(mk.getD j 0).testBit i=true->D i=true) :
  Xcj S true r ⟨fr,own0++e⟩ (vs j) (own0++e)/\∀ D':Nat->Bool,(∀ i,i≠j->D' i=D i)->D' j=true->InvV mk m v fs xs vs fr0 n0 D' e pos (Xba fr r.d (vs j)):=by
 have hjl:j < fs.length:=(List.getElem?_eq_some_iff.1 hj).1
 have hjm:j < m:=by omega
 have hjr:(Xuk fs xs)[j]?=some r:=by rw[X12 hjl];exact hj
 obtain⟨hlo,hlg⟩:=hlay j r hj
 have pr:∀ i k x y,fs[i]?=some x->fs[k]?=some y->i < k->Xk8 mk i k x y=true:=fun i k x y hx hy hik=>by
  have:=Xgs hd i k x y hx hy hik
  simpa using this
 have hfree:=fun x hx=>hok.free x hx r (List.mem_of_getElem? hj)
 have slots:∀ t∈r.slots,Xa0 fr t=Xa0 (frD (fun i=>decide (i < j)) vs (Xuk fs xs) fr0) t:=by
  intro t ht
  rw[hI.base t fun x hx e=>(hfree x hx).2 (e ▸ ht)]
  refine Xdc _ _ _ _ _ _ t rfl rfl fun i x hx hxd=>?_
  rcases Yo0 hx hxd with ⟨hi,hx⟩|⟨k,z,rfl,hz,hzt,rfl⟩
  ·rcases Nat.lt_trichotomy i j with hij|rfl|hij
   ·rcases (Xbd (pr i j x r hx hj hij)).2 with h1|⟨_,_,h1⟩
    ·simp[hready i h1,hij];omega
    ·exact absurd ht (h1 t hxd)
   ·simp[hDj]
   ·rcases (Xbd (pr j i r x hj hx hij)).2 with h1|⟨_,h1,_⟩
    ·have:D i=false:=by
      cases hDi:D i with
      | false=>rfl
      | true=>have:=hI.closed i j hDi h1;rw[hDj] at this;cases this
     rw[this];simp;omega
    ·exact absurd ht (h1 t hxd)
  ·exact absurd (hzt ▸ ht) (hfree z (List.mem_of_getElem? hz)).2
 have evs:∀ x∈r.o.opds,evO fr x=evO (frD (fun i=>decide (i < j)) vs (Xuk fs xs) fr0) x:=by
  intro x hx
  cases x with
  | c v=>rfl
  | t n =>
   refine slots n ?_
   simp only[Rc.slots,List.mem_append,List.mem_filterMap]
   exact .inr ⟨.t n,hx,rfl⟩
 have hkf:Xdx r.o=.free:=by
  revert hlo
  cases r.o <;> simp[Yhe,Xdx]
 refine⟨?_,fun D' h1 h2=>?_⟩
 ·rcases hst j r hjr with ⟨_,g2,_⟩|⟨t,b,g1,_⟩
  ·refine .inl ⟨fun t b hg=>(by rw[hlg] at hg;cases hg),?_,fun _ _ _=>rfl⟩
   have hsame:os (j+1)=os j:=Xt5 (.inr (.inl hkf)) (fun hq=>by revert hlo hq;cases r.o <;> simp[Yhe,Xsa]) g2
   simp only at g2
   rw[hsame,<- Xin evs] at g2
   exact X1p hkf g2
  ·rw[hlg] at g1;cases g1
 ·have hlt:∀ k,k < v->(D' (m+k)=D (m+k)/\D' (m+v+k)=D (m+v+k)):=fun k hk=>⟨h1 _ (by omega),h1 _ (by omega)⟩
  have hput:∀ x∈xs,Xa0 (Xba fr r.d (vs j)) x.t=Xa0 fr x.t:=fun x hx=>by
   rw[Xer,if_neg (fun e=>(hfree x hx).1 e.1)]
  refine⟨fun k i hk hb=>?_,by rw[Xip];exact hI.len,fun t ht=>?_,fun k x hx=>?_,fun k x hx=>?_,fun k l hk hl=>?_,?_,fun i c hc=>?_⟩
  ·by_cases hij:i=j
   ·rw[hij];exact h2
   ·rw[h1 i hij]
    by_cases hkj:k=j
    ·subst hkj;exact hready i hb
    ·rw[h1 k hkj] at hk
     exact hI.closed k i hk hb
  ·have hadd:frD (fun i=>decide (i < m) && D' i) vs (Xuk fs xs) fr0=Xba (frD (fun i=>decide (i < m) && D i) vs (Xuk fs xs) fr0) r.d (vs j) :=
    X1t hjr (fun i hi=>by simp only[h1 i hi]) (by simp[h2,hjm]) fun i r' t hr' hne hrt hrt'=>by
     rcases Yo0 hr' hrt' with ⟨hi,hx⟩|⟨k,z,rfl,hz,hzt,rfl⟩
     ·rcases Nat.lt_or_gt_of_ne hne with hij|hij
      ·exact (Xbd (pr i j r' r hx hj hij)).1 t hrt' hrt
      ·exact (Xbd (pr j i r r' hj hx hij)).1 t hrt hrt'
     ·exact (hfree z (List.mem_of_getElem? hz)).1 (by rw[hrt,hzt])
   rw[hadd,Xer,Xer,Xbw,hI.len,hI.base t ht]
  ·have hk:=(List.getElem?_eq_some_iff.1 hx).1
   rw[h1 (m+k) (by omega),h1 (m+v+k) (by omega),hput x (List.mem_of_getElem? hx)]
   exact hI.done k x hx
  ·rw[h1 (m+k) (by omega),h1 (m+v+k) (by omega),hput x (List.mem_of_getElem? hx)]
   exact hI.pend k x hx
  ·rw[h1 (m+k) (by omega),h1 (m+v+k) (by omega),h1 (m+l) (by omega),h1 (m+v+l) (by omega)]
   exact hI.inj k l hk hl
  ·rw[hI.cnt]
   exact Xju v fun k hk=>(hlt k hk).1.symm
  ·rcases hI.rest i c hc with h3|⟨k,h3,h4,h5,h6⟩
   ·exact .inl h3
   ·exact .inr ⟨k,h3,by rw[(hlt k h3).1];exact h4,by rw[(hlt k h3).2];exact h5,h6⟩
theorem InvV.make (hv:xs.length=v) (hok:VOK mk m v fs xs) (hI:InvV mk m v fs xs vs fr0 n0 D e pos fr) {k:Nat} {x:Var} (hx:xs[k]?=some x) (hlen:x.t < fr.length) (hDk:D (m+k)=false)
  (hready:∀ i,(mk.getD (m+k) 0).testBit i=true->D i=true) (D':Nat->Bool) (h1:∀ i,i≠m+k->D' i=D i) (h2:D' (m+k)=true) :
  InvV mk m v fs xs vs fr0 n0 D' (e++[.cells (x.z.map A.ofZ)]) (fun l=>if l=k then e.length else pos l) (Xbv fr x.t (.one (.ptr (n0+e.length) 0))):=by
 have hkl:=(List.getElem?_eq_some_iff.1 hx).1
 have hs:D (m+v+k)=false:=by
  cases h:D (m+v+k) with
  | false=>rfl
  | true=>have:=hI.closed _ _ h (hok.own k x hx);rw[hDk] at this;cases this
 have hne:∀ l z,xs[l]?=some z->l≠k->z.t≠x.t:=fun l z hz hl=>by
  rcases Nat.lt_or_gt_of_ne hl with h|h
  ·exact hok.ne k l x z hx hz h
  ·exact (hok.ne l k z x hz hx h).symm
 have hget:∀ t,t≠x.t->Xa0 (Xbv fr x.t (.one (.ptr (n0+e.length) 0))) t=Xa0 fr t:=fun t ht=>by
  rw[Xan,if_neg (fun h=>ht h.1.symm)]
 have hst:∀ l,l < v->D' (m+v+l)=D (m+v+l):=fun l _=>h1 _ (by omega)
 have hal:∀ l,l≠k->D' (m+l)=D (m+l):=fun l hl=>h1 _ (by omega)
 have hposl:∀ l z,xs[l]?=some z->D (m+l)=true->D (m+v+l)=false->pos l < e.length:=fun l z hz h3 h4=>(List.getElem?_eq_some_iff.1 (hI.pend l z hz h3 h4).2).1
 refine⟨fun a i ha hb=>?_,by rw[Xbl];exact hI.len,fun t ht=>?_,fun l z hz h3 h4=>?_,fun l z hz h3 h4=>?_,fun a b ha hb h3 h4 h5 h6 h7=>?_,?_,fun i c hc=>?_⟩
 ·by_cases hij:i=m+k
  ·rw[hij];exact h2
  ·rw[h1 i hij]
   by_cases hkj:a=m+k
   ·subst hkj;exact hready i hb
   ·rw[h1 a hkj] at ha
    exact hI.closed a i ha hb
 ·rw[hget t (ht x (List.mem_of_getElem? hx)).symm,hI.base t ht]
  congr 2
  funext i
  by_cases hi:i < m
  ·rw[h1 i (by omega)]
  ·simp[hi]
 ·have hl:=(List.getElem?_eq_some_iff.1 hz).1
  by_cases hlk:l=k
  ·subst hlk;rw[hst l (by omega),hs] at h4;cases h4
  ·rw[hget z.t (hne l z hz hlk)]
   rw[hal l hlk] at h3
   rw[hst l (by omega)] at h4
   exact hI.done l z hz h3 h4
 ·have hl:=(List.getElem?_eq_some_iff.1 hz).1
  by_cases hlk:l=k
  ·subst hlk
   rw[hx] at hz;cases hz
   refine⟨?_,?_⟩
   ·rw[Xan,if_pos ⟨rfl,hlen⟩,if_pos rfl]
   ·rw[if_pos rfl,List.getElem?_append_right (Nat.le_refl _),Nat.sub_self];rfl
  ·rw[hal l hlk] at h3
   rw[hst l (by omega)] at h4
   obtain⟨g1,g2⟩:=hI.pend l z hz h3 h4
   rw[hget z.t (hne l z hz hlk),if_neg hlk]
   exact⟨g1,by rw[List.getElem?_append_left (hposl l z hz h3 h4)];exact g2⟩
 ·obtain⟨za,hza⟩:∃ z,xs[a]?=some z:=⟨_,List.getElem?_eq_getElem (by omega)⟩
  obtain⟨zb,hzb⟩:∃ z,xs[b]?=some z:=⟨_,List.getElem?_eq_getElem (by omega)⟩
  rw[hst a ha] at h4
  rw[hst b hb] at h6
  by_cases hak:a=k
  ·by_cases hbk:b=k
   ·omega
   ·rw[hal b hbk] at h5
    simp only[if_pos hak,if_neg hbk] at h7
    have:=hposl b zb hzb h5 h6
    omega
  ·rw[hal a hak] at h3
   by_cases hbk:b=k
   ·simp only[if_pos hbk,if_neg hak] at h7
    have:=hposl a za hza h3 h4
    omega
   ·rw[hal b hbk] at h5
    simp only[if_neg hak,if_neg hbk] at h7
    exact hI.inj a b ha hb h3 h4 h5 h6 h7
 ·rw[List.length_append,hI.cnt,Xuj (f:=fun l=>D (m+l)) (g:=fun l=>D' (m+l)) v (by omega) hDk h2 fun i hi=>hal i hi]
  rfl
 ·by_cases hi:i < e.length
  ·rw[List.getElem?_append_left hi] at hc
   rcases hI.rest i c hc with h3|⟨l,h3,h4,h5,h6⟩
   ·exact .inl h3
   ·have hlk:l≠k:=fun e=>by subst e;rw[hDk] at h4;cases h4
    exact .inr ⟨l,h3,by rw[hal l hlk];exact h4,by rw[hst l h3];exact h5,by rw[if_neg hlk];exact h6⟩
  ·have:i=e.length:=by
    have:=(List.getElem?_eq_some_iff.1 hc).1
    simp at this;omega
   exact .inr ⟨k,by omega,h2,by rw[hst k (by omega)];exact hs,by rw[if_pos rfl];exact this.symm⟩
end
end
end Go.Fw
namespace Go.Fw
open Go
def Sx.at_ (S:Sx) (n:Nat):Sx:=⟨S.P,S.gp,n,S.rs,S.R,S.rd⟩
structure Reb (S:Sx) (Y Y':Dyn):Prop where
 h0:Xag.Le Y.H0 Y'.H0
 hn:∀ b o,Y'.H0 b=some o->Y.H0 b=some o\/¬ Y.U b
 al:Anc.Le Y.an0 Y'.an0
 npl:∀ i p,Y.an0 i=some p->i < S.np
 u:∀ b,Y.U b->Y'.U b/\b < Y.w0.heap.size/\Y'.w0.heap[b]?=Y.w0.heap[b]?
 os:Y'.w0.os=Y.w0.os
 tape:Y'.w0.tape=Y.w0.tape
 output:Y'.w0.output=Y.w0.output
 size:Y.w0.heap.size<=Y'.w0.heap.size
 round:Y'.round=Y.round
section
variable {S:Sx} {Y Y':Dyn} {s:St} {a:Act} {w:World} {H:Xag} {an:Anc} {F:Nat->Nat->Prop} {ms:List Nat} {n:Nat}
theorem Reb.back (r:Reb S Y Y') (h:SatX (S.at_ n) Y' s a w H an F ms):SatX S Y s a w H an F ms where
 gp:=h.gp
 h0:=r.h0.trans h.h0
 mod:=h.mod
 fr:=h.fr
 anc:=h.anc
 own:=h.own
 fl:=h.fl
 fp:=fun i b hb=>⟨(h.fp i b hb).1,(h.fp i b hb).2.1,fun hu=>(h.fp i b hb).2.2 (r.u b hu).1⟩
 dj:=h.dj
 hn:=fun b o hb=>(h.hn b o hb).elim (r.hn b o) fun h1=>.inr fun hu=>h1 (r.u b hu).1
 ub:=fun b hu=>⟨(r.u b hu).2.1,(h.ub b (r.u b hu).1).2.trans (r.u b hu).2.2⟩
 os:=h.os.trans r.os
 tape:=h.tape.trans r.tape
 output:=h.output.trans r.output
 size:=Nat.le_trans r.size h.size
 df:=h.df
 mks:=fun m hm=>⟨(h.mks m hm).1,(h.mks m hm).2.1,fun hu=>(h.mks m hm).2.2.1 (r.u m hu).1,(h.mks m hm).2.2.2⟩
 nd:=h.nd
 al:=r.al.trans h.al
 npl:=r.npl
 ro:=h.ro.imp id fun h1=>r.round ▸ h1
theorem SatX.rebase (h:SatX S Y s a w H an F ms) (U:Nat->Prop) (hU:∀ b,Y.U b->U b) (hV:∀ b,U b->Y.U b\/(b < w.heap.size/\H b=none/\(∀ i,¬ F i b)/\b ∉ ms)) :
  Reb S Y ⟨H,an,U,w,Y.round⟩/\SatX (S.at_ s.own.length) ⟨H,an,U,w,Y.round⟩ s a w H an F ms:=by
 refine⟨⟨h.h0,h.hn,h.al,h.npl,fun b hu=>⟨hU b hu,h.ub b hu⟩,h.os,h.tape,h.output,h.size,rfl⟩,
  ⟨h.gp,Xag.Le.refl _,h.mod,h.fr,h.anc,h.own,h.fl,fun i b hb=>⟨(h.fp i b hb).1,(h.fp i b hb).2.1,fun hu=>(hV b hu).elim (h.fp i b hb).2.2 fun q=>q.2.2.1 i hb⟩,h.dj,fun b o hb=>.inl hb,
    fun b hu=>⟨?_,rfl⟩,rfl,rfl,rfl,Nat.le_refl _,h.df,fun m hm=>⟨(h.mks m hm).1,(h.mks m hm).2.1,fun hu=>(hV m hu).elim (h.mks m hm).2.2.1 fun q=>q.2.2.2 hm,(h.mks m hm).2.2.2⟩,h.nd,Anc.Le.refl _,fun i p hp=>(h.anc i).1 ⟨p,hp⟩,h.ro⟩⟩
 rcases hV b hu with h1|h1
 ·exact Nat.lt_of_lt_of_le (h.ub b h1).1 h.size
 ·exact h1.1
theorem SatX.adoptC (h:SatX S Y s a w H an F ms) {b:Nat} {c:Ch} {q:Nat × Value} (hlt:b < w.heap.size) (hc:Xb3 H (an.put s.own.length q) w c q fun x=>x=b) (h1:H b=none) (h2:¬ Y.U b) (h3:∀ i,¬ F i b) (h4:b ∉ ms) :
  SatX S Y ⟨s.fr,s.own++[c]⟩ a w H (an.put s.own.length q) (fun i c=>if i=s.own.length then c=b else F i c) ms:=by
 have hle:Anc.Le an (an.put s.own.length q):=⟨fun i r hr=>by
  refine⟨r,?_,.inl rfl⟩
  unfold Anc.put
  rw[if_neg (by have:=(h.anc i).1 ⟨r,hr⟩;omega)]
  exact hr⟩
 have hF:∀ i c,(if i=s.own.length then c=b else F i c)->i<=s.own.length/\((i=s.own.length/\c=b)\/(i≠s.own.length/\F i c)):=fun i c hc=>by
  split at hc
  ·exact⟨by omega,.inl ⟨‹_›,hc⟩⟩
  ·exact⟨by have:=h.fl i c hc;omega,.inr ⟨‹_›,hc⟩⟩
 refine⟨h.gp,h.h0,h.mod,Xaq.mono (fun _ _=>Xaw.mono (Xag.Le.refl _) hle) h.fr,?_,?_,?_,?_,?_,h.hn,h.ub,h.os,h.tape,h.output,h.size,h.df,?_,h.nd,h.al.trans hle,h.npl,h.ro⟩
 ·intro i
  unfold Anc.put
  by_cases e:i=s.own.length
  ·subst e;simp
  ·rw[if_neg e,h.anc i];simp;omega
 ·intro i c' hc'
  by_cases e:i=s.own.length
  ·subst e
   rw[List.getElem?_append_right (Nat.le_refl _)] at hc'
   simp at hc'
   subst hc'
   refine⟨q,by simp[Anc.put],?_⟩
   simpa using hc
  ·have hil:i < s.own.length:=by
    have:=(List.getElem?_eq_some_iff.1 hc').1
    simp at this
    omega
   rw[List.getElem?_append_left hil] at hc'
   obtain⟨q',hq,hs⟩:=h.own i c' hc'
   refine⟨q',by simp[Anc.put,e,hq],?_⟩
   have:=hs.keep (w':=w) (Xag.Le.refl _) hle (fun _ _=>rfl)
   simpa [e] using this
 ·intro i c hc
  have:=(hF i c hc).1
  simp;omega
 ·intro i c hc
  rcases (hF i c hc).2 with ⟨_,rfl⟩|⟨_,hc⟩
  ·exact⟨hlt,h1,h2⟩
  ·exact h.fp i c hc
 ·intro i j c hi hj
  rcases (hF i c hi).2 with ⟨e,k⟩|⟨e,k⟩ <;> rcases (hF j c hj).2 with ⟨e',k'⟩|⟨e',k'⟩
  ·omega
  ·rw[k] at k';exact absurd k' (h3 j)
  ·rw[k'] at k;exact absurd k (h3 i)
  ·exact h.dj i j _ k k'
 ·intro r hr
  obtain⟨g1,g2,g3,g4⟩:=h.mks r hr
  refine⟨g1,g2,g3,fun i hi=>?_⟩
  rcases (hF i r hi).2 with ⟨_,rfl⟩|⟨_,hi⟩
  ·exact h4 hr
  ·exact g4 i hi
theorem SatX.adopt (h:SatX S Y s a w H an F ms) {b:Nat} {vs:List Value} {T:TypeId} {cs:List A} (hb:w.heap[b]?=some (.cells vs.toArray T (0,0))) (hd:Xav H an cs vs) (h1:H b=none) (h2:¬ Y.U b) (h3:∀ i,¬ F i b) (h4:b ∉ ms) :
  SatX S Y ⟨s.fr,s.own++[.cells cs]⟩ a w H (an.put s.own.length (0,.pointer (some ⟨b,0,none⟩))) (fun i c=>if i=s.own.length then c=b else F i c) ms :=
 h.adoptC (Array.getElem?_eq_some_iff.1 hb).1 ⟨rfl,b,T,vs,rfl,fun _=>Iff.rfl,hb,Xaq.mono (fun _ _=>Xb2.mono (Xag.Le.refl _) ⟨fun i r hr=>⟨r,by unfold Anc.put;rw[if_neg (by have:=(h.anc i).1 ⟨r,hr⟩;omega)];exact hr,.inl rfl⟩⟩) hd⟩ h1 h2 h3 h4
theorem Yo1 (ha:∀ i,(∃ p,an i=some p)↔i < n):∀ {l:List V} {m:List Value},Xaq (Xaw H an) l m->(l.all fun v=>Xhl n v.refsT)=true
 | [],[],_=>rfl
 | v::l,u::m,h=>by
  simp only[List.all_cons,Bool.and_eq_true]
  exact⟨List.all_eq_true.2 fun i hi=>decide_eq_true (Xt8 ha h.1 i hi),Yo1 ha h.2⟩
theorem SatX.own_lt (h:SatX S Y s a w H an F ms):(s.own.all fun c=>Xhl s.own.length c.refs)=true:=by
 refine List.all_eq_true.2 fun c hc=>List.all_eq_true.2 fun i hi=>decide_eq_true ?_
 obtain⟨j,hj⟩:=List.getElem?_of_mem hc
 obtain⟨p,_,hs⟩:=h.own j c hj
 exact hs.refs_lt h.anc i hi
theorem Xov (p:V->Bool):∀ (l:List V) (t:Nat) (v:V),l.all p=true->p v=true->(Xbv l t v).all p=true
 | [],_,_,_,_=>rfl
 | _::l,0,v,h,hv=>by simp only[List.all_cons,Bool.and_eq_true] at h;simp[Xbv,hv,h.2]
 | x::l,t+1,v,h,hv=>by
  simp only[List.all_cons,Bool.and_eq_true] at h
  simp only[Xbv,List.all_cons,Bool.and_eq_true]
  exact⟨h.1,Xov p l t v h.2 hv⟩
theorem SatX.release {fr:List V} {own:List Ch} {cs:List A} (h:SatX S Y ⟨fr,own++[.cells cs]⟩ a w H an F ms) (hnp:∀ i p,Y.an0 i=some p->i < own.length) {t:Nat} (ht:Xa0 fr t=.one (.ptr own.length 0)) {fr1:List V} (hf:∀ x,Xbv fr t x=Xbv fr1 t x)
  (h1:(fr1.all fun v=>Xhl own.length v.refsT)=true) (h2:(own.all fun c=>Xhl own.length c.refs)=true) (h3:∀ i∈cs.flatMap A.refs,i < own.length) :
  ∃ b vs T an' F',w.heap[b]?=some (.cells vs.toArray T (0,0))/\H b=none/\¬ Y.U b/\(∀ i,¬ F' i b)/\b ∉ ms/\Xav H an' cs vs/\SatX S Y ⟨Xbv fr1 t (.one (.d (.raw (.pointer (some ⟨b,0,none⟩))))),own⟩ a w H an' F' ms:=by
 obtain⟨p,hp,h0,b,T,vs,e1,e2,e3,e4⟩:=h.own own.length (.cells cs) (by simp)
 obtain⟨u,hu,hd⟩:=h.fr.get (Xa8 _ _ _ ht (by simp))
 have hub:u=.pointer (some ⟨b,0,none⟩):=by
  obtain⟨b',rfl,q,hq,hqb⟩:=hd
  rw[hp] at hq;cases hq
  rw[hqb b e1]
 subst hub
 have hfr:Xaq (Xaw H an) (Xbv fr1 t (.one (.d (.raw (.pointer (some ⟨b,0,none⟩)))))) a.tmps.toList:=by
  have:=Xbx fr a.tmps.toList t (.one (.d (.raw (.pointer (some ⟨b,0,none⟩))))) _ h.fr (show Xaw H an _ (.pointer (some ⟨b,0,none⟩)) from Den.raw _ rfl)
  rwa [Xjs hu,hf] at this
 have hb:F own.length b:=(e2 b).2 rfl
 have hc:=(h.reframe hfr).cut own.length hnp (Xov _ _ _ _ h1 rfl) (by rw[List.take_left];exact h2)
 simp only[List.take_left] at hc
 refine⟨b,vs,T,_,_,e3,(h.fp _ _ hb).2.1,(h.fp _ _ hb).2.2,fun i hi=>?_,fun hm=>(h.mks b hm).2.2.2 _ hb,?_,hc⟩
 ·have:=h.dj _ _ _ hi.2 hb
  omega
 ·exact Xkr e4 fun i hi=>if_pos (h3 i hi)
def Xzp (u:Value):V:=.one (.d (.raw u))
theorem SatX.releaseR {fr:List V} {own:List Ch} {sz:Nat} {xs0:List (List D)} (h:SatX S Y ⟨fr,own++[.row sz 0 xs0]⟩ a w H an F ms) (hne:xs0≠[]) (hnp:∀ i p,Y.an0 i=some p->i < own.length) {t:Nat} (ht:Xa0 fr t=.one (.own own.length 0)) {fr1:List V} (hf:∀ x,Xbv fr t x=Xbv fr1 t x)
  (h1:(fr1.all fun v=>Xhl own.length v.refsT)=true) (h2:(own.all fun c=>Xhl own.length c.refs)=true) :
  ∃ b u an' F',Xb3 H an' w (.row sz 0 xs0) (0,u) (fun x=>x=b)/\b < w.heap.size/\H b=none/\¬ Y.U b/\(∀ i,¬ F' i b)/\b ∉ ms/\SatX S Y ⟨Xbv fr1 t (Xzp u),own⟩ a w H an' F' ms:=by
 obtain⟨p,hp,h0,g1,g2,g3,g4,g5⟩:=h.own own.length (.row sz 0 xs0) (by simp)
 obtain⟨u,hu,hd⟩:=h.fr.get (Xa8 _ _ _ ht (by simp))
 have hoc:u.oneCell'=true:=hd.1
 have hub:u=p.2:=by
  obtain⟨_,q,hq,_,hqb⟩:=hd
  rw[hp] at hq;cases hq
  exact hqb h0
 have hpu:p=(0,u):=by rw[hub,<- h0]
 subst hpu
 rcases g5 with ⟨e,_⟩|⟨b,o,cap,vs,T,e1,e2,e3,e4⟩
 ·exact absurd e hne
 have hfr:Xaq (Xaw H an) (Xbv fr1 t (Xzp u)) a.tmps.toList:=by
  have:=Xbx fr a.tmps.toList t (Xzp u) _ h.fr (show Xaw H an _ u from Den.raw _ hoc)
  rwa [Xjs hu,hf] at this
 have hb:F own.length b:=(e2 b).2 rfl
 have hc:=(h.reframe hfr).cut own.length hnp (Xov _ _ _ _ h1 rfl) (by rw[List.take_left];exact h2)
 simp only[List.take_left] at hc
 refine⟨b,u,_,_,⟨rfl,g1,g2,g3,g4,.inr ⟨b,o,cap,vs,T,e1,fun _=>Iff.rfl,e3,e4⟩⟩,(h.fp _ _ hb).1,(h.fp _ _ hb).2.1,(h.fp _ _ hb).2.2,fun i hi=>?_,fun hm=>(h.mks b hm).2.2.2 _ hb,hc⟩
 have:=h.dj _ _ _ hi.2 hb
 omega
theorem Wsb {o:MOp} {ev:Opd->V} {own own':List Ch} {v:V}:Ev (S.at_ n) o ev own v own'↔Ev S o ev own v own':=by cases o <;> exact Iff.rfl
theorem X13 {q:Bool} {r:Rc} {v:V} {own':List Ch}:Xcj (S.at_ n) q r s v own'↔Xcj S q r s v own':=by
 unfold Xcj
 rw[Wsb]
theorem X14 {q:Bool} {r:Rc} {v:V} {own own':List Ch} {fr fr':List V} (h:∀ t∈r.slots,Xa0 fr' t=Xa0 fr t) (hs:Xcj S q r ⟨fr,own⟩ v own'):Xcj S q r ⟨fr',own⟩ v own':=by
 have evs:∀ x∈r.o.opds,evO fr' x=evO fr x:=by
  intro x hx
  cases x with
  | c v=>rfl
  | t n =>
   refine h n ?_
   simp only[Rc.slots,List.mem_append,List.mem_filterMap]
   exact .inr ⟨.t n,hx,rfl⟩
 have guard:∀ t b,r.g=some (t,b)->Xa0 fr' t=Xa0 fr t:=fun t b hg=>h t (by simp[Rc.slots,hg])
 rcases hs with ⟨g1,g2,g3⟩|⟨t,b,g1,g2,g3,g4⟩
 ·refine .inl ⟨fun t b hg=>by rw[guard t b hg];exact g1 t b hg,?_,g3⟩
  simp only
  rw[Xin evs];exact g2
 ·exact .inr ⟨t,b,g1,by rw[guard t b g1];exact g2,g3,g4⟩
theorem Xng.app {q:Bool} {K:St->Prop}:∀ {fs ps:List Rc} {s:St},Xng S q K (fs++ps) s->Xng S q (fun s'=>Xng S q K ps s') fs s
 | [],_,_,h=>h
 | ⟨g,d,o,fx⟩::fs,ps,s,h=>by
  rcases h with ⟨v,own',h1,h2,h3,h4⟩|⟨t,b,h1,h2,h4⟩
  ·exact .inl ⟨v,own',h1,h2,h3,Xng.app h4⟩
  ·exact .inr ⟨t,b,h1,h2,Xng.app h4⟩
def Wr1 (frL:List V):List Var->St->St
 | [],s=>s
 | x::xs,s=>Wr1 frL xs ⟨Xbv s.fr x.t (.one (.ptr s.own.length 0)),s.own++[.cells (Xa0 frL x.y).cells]⟩
structure YOK (frL:List V) (x:Var):Prop where
 ok:(Xa0 frL x.y).ok=true
 solid:Xcm (Xa0 frL x.y).cells=true
 len:(Xa0 frL x.y).cells.length=x.n
 t:x.t < frL.length
theorem Xit:∀ {l:List V} {t:Nat},¬ t < l.length->Xa0 l t=.un
 | [],_,_=>rfl
 | _::_,0,h=>by simp at h
 | _::l,t+1,h=>Xit (l:=l) (by simpa using h)
theorem X15 {q:Bool} {K:St->Prop} {frL:List V}:∀ {xs:List Var} {s:St},(∀ x∈xs,x.z.length=x.n)->(∀ x∈xs,∀ z∈xs,z.y≠x.t)->s.fr.length=frL.length->(∀ x∈xs,Xa0 s.fr x.y=Xa0 frL x.y) ->
  Xng S q K (xs.flatMap Var.two) s->(∀ x∈xs,YOK frL x)/\K (Wr1 frL xs s)
 | [],s,_,_,_,_,h=>⟨by simp,h⟩
 | x::xs,s,hz,hy,hl,hg,h=>by
  have h:Xng S q K (x.aRc::x.sRc::xs.flatMap Var.two) s:=h
  rcases h with ⟨v,own',_,⟨rfl,rfl⟩,_,h⟩|⟨t,b,h1,_⟩
  ·rcases h with ⟨v,own',_,hs,_,h⟩|⟨t,b,h1,_⟩
   ·obtain⟨e1,e2,rfl,e4⟩:=hs
    have hyx:x.y≠x.t:=hy x (by simp) x (by simp)
    have hgy:evO (Xba s.fr (some x.t) (.one (.ptr s.own.length 0))) (.t x.y)=Xa0 frL x.y:=by
     show Xa0 (Xbv s.fr x.t _) x.y=_
     rw[Xan,if_neg (fun h=>hyx h.1.symm)]
     exact hg x (by simp)
    have ht:x.t < s.fr.length:=by
     by_cases hlt:x.t < s.fr.length
     ·exact hlt
     ·exfalso
      have:evO (Xba s.fr (some x.t) (.one (.ptr s.own.length 0))) (.t x.t)=.un:=Xit (by show ¬ x.t < (Xbv s.fr x.t _).length;rw[Xbl];exact hlt)
      simp only[Var.aRc,this] at e4
    have hgt:evO (Xba s.fr (some x.t) (.one (.ptr s.own.length 0))) (.t x.t)=.one (.ptr s.own.length 0):=by
     show Xa0 (Xbv s.fr x.t _) x.t=_
     rw[Xan,if_pos ⟨rfl,ht⟩]
    simp only[Var.aRc] at e1 e2 e4 h
    rw[hgy] at e1 e2
    simp only[hgt,hgy] at e4
    have hgc:Xao (s.own++[Ch.cells (x.z.map A.ofZ)]) s.own.length=.cells (x.z.map A.ofZ):=by
     have:∀ (l:List Ch) (c:Ch),Xao (l++[c]) l.length=c:=by
      intro l c
      induction l with
      | nil=>rfl
      | cons d l ih=>exact ih
     exact this _ _
    rw[hgc] at e4
    obtain⟨_,e5,rfl⟩:=e4
    have hzn:=hz x (by simp)
    have ho:Xbt (s.own++[Ch.cells (x.z.map A.ofZ)]) s.own.length (.cells (((x.z.map A.ofZ).take 0++(Xa0 frL x.y).cells)++(x.z.map A.ofZ).drop (0+x.n)))=s.own++[.cells (Xa0 frL x.y).cells]:=by
     rw[Xah,List.set_append_right _ _ (Nat.le_refl _),Nat.sub_self,List.drop_of_length_le (by simp[hzn])]
     simp
    rw[ho] at h
    obtain⟨g1,g2⟩:=X15 (frL:=frL) (fun z hzz=>hz z (by simp[hzz])) (fun z hzz u hu=>hy z (by simp[hzz]) u (by simp[hu])) (by show (Xbv s.fr x.t _).length=_;rw[Xbl];exact hl) (fun z hzz=>by
     show Xa0 (Xbv s.fr x.t _) z.y=_
     rw[Xan,if_neg (fun h=>hy x (by simp) z (by simp[hzz]) h.1.symm)]
     exact hg z (by simp[hzz])) h
    refine⟨fun z hzz=>?_,g2⟩
    rcases List.mem_cons.1 hzz with rfl|hzz
    ·exact⟨e1,e5,e2,by rw[<- hl];exact ht⟩
    ·exact g1 z hzz
   ·cases h1
  ·cases h1
end
def Yil (b:Nat):V:=.one (.d (.raw (.pointer (some ⟨b,0,none⟩))))
def Xm2 (ko:Option RowK) (ru:Value) (frA:List V) (y:Nat):V:=match ko with
 | some r=>if r.t=y then Xzp ru else Xa0 frA y
 | none=>Xa0 frA y
def Ywn (ko:Option RowK) (ru:Value) (fs:List Rc) (vs:Nat->V) (fr0:List V) (x:Var) (done:Bool):List A:=if done then (Xm2 ko ru (frD (fun _=>true) vs fs fr0) x.y).cells else x.z.map A.ofZ
def Xzq (Y Y1:Dyn) (ko:Option RowK) (ru:Value) (fs:List Rc) (vs:Nat->V) (fr0 fr1:List V) (x:Var) (done:Bool) (b:Nat):Prop :=
 Xa0 fr1 x.t=Yil b/\¬ Y.U b/\Y1.H0 b=none/\∃ us T,Y1.w0.heap[b]?=some (.cells us.toArray T (0,0))/\Xav Y1.H0 Y1.an0 (Ywn ko ru fs vs fr0 x done) us
def X16 (Y Y1:Dyn) (r:RowK) (xs0:List (List D)) (fr1:List V) (ru:Value) (b:Nat):Prop :=
 Xa0 fr1 r.t=Xzp ru/\¬ Y.U b/\Y1.H0 b=none/\Xb3 Y1.H0 Y1.an0 Y1.w0 (.row r.sz 0 xs0) (0,ru) fun c=>c=b
def knK (v:Nat):Option RowK->Nat
 | none=>v
 | some _=>v+1
def ixK (m v:Nat) (ko:Option RowK) (k:Nat):Nat:=if k < v then m+k else match ko with
 | some r=>r.j
 | none=>0
structure InvW (S:Sx) (Y:Dyn) (mk:List Nat) (m v:Nat) (fs:List Rc) (xs:List Var) (ko:Option RowK) (xs0:List (List D)) (vs:Nat->V) (fr0:List V) (D:Nat->Bool) (fr1:List V) (Y1:Dyn) (B:Nat->Nat) (ru:Value):Prop where
 len:fr1.length=fr0.length
 base:∀ t,(∀ x∈xs,x.t≠t)->(∀ r,ko=some r->r.t≠t)->Xa0 fr1 t=Xa0 fr0 t
 reb:Reb S Y Y1
 u:∀ c,Y1.U c↔Y.U c\/∃ k,k < knK v ko/\D (ixK m v ko k)=true/\c=B k
 var:∀ k x,xs[k]?=some x->D (m+k)=true->Xzq Y Y1 ko ru fs vs fr0 fr1 x (D (m+v+k)) (B k)
 row:∀ r,ko=some r->D r.j=true->X16 Y Y1 r xs0 fr1 ru (B v)
 inj:∀ k l,k < knK v ko->l < knK v ko->D (ixK m v ko k)=true->D (ixK m v ko l)=true->B k=B l->k=l
structure KOK (ms:List Nat) (m v:Nat) (fs:List Rc) (xs:List Var) (r:RowK):Prop where
 n:0 < r.n
 j:r.j < m
 free:∀ x∈fs,x.d≠some r.t/\r.t ∉ x.slots
 var:∀ x∈xs,x.t≠r.t/\x.t ∉ r.rc.slots
 self:r.t ∉ r.rc.slots
 ops:∀ (i:Nat) (q:Rc),i < m->fs[i]?=some q->∀ s∈r.rc.slots,q.d=some s->(ms.getD r.j 0).testBit i=true
 y:∀ (k:Nat) (x:Var),xs[k]?=some x->x.y=r.t->(ms.getD (m+v+k) 0).testBit r.j=true
 used:∃ x∈xs,x.y=r.t
theorem Xzr {ms:List Nat} {m v:Nat} {fs:List Rc} {xs:List Var} {r:RowK} (hv:xs.length=v) (h:Yhf ms m v fs xs r=true):KOK ms m v fs xs r:=by
 simp only[Yhf,Bool.and_eq_true,decide_eq_true_eq] at h
 obtain⟨⟨h1,h2⟩,h3,h4,h5,h6,h7,h8⟩:=h
 refine⟨h1,h2,fun x hx=>?_,fun x hx=>?_,by simpa using h5,fun i q hi hq s hs hd=>?_,fun k x hk hy=>?_,?_⟩
 ·simpa using List.all_eq_true.1 h3 x hx
 ·simpa using List.all_eq_true.1 h4 x hx
 ·have:=List.all_eq_true.1 h6 i (List.mem_range.2 hi)
  rw[hq] at this
  simp only[Option.all_some] at this
  have:=List.all_eq_true.1 this s hs
  simp only[Bool.or_eq_true,bne_iff_ne,ne_eq] at this
  exact this.resolve_left fun h=>h hd
 ·have hkv:=(List.getElem?_eq_some_iff.1 hk).1
  have:=List.all_eq_true.1 h7 k (List.mem_range.2 (by omega))
  rw[hk] at this
  simp only[Option.all_some,Bool.or_eq_true,bne_iff_ne,ne_eq] at this
  exact this.resolve_left fun h=>h hy
 ·obtain⟨x,hx,he⟩:=List.any_eq_true.1 h8
  exact⟨x,hx,by simpa using he⟩
theorem Xny:∀ {l:List Rc} {i:Nat} {r:RowK},X0s i l=some r->i<=r.j/\l[r.j - i]?=some r.rc
 | [],i,r,h=>by cases h
 | x::l,i,r,h=>by
  have rec_:X0s (i+1) l=some r->i<=r.j/\(x::l)[r.j - i]?=some r.rc:=fun h=>by
   obtain⟨h1,h2⟩:=Xny h
   refine⟨by omega,?_⟩
   rw[show r.j - i=(r.j - (i+1))+1 by omega,List.getElem?_cons_succ]
   exact h2
  unfold X0s at h
  split at h
  ·cases h
   exact⟨Nat.le_refl _,by simp[RowK.rc]⟩
  ·exact rec_ h
section
variable {S:Sx} {Y Y1:Dyn} {a:Act} {w:World} {H:Xag} {an:Anc} {F:Nat->Nat->Prop} {ms:List Nat} {n:Nat}
variable {mk:List Nat} {m v:Nat} {fs:List Rc} {xs:List Var} {ko:Option RowK} {xs0:List (List D)} {vs:Nat->V} {fr0 fr1:List V} {D D':Nat->Bool} {B:Nat->Nat} {ru:Value} {own:List Ch}
theorem X17 {frA:List V} {y:Nat} (h:∀ r,ko=some r->r.t≠y):Xm2 ko ru frA y=Xa0 frA y:=by
 unfold Xm2
 split
 ·rw[if_neg (h _ rfl)]
 ·rfl
theorem Xck {k:Nat} (h:k < v):ixK m v ko k=m+k:=by unfold ixK;rw[if_pos h]
theorem Xes {r:RowK} (h:ko=some r):ixK m v ko v=r.j:=by subst h;unfold ixK;rw[if_neg (by omega)]
theorem Xde {k:Nat} (h:k < v):k < knK v ko:=by unfold knK;split <;> omega
theorem Xow {r:RowK} (h:ko=some r):v < knK v ko:=by subst h;show v < v+1;omega
theorem Xet {k:Nat} (h:k < knK v ko):k < v\/(k=v/\∃ r,ko=some r):=by
 unfold knK at h
 split at h
 ·exact .inl h
 ·rcases Nat.lt_or_ge k v with h1|h1
  ·exact .inl h1
  ·exact .inr ⟨by omega,_,rfl⟩
theorem Xq1 {s:St} {P:Nat->Prop} (hreb:Reb S Y Y1) (hu:∀ c,Y1.U c↔Y.U c\/P c) (hP:∀ c,P c->Y1.H0 c=none) {b:Nat} (hb1:b < w.heap.size) (hb2:H b=none) (hb4:∀ i,¬ F i b) (hb5:b ∉ ms) (hs:SatX (S.at_ n) Y1 s a w H an F ms) :
  Reb S Y ⟨H,an,fun c=>Y1.U c\/c=b,w,Y.round⟩/\SatX (S.at_ s.own.length) ⟨H,an,fun c=>Y1.U c\/c=b,w,Y.round⟩ s a w H an F ms :=
 (hreb.back hs).rebase (fun c=>Y1.U c\/c=b) (fun c hc=>.inl ((hu c).2 (.inl hc))) (fun c hc=>by
  rcases hc with hc|rfl
  ·rcases (hu c).1 hc with h1|h1
   ·exact .inl h1
   ·have hl0:=hP c h1
    refine .inr ⟨Nat.lt_of_lt_of_le (hs.ub c hc).1 hs.size,?_,fun i hi=>(hs.fp i c hi).2.2 hc,fun hm=>(hs.mks c hm).2.2.1 hc⟩
    cases e:H c with
    | none=>rfl
    | some o =>
     rcases hs.hn c o e with h5|h5
     ·rw[hl0] at h5;cases h5
     ·exact absurd hc h5
  ·exact .inr ⟨hb1,hb2,hb4,hb5⟩)
theorem Xgu {s:St} (hs:SatX (S.at_ n) Y1 s a w H an F ms) {c:Nat} (hc:Y1.U c) (h0:Y1.H0 c=none):H c=none:=by
 cases e:H c with
 | none=>rfl
 | some o =>
  rcases hs.hn c o e with h5|h5
  ·rw[h0] at h5;cases h5
  ·exact absurd hc h5
theorem Xzq.go {s:St} {x:Var} {done:Bool} {b:Nat} {fr2:List V} {U:Nat->Prop} {rd:Option Nat} (h:Xzq Y Y1 ko ru fs vs fr0 fr1 x done b) (hs:SatX (S.at_ n) Y1 s a w H an F ms) (hc:Y1.U b) (hf:Xa0 fr2 x.t=Xa0 fr1 x.t) :
  Xzq Y ⟨H,an,U,w,rd⟩ ko ru fs vs fr0 fr2 x done b:=by
 obtain⟨g1,g2,g3,us,T,g4,g5⟩:=h
 refine⟨by rw[hf];exact g1,g2,Xgu hs hc g3,us,T,?_,Xaq.mono (fun _ _=>Xb2.mono hs.h0 hs.al) g5⟩
 show w.heap[b]?=_
 rw[(hs.ub b hc).2];exact g4
theorem X16.go {s:St} {r:RowK} {b:Nat} {fr2:List V} {U:Nat->Prop} {rd:Option Nat} (h:X16 Y Y1 r xs0 fr1 ru b) (hs:SatX (S.at_ n) Y1 s a w H an F ms) (hc:Y1.U b) (hf:Xa0 fr2 r.t=Xa0 fr1 r.t) :
  X16 Y ⟨H,an,U,w,rd⟩ r xs0 fr2 ru b:=by
 obtain⟨g1,g2,g3,g4⟩:=h
 exact⟨by rw[hf];exact g1,g2,Xgu hs hc g3,g4.keep hs.h0 hs.al fun x hx=>by subst hx;exact (hs.ub _ hc).2⟩
theorem Xul {t:Nat} (hno:∀ r∈fs,r.d≠some t) {V0:V} (hD:∀ (i:Nat) (r:Rc),fs[i]?=some r->r.d≠none->D' i=D i):Xbv (frD D vs fs fr1) t V0=frD D' vs fs (Xbv fr1 t V0):=by
 have hno:∀ (i:Nat) (r:Rc),fs[i]?=some r->r.d≠some t:=fun i r hr=>hno r (List.mem_of_getElem? hr)
 refine Xgp (by rw[Xbl,Xbw,Xbw,Xbl]) fun t'=>?_
 by_cases ht:t=t'
 ·subst ht
  have e1:Xa0 (frD D' vs fs (Xbv fr1 t V0)) t=Xa0 (Xbv fr1 t V0) t:=by
   have:=Xdc fs D' (fun _=>false) vs (Xbv fr1 t V0) (Xbv fr1 t V0) t rfl rfl fun i r hr hd=>absurd hd (hno i r hr)
   rwa [Xe8 fs _ vs _ fun _=>rfl] at this
  rw[e1]
  by_cases hl:t < fr1.length
  ·rw[Xan,Xan,if_pos ⟨rfl,by rw[Xbw];exact hl⟩,if_pos ⟨rfl,hl⟩]
  ·rw[Xit (by rw[Xbl,Xbw];exact hl),Xit (by rw[Xbl];exact hl)]
 ·rw[Xan,if_neg (fun h=>ht h.1)]
  refine Xdc fs D D' vs fr1 (Xbv fr1 t V0) t' (by rw[Xbl]) (by rw[Xan,if_neg (fun h=>ht h.1)]) fun i r hr hd=>?_
  exact (hD i r hr (by rw[hd];simp)).symm
theorem InvW.turn (hv:xs.length=v) (hok:VOK mk m v fs xs) (hkk:∀ r,ko=some r->KOK mk m v fs xs r) (hm:fs.length=m) {k:Nat} {x:Var} (hx:xs[k]?=some x) (hlen:fr1.length=fr0.length) (hbase:∀ t,(∀ x∈xs,x.t≠t)->(∀ r,ko=some r->r.t≠t)->Xa0 fr1 t=Xa0 fr0 t)
  (hreb:Reb S Y Y1) (hu:∀ c,Y1.U c↔Y.U c\/∃ l,l < knK v ko/\l≠k/\D (ixK m v ko l)=true/\c=B l)
  (hvar:∀ l z,xs[l]?=some z->l≠k->D (m+l)=true->Xzq Y Y1 ko ru fs vs fr0 fr1 z (D (m+v+l)) (B l))
  (hrow:∀ r,ko=some r->D r.j=true->X16 Y Y1 r xs0 fr1 ru (B v))
  (hinj:∀ k l,k < knK v ko->l < knK v ko->D (ixK m v ko k)=true->D (ixK m v ko l)=true->B k=B l->k=l)
  (hD:∀ i,i≠m+k->i≠m+v+k->D' i=D i) (hDk:D' (m+k)=true)
  {b:Nat} {us:List Value} {T:TypeId} (hb1:w.heap[b]?=some (.cells us.toArray T (0,0))) (hb2:H b=none) (hb3:¬ Y1.U b) (hb4:∀ i,¬ F i b) (hb5:b ∉ ms) (hb6:Xav H an (Ywn ko ru fs vs fr0 x (D' (m+v+k))) us)
  (hlt:x.t < fr1.length) (hs:SatX (S.at_ n) Y1 ⟨Xbv (frD D vs fs fr1) x.t (Yil b),own⟩ a w H an F ms) :
  ∃ Y2,InvW S Y mk m v fs xs ko xs0 vs fr0 D' (Xbv fr1 x.t (Yil b)) Y2 (fun l=>if l=k then b else B l) ru/\SatX (S.at_ own.length) Y2 ⟨frD D' vs fs (Xbv fr1 x.t (Yil b)),own⟩ a w H an F ms:=by
 have hxm:=List.mem_of_getElem? hx
 have hk:k < v:=by rw[<- hv];exact (List.getElem?_eq_some_iff.1 hx).1
 have hUY:∀ c,Y.U c->Y1.U c:=fun c hc=>(hu c).2 (.inl hc)
 have hfr:Xbv (frD D vs fs fr1) x.t (Yil b)=frD D' vs fs (Xbv fr1 x.t (Yil b)):=Xul (fun r hr=>(hok.free x hxm r hr).1) fun i r hr _=>by
  have:=(List.getElem?_eq_some_iff.1 hr).1
  exact hD i (by omega) (by omega)
 rw[hfr] at hs
 have hne:∀ l z,xs[l]?=some z->l≠k->z.t≠x.t:=fun l z hz hl=>by
  rcases Nat.lt_or_gt_of_ne hl with h|h
  ·exact hok.ne k l x z hx hz h
  ·exact (hok.ne l k z x hz hx h).symm
 have hrt:∀ r,ko=some r->r.t≠x.t:=fun r hr=>((hkk r hr).var x hxm).1.symm
 have hix:∀ l,l < knK v ko->l≠k->ixK m v ko l≠m+k/\ixK m v ko l≠m+v+k:=fun l hl hlk=>by
  rcases Xet hl with h|⟨rfl,r,hr⟩
  ·rw[Xck h];omega
  ·rw[Xes hr]
   have:=(hkk r hr).j
   omega
 have hDl:∀ l,l < knK v ko->l≠k->D' (ixK m v ko l)=D (ixK m v ko l):=fun l h1 h2=>hD _ (hix l h1 h2).1 (hix l h1 h2).2
 have hP:∀ c,(∃ l,l < knK v ko/\l≠k/\D (ixK m v ko l)=true/\c=B l)->Y1.H0 c=none:=by
  rintro c ⟨l,h1,h2,h3,rfl⟩
  rcases Xet h1 with h|⟨rfl,r,hr⟩
  ·rw[Xck h] at h3
   exact (hvar l _ (List.getElem?_eq_getElem (by omega)) h2 h3).2.2.1
  ·rw[Xes hr] at h3
   exact (hrow r hr h3).2.2.1
 obtain⟨hr,hs2⟩:=Xq1 hreb hu hP (Array.getElem?_eq_some_iff.1 hb1).1 hb2 hb4 hb5 hs
 refine⟨_,⟨by rw[Xbl];exact hlen,fun t ht htr=>?_,hr,fun c=>?_,fun l z hz hl=>?_,fun r hko hl=>?_,fun i j hi hj h1 h2 e=>?_⟩,hs2⟩
 ·rw[Xan,if_neg (fun h=>ht x hxm h.1)]
  exact hbase t ht htr
 ·constructor
  ·rintro (hc|rfl)
   ·rcases (hu c).1 hc with h1|⟨l,h1,h2,h3,h4⟩
    ·exact .inl h1
    ·exact .inr ⟨l,h1,by rw[hDl l h1 h2];exact h3,by rw[if_neg h2];exact h4⟩
   ·exact .inr ⟨k,Xde hk,by rw[Xck hk];exact hDk,by rw[if_pos rfl]⟩
  ·rintro (hc|⟨l,h1,h2,h3⟩)
   ·exact .inl (hUY c hc)
   ·by_cases e:l=k
    ·rw[if_pos e] at h3;exact .inr h3
    ·rw[if_neg e] at h3
     rw[hDl l h1 e] at h2
     exact .inl ((hu c).2 (.inr ⟨l,h1,e,h2,h3⟩))
 ·have hlv:l < v:=by rw[<- hv];exact (List.getElem?_eq_some_iff.1 hz).1
  by_cases e:l=k
  ·subst e
   rw[hx] at hz;cases hz
   simp only[if_true]
   exact⟨by rw[Xan,if_pos ⟨rfl,hlt⟩],fun h=>hb3 (hUY b h),hb2,us,T,hb1,hb6⟩
  ·simp only[if_neg e]
   have hl':=hl
   rw[hD _ (by omega) (by omega)] at hl'
   rw[hD (m+v+l) (by omega) (by omega)]
   exact (hvar l z hz e hl').go hs ((hu _).2 (.inr ⟨l,Xde hlv,e,by rw[Xck hlv];exact hl',rfl⟩)) (by rw[Xan,if_neg (fun h=>hne l z hz e h.1.symm)])
 ·have hjm:=(hkk r hko).j
  have hvk:v≠k:=by omega
  simp only[if_neg hvk]
  rw[hD _ (by omega) (by omega)] at hl
  exact (hrow r hko hl).go hs ((hu _).2 (.inr ⟨v,Xow hko,hvk,by rw[Xes hko];exact hl,rfl⟩)) (by rw[Xan,if_neg (fun h=>hrt r hko h.1.symm)])
 ·have hbne:∀ l,l < knK v ko->l≠k->D (ixK m v ko l)=true->B l≠b:=fun l h1 h2 h3 e=>hb3 (by rw[<- e];exact (hu _).2 (.inr ⟨l,h1,h2,h3,rfl⟩))
  by_cases ei:i=k <;> by_cases ej:j=k
  ·omega
  ·simp only[if_pos ei,if_neg ej] at e
   rw[hDl j hj ej] at h2
   exact absurd e.symm (hbne j hj ej h2)
  ·simp only[if_pos ej,if_neg ei] at e
   rw[hDl i hi ei] at h1
   exact absurd e (hbne i hi ei h1)
  ·simp only[if_neg ei,if_neg ej] at e
   rw[hDl i hi ei] at h1
   rw[hDl j hj ej] at h2
   exact hinj i j hi hj h1 h2 e
theorem InvW.turnR (hv:xs.length=v) (hm:fs.length=m) {r:RowK} (hko:ko=some r) (hk:KOK mk m v fs xs r) (hhole:fs[r.j]?=some Xla) (h:InvW S Y mk m v fs xs ko xs0 vs fr0 D fr1 Y1 B ru) (hDj:D r.j=false)
  (hnd:∀ (k:Nat) (x:Var),xs[k]?=some x->x.y=r.t->D (m+v+k)=false) (hD:∀ i,i≠r.j->D' i=D i) (hDk:D' r.j=true)
  {b:Nat} {u:Value} (hb0:Xb3 H an w (.row r.sz 0 xs0) (0,u) fun x=>x=b) (hb1:b < w.heap.size) (hb2:H b=none) (hb3:¬ Y1.U b) (hb4:∀ i,¬ F i b) (hb5:b ∉ ms) (hlt:r.t < fr1.length)
  (hs:SatX (S.at_ n) Y1 ⟨Xbv (frD D vs fs fr1) r.t (Xzp u),own⟩ a w H an F ms) :
  ∃ Y2,InvW S Y mk m v fs xs ko xs0 vs fr0 D' (Xbv fr1 r.t (Xzp u)) Y2 (fun l=>if l=v then b else B l) u/\SatX (S.at_ own.length) Y2 ⟨frD D' vs fs (Xbv fr1 r.t (Xzp u)),own⟩ a w H an F ms:=by
 have hfr:Xbv (frD D vs fs fr1) r.t (Xzp u)=frD D' vs fs (Xbv fr1 r.t (Xzp u)):=Xul (fun q hq=>(hk.free q hq).1) fun i q hq hne=>hD i fun e=>by
  subst e;rw[hhole] at hq;cases hq;exact hne rfl
 rw[hfr] at hs
 have hjm:=hk.j
 have hP:∀ c,(∃ l,l < knK v ko/\D (ixK m v ko l)=true/\c=B l)->Y1.H0 c=none:=by
  rintro c ⟨l,h1,h3,rfl⟩
  rcases Xet h1 with h'|⟨rfl,_,_⟩
  ·rw[Xck h'] at h3
   exact (h.var l _ (List.getElem?_eq_getElem (by omega)) h3).2.2.1
  ·rw[Xes hko,hDj] at h3;cases h3
 obtain⟨hr,hs2⟩:=Xq1 h.reb h.u hP hb1 hb2 hb4 hb5 hs
 have hlv:∀ l,l < knK v ko->l≠v->l < v:=fun l h1 h2=>(Xet h1).elim (fun q=>q) fun q=>absurd q.1 h2
 have hDl:∀ l,l < knK v ko->l≠v->D' (ixK m v ko l)=D (ixK m v ko l):=fun l h1 h2=>by
  rw[Xck (hlv l h1 h2)]
  exact hD _ (by omega)
 refine⟨_,⟨by rw[Xbl];exact h.len,fun t ht htr=>?_,hr,fun c=>?_,fun l z hz hl=>?_,fun r' hko' hl=>?_,fun i j hi hj h1 h2 e=>?_⟩,hs2⟩
 ·rw[Xan,if_neg (fun q=>htr r hko q.1)]
  exact h.base t ht htr
 ·constructor
  ·rintro (hc|rfl)
   ·rcases (h.u c).1 hc with h1|⟨l,h1,h3,h4⟩
    ·exact .inl h1
    ·have h2:l≠v:=fun e=>by subst e;rw[Xes hko,hDj] at h3;cases h3
     exact .inr ⟨l,h1,by rw[hDl l h1 h2];exact h3,by rw[if_neg h2];exact h4⟩
   ·exact .inr ⟨v,Xow hko,by rw[Xes hko];exact hDk,by rw[if_pos rfl]⟩
  ·rintro (hc|⟨l,h1,h2,h3⟩)
   ·exact .inl ((h.u c).2 (.inl hc))
   ·by_cases e:l=v
    ·rw[if_pos e] at h3;exact .inr h3
    ·rw[if_neg e] at h3
     rw[hDl l h1 e] at h2
     exact .inl ((h.u c).2 (.inr ⟨l,h1,h2,h3⟩))
 ·have hl0:l < v:=by rw[<- hv];exact (List.getElem?_eq_some_iff.1 hz).1
  have e:l≠v:=by omega
  simp only[if_neg e]
  have hl':=hl
  rw[hD _ (by omega)] at hl'
  rw[hD (m+v+l) (by omega)]
  have hzm:=List.mem_of_getElem? hz
  have g:=(h.var l z hz hl').go (fr2:=Xbv fr1 r.t (Xzp u)) (U:=fun c=>Y1.U c\/c=b) (rd:=Y.round) hs ((h.u _).2 (.inr ⟨l,Xde hl0,by rw[Xck hl0];exact hl',rfl⟩)) (by rw[Xan,if_neg (fun q=>(hk.var z hzm).1 q.1.symm)])
  by_cases ey:z.y=r.t
  ·have hf:=hnd l z hz ey
   rw[hf] at g ⊢
   exact g
  ·have ev:∀ q frA,Xm2 ko q frA z.y=Xa0 frA z.y:=fun q frA=>X17 fun r'' h''=>by rw[hko] at h'';cases h'';exact fun e=>ey e.symm
   unfold Xzq Ywn at g ⊢
   simp only[ev] at g ⊢
   exact g
 ·rw[hko] at hko';cases hko'
  simp only[if_true]
  exact⟨by rw[Xan,if_pos ⟨rfl,hlt⟩],fun q=>hb3 ((h.u b).2 (.inl q)),hb2,hb0⟩
 ·have hbne:∀ l,l < knK v ko->l≠v->D (ixK m v ko l)=true->B l≠b:=fun l h1 h2 h3 e=>hb3 (by rw[<- e];exact (h.u _).2 (.inr ⟨l,h1,h3,rfl⟩))
  by_cases ei:i=v <;> by_cases ej:j=v
  ·omega
  ·simp only[if_pos ei,if_neg ej] at e
   rw[hDl j hj ej] at h2
   exact absurd e.symm (hbne j hj ej h2)
  ·simp only[if_pos ej,if_neg ei] at e
   rw[hDl i hi ei] at h1
   exact absurd e (hbne i hi ei h1)
  ·simp only[if_neg ei,if_neg ej] at e
   rw[hDl i hi ei] at h1
   rw[hDl j hj ej] at h2
   exact h.inj i j hi hj h1 h2 e
def Wuv (S:Sx) (Y:Dyn) (w:World) (H:Xag) (an:Anc) (F:Nat->Nat->Prop) (ms:List Nat) (fr:List V) (cs:List A) (t b:Nat):Prop :=
 Xa0 fr t=Yil b/\H b=none/\¬ Y.U b/\(∀ i,¬ F i b)/\b ∉ ms/\∃ us T,w.heap[b]?=some (.cells us.toArray T (0,0))/\Xav H an cs us
theorem Yim {fr:List V} {t b:Nat} {o:List Ch} (h:SatX S Y ⟨fr,o⟩ a w H an F ms) (ht:Xa0 fr t=Yil b):a.tmps.toList[t]?=some (.pointer (some ⟨b,0,none⟩)):=by
 obtain⟨u,hu,hd⟩:=h.fr.get (Xa8 _ _ _ ht (by simp[Yil]))
 cases hd
 exact hu
theorem Xha {o:List Ch} {q:Nat × Value} (h:∀ i,(∃ p,an i=some p)↔i < o.length):Anc.Le an (an.put o.length q):=⟨fun i r hr=>by
 refine⟨r,?_,.inl rfl⟩
 unfold Anc.put
 rw[if_neg (by have:=(h i).1 ⟨r,hr⟩;omega)]
 exact hr⟩
def Xgb (ko:Option RowK) (xs0:List (List Go.Fw.D)) (s:St):St:=match ko with
 | some r=>⟨Xbv s.fr r.t (.one (.own s.own.length 0)),s.own++[.row r.sz 0 xs0]⟩
 | none=>s
structure RowF (ko:Option RowK) (xs0:List (List Go.Fw.D)) (frA:List V) (r:RowK):Prop where
 z:r.z.length=r.sz
 b:r.n*r.sz<=16777216
 sz:0 < r.sz
 lay:Xpx (evO frA) r.sz (Xdv r.z r.n) r.ps=some xs0
 ok:(r.ps.all fun p=>(evO frA p.2).ok)=true
 ne:xs0≠[]
 t:r.t < frA.length
theorem Ywo {x:Var} {frA:List V} {o:List Ch} (hr:∀ r,ko=some r->r.t < frA.length) (h:YOK (Xgb ko xs0 ⟨frA,o⟩).fr x):(Xm2 ko ru frA x.y).ok=true/\Xcm (Xm2 ko ru frA x.y).cells=true/\(Xm2 ko ru frA x.y).cells.length=x.n:=by
 obtain⟨h1,h2,h3,_⟩:=h
 cases ko with
 | none=>exact⟨h1,h2,h3⟩
 | some r =>
  simp only[Xgb,Xm2] at h1 h2 h3 ⊢
  rw[Xan] at h1 h2 h3
  by_cases e:r.t=x.y
  ·rw[if_pos ⟨e,by rw[<- e];exact hr r rfl⟩] at h1 h2 h3
   rw[if_pos e]
   exact⟨rfl,rfl,h3⟩
  ·rw[if_neg (fun q=>e q.1)] at h1 h2 h3
   rw[if_neg e]
   exact⟨h1,h2,h3⟩
theorem SatX.take_in {fr:List V} {cs:List A} {t b:Nat} (h:SatX S Y ⟨fr,own⟩ a w H an F ms) (hk:Wuv S Y w H an F ms fr cs t b) :
  SatX S Y ⟨Xbv fr t (.one (.ptr own.length 0)),own++[.cells cs]⟩ a w H (an.put own.length (0,.pointer (some ⟨b,0,none⟩))) (fun i c=>if i=own.length then c=b else F i c) ms:=by
 obtain⟨h1,h2,h3,h4,h5,us,T,h6,h7⟩:=hk
 have ha:=h.adopt h6 h7 h2 h3 h4 h5
 have hu:=Yim h h1
 refine ha.reframe ?_
 have:=Xbx fr a.tmps.toList t (.one (.ptr own.length 0)) _ ha.fr (show Xaw H _ _ (.pointer (some ⟨b,0,none⟩)) from ⟨b,rfl,(0,.pointer (some ⟨b,0,none⟩)),by simp[Anc.put],fun b' e=>by cases e;rfl⟩)
 rwa [Xjs hu] at this
theorem SatX.take_inR {fr:List V} {sz t b:Nat} {u:Value} (h:SatX S Y ⟨fr,own⟩ a w H an F ms) (ht:Xa0 fr t=Xzp u) (hc:Xb3 H an w (.row sz 0 xs0) (0,u) fun x=>x=b) (hlt:b < w.heap.size) (h1:H b=none) (h2:¬ Y.U b) (h3:∀ i,¬ F i b) (h4:b ∉ ms) :
  SatX S Y ⟨Xbv fr t (.one (.own own.length 0)),own++[.row sz 0 xs0]⟩ a w H (an.put own.length (0,u)) (fun i c=>if i=own.length then c=b else F i c) ms:=by
 have ha:=h.adoptC (c:=.row sz 0 xs0) (q:=(0,u)) hlt (hc.keep (Xag.Le.refl _) (Xha h.anc) fun _ _=>rfl) h1 h2 h3 h4
 obtain⟨u',hu,hd⟩:=h.fr.get (Xa8 _ _ _ ht (by simp[Xzp]))
 have hu':u'=u/\u.oneCell'=true:=by
  cases hd with
  | raw _ ho=>exact⟨rfl,ho⟩
 obtain⟨rfl,ho⟩:=hu'
 refine ha.reframe ?_
 have:=Xbx fr a.tmps.toList t (.one (.own own.length 0)) _ ha.fr (show Xaw H _ _ u' from ⟨ho,(0,u'),by simp[Anc.put],Nat.le_refl _,fun _=>rfl⟩)
 rwa [Xjs hu] at this
theorem X18 {frL:List V}:∀ (ys:List Var) (k0:Nat) (fr frT:List V) (own:List Ch) (an:Anc) (F:Nat->Nat->Prop),SatX S Y ⟨fr,own⟩ a w H an F ms->fr.length=frT.length->(∀ t,(∀ y∈ys,y.t≠t)->Xa0 fr t=Xa0 frT t) ->
  (∀ (i:Nat) (y:Var),ys[i]?=some y->y.t < fr.length/\Wuv S Y w H an F ms fr (Xa0 frL y.y).cells y.t (B (k0+i)))->(∀ i j,i < ys.length->j < ys.length->B (k0+i)=B (k0+j)->i=j)->(∀ (i j:Nat) (y z:Var),ys[i]?=some y->ys[j]?=some z->i≠j->y.t≠z.t) ->
  Sat S Y (Wr1 frL ys ⟨frT,own⟩) a w
 | [],k0,fr,frT,own,an,F,h,hl,hg,_,_,_=>by
  have e:fr=frT:=Xgp hl fun t=>hg t (by simp)
  subst e
  exact⟨H,an,F,ms,h⟩
 | y::ys,k0,fr,frT,own,an,F,h,hl,hg,hk,hi,hn=>by
  have hk0:=hk 0 y rfl
  rw[Nat.add_zero] at hk0
  have h1:=h.take_in hk0.2
  refine X18 ys (k0+1) _ (Xbv frT y.t (.one (.ptr own.length 0))) _ _ _ h1 (by rw[Xbl,Xbl];exact hl) (fun t ht=>?_) (fun i z hz=>?_) (fun i j hi' hj' e=>?_) (fun i j u z hu hz hij=>hn (i+1) (j+1) u z (by simpa using hu) (by simpa using hz) (by omega))
  ·by_cases e:y.t=t
   ·subst e
    rw[Xan,Xan,if_pos ⟨rfl,hk0.1⟩,if_pos ⟨rfl,by rw[<- hl];exact hk0.1⟩]
   ·rw[Xan,Xan,if_neg (fun h=>e h.1),if_neg (fun h=>e h.1)]
    refine hg t fun z hz=>?_
    rcases List.mem_cons.1 hz with rfl|hz
    ·exact e
    ·exact ht z hz
  ·obtain⟨g0,g1,g2,g3,g4,g5,us,T,g6,g7⟩:=hk (i+1) z (by simpa using hz)
   have hil:i < ys.length:=(List.getElem?_eq_some_iff.1 hz).1
   have hbb:B (k0+(i+1))≠B k0:=fun e=>by
    have:=hi (i+1) 0 (by simp;omega) (by simp) (by rw[e,Nat.add_zero])
    omega
   have ht:z.t≠y.t:=hn (i+1) 0 z y (by simpa using hz) rfl (by omega)
   rw[show k0+1+i=k0+(i+1) by omega]
   refine⟨by rw[Xbl];exact g0,by rw[Xan,if_neg (fun h=>ht h.1.symm)];exact g1,g2,g3,fun j hj=>?_,g5,us,T,g6,Xaq.mono (fun _ _=>Xb2.mono (Xag.Le.refl _) (Xha h.anc)) g7⟩
   have hj:if j=own.length then B (k0+(i+1))=B k0 else F j (B (k0+(i+1))):=hj
   split at hj
   ·exact hbb hj
   ·exact g4 j hj
  ·have:=hi (i+1) (j+1) (by simp;omega) (by simp;omega) (by rw[show k0+(i+1)=k0+1+i by omega,show k0+(j+1)=k0+1+j by omega];exact e)
   omega
theorem InvW.same (h:InvW S Y mk m v fs xs ko xs0 vs fr0 D fr1 Y1 B ru) (hD:∀ i,m<=i->D' i=D i) (hR:∀ r,ko=some r->D' r.j=D r.j):InvW S Y mk m v fs xs ko xs0 vs fr0 D' fr1 Y1 B ru:=by
 have hI:∀ k,k < knK v ko->D' (ixK m v ko k)=D (ixK m v ko k):=fun k hk=>by
  rcases Xet hk with h'|⟨rfl,r,hr⟩
  ·rw[Xck h',hD _ (by omega)]
  ·rw[Xes hr,hR r hr]
 refine⟨h.len,h.base,h.reb,fun c=>?_,fun k x hx hk=>?_,fun r hr hk=>?_,fun k l hk hl h1 h2=>h.inj k l hk hl (by rw[<- hI k hk];exact h1) (by rw[<- hI l hl];exact h2)⟩
 ·rw[h.u c]
  constructor
  ·rintro (h1|⟨k,h1,h2,h3⟩)
   ·exact .inl h1
   ·exact .inr ⟨k,h1,by rw[hI k h1];exact h2,h3⟩
  ·rintro (h1|⟨k,h1,h2,h3⟩)
   ·exact .inl h1
   ·exact .inr ⟨k,h1,by rw[<- hI k h1];exact h2,h3⟩
 ·rw[hD _ (by omega)] at hk ⊢
  exact h.var k x hx hk
 ·rw[hR r hr] at hk
  exact h.row r hr hk
theorem Yin {z:List Go.Fw.D} {N:Nat}:∀ i∈(z.map A.ofZ).flatMap A.refs,i < N:=fun i hi=>by
 obtain⟨c,hc,hi⟩:=List.mem_flatMap.1 hi
 obtain⟨d,_,rfl⟩:=List.mem_map.1 hc
 cases d <;> simp[A.ofZ,A.refs,A.refs0] at hi
theorem Xzs {x:V}:∀ i∈x.cells.flatMap A.refs,i∈x.refs:=by
 cases x <;> simp[V.cells,V.refs]
theorem Xq2:∀ (l:List Ch) (c:Ch),Xao (l++[c]) l.length=c
 | [],_=>rfl
 | _::l,c=>Xq2 l c
set_option maxHeartbeats 2000000 in
theorem Yio {ops:Array Oper} {hs:List Nat} {Q:Exit->Act->World->Prop} {rs0 rs ls:List Rc} {os:Nat->List Ch} (href:Yib rs0 rs) (he:Xeo 0 ops.toList=true) (ht0:Xjj S.P hs ops ops.toList=some rs0)
  (hrs:rs=ls++(xs.map Var.aRc++xs.map Var.sRc)) (hlm:ls.length=m) (hm:fs.length=m) (hv:xs.length=v) (hz:∀ x∈xs,x.z.length=x.n)
  (hl1:∀ j,(∀ r,ko=some r->j≠r.j)->ls[j]?=fs[j]?) (hl2:∀ r,ko=some r->ls[r.j]?=some r.rc/\fs[r.j]?=some Xla)
  (hok:VOK (Xau ops.toList []) m v fs xs) (hkk:∀ r,ko=some r->KOK (Xau ops.toList []) m v fs xs r) (hkf:∀ r,ko=some r->RowF ko xs0 (frD (fun _=>true) vs fs fr0) r) (hd:Xcs (Xau ops.toList []) 0 fs=true)
  (hst:∀ j r,fs[j]?=some r->Xcj S true r ⟨frD (fun i=>decide (i < j)) vs fs fr0,os j⟩ (vs j) (os (j+1)))
  (hy:∀ x∈xs,YOK (Xgb ko xs0 ⟨frD (fun _=>true) vs fs fr0,os m⟩).fr x)
  (hQ:∀ a w,Sat S Y (Wr1 (Xgb ko xs0 ⟨frD (fun _=>true) vs fs fr0,os m⟩).fr xs (Xgb ko xs0 ⟨frD (fun _=>true) vs fs fr0,os m⟩)) a w->Q .normal a w) :
  ∀ (fuel:Nat) (listed:Array Bool) (p:Nat) (fr1:List V) (Y1:Dyn) (B:Nat->Nat) (ru:Value) (n:Nat) (a:Act) (w:World),listed.size=ops.size->listed.toList.count false=fuel->InvD (Xau ops.toList []) fs (fun i=>listed.getD i false) p ->
   InvW S Y (Xau ops.toList []) m v fs xs ko xs0 vs fr0 (fun i=>listed.getD i false) fr1 Y1 B ru->Sat (S.at_ n) Y1 ⟨frD (fun i=>listed.getD i false) vs fs fr1,os p⟩ a w->wpAnyIn (Xfc Y.round) 0 S.P .any ops Q fuel listed a w:=by
 have hlen:rs.length=ops.size:=by rw[href.1,(Xgq ht0).1,Array.length_toList]
 have hn:rs.length=m+v+v:=by rw[hrs];simp;omega
 have hrt:∀ r,ko=some r->r.t < (frD (fun _=>true) vs fs fr0).length:=fun r hr=>(hkf r hr).t
 have hfrL:∀ o,(Xgb ko xs0 ⟨frD (fun _=>true) vs fs fr0,o⟩).fr.length=fr0.length:=fun o=>by
  unfold Xgb
  split
  ·rw[Xbl,Xbw]
  ·rw[Xbw]
 have hlt:∀ x∈xs,x.t < fr0.length:=fun x hx=>by have:=(hy x hx).t;rwa [hfrL] at this
 have hyok:∀ ru,∀ x∈xs,(Xm2 ko ru (frD (fun _=>true) vs fs fr0) x.y).ok=true/\Xcm (Xm2 ko ru (frD (fun _=>true) vs fs fr0) x.y).cells=true/\(Xm2 ko ru (frD (fun _=>true) vs fs fr0) x.y).cells.length=x.n:=fun ru x hx=>Ywo hrt (hy x hx)
 have hst1:∀ (fr1:List V) (n:Nat),fr1.length=fr0.length->(∀ t,(∀ x∈xs,x.t≠t)->(∀ r,ko=some r->r.t≠t)->Xa0 fr1 t=Xa0 fr0 t)->∀ j r,fs[j]?=some r->Xcj (S.at_ n) true r ⟨frD (fun i=>decide (i < j)) vs fs fr1,os j⟩ (vs j) (os (j+1)):=fun fr1 n hl hb j r hr=>by
  refine X13.2 (X14 (fun t ht=>?_) (hst j r hr))
  exact Xdc fs _ _ vs fr1 fr0 t hl (hb t (fun x hx e=>(hok.free x hx r (List.mem_of_getElem? hr)).2 (e ▸ ht)) fun q hq e=>((hkk q hq).free r (List.mem_of_getElem? hr)).2 (e ▸ ht)) fun i x _ _=>rfl
 have hrslot:∀ (D:Nat->Bool) (fr1:List V),∀ r,ko=some r->Xa0 (frD D vs fs fr1) r.t=Xa0 fr1 r.t:=fun D fr1 r hr=>by
  have:=Xdc fs D (fun _=>false) vs fr1 fr1 r.t rfl rfl fun i q hq hdd=>absurd hdd ((hkk r hr).free q (List.mem_of_getElem? hq)).1
  rwa [Xe8 fs _ vs _ fun _=>rfl] at this
 have hyv:∀ (D:Nat->Bool) (fr1:List V) (Y1:Dyn) (B:Nat->Nat) (ru:Value),InvW S Y (Xau ops.toList []) m v fs xs ko xs0 vs fr0 D fr1 Y1 B ru->∀ x∈xs,(∀ i r,fs[i]?=some r->r.d=some x.y->D i=true)->(∀ r,ko=some r->x.y=r.t->D r.j=true) ->
   Xa0 (frD D vs fs fr1) x.y=Xm2 ko ru (frD (fun _=>true) vs fs fr0) x.y:=fun D fr1 Y1 B ru hW x hx hdone hrd=>by
  by_cases e:∃ r,ko=some r/\r.t=x.y
  ·obtain⟨r,hr,e⟩:=e
   rw[<- e,hrslot D fr1 r hr,(hW.row r hr (hrd r hr e.symm)).1]
   subst hr
   simp only[Xm2,if_true]
  ·rw[X17 fun r hr h=>e ⟨r,hr,h⟩]
   exact Xdc fs D _ vs fr1 fr0 x.y hW.len (hW.base x.y (fun z hzm e=>hok.y z hzm x hx e.symm) fun r hr h=>e ⟨r,hr,h⟩) fun i r hi hdd=>hdone i r hi hdd
 have hslot:∀ (D:Nat->Bool) (fr1:List V),∀ x∈xs,Xa0 (frD D vs fs fr1) x.t=Xa0 fr1 x.t:=fun D fr1 x hx=>by
  have:=Xdc fs D (fun _=>false) vs fr1 fr1 x.t rfl rfl fun i r hr hdd=>absurd hdd (hok.free x hx r (List.mem_of_getElem? hr)).1
  rwa [Xe8 fs _ vs _ fun _=>rfl] at this
 have ends:∀ (listed:Array Bool) (p:Nat) (fr1:List V) (Y1:Dyn) (B:Nat->Nat) (ru:Value) (n:Nat) (a:Act) (w:World),listed.size=ops.size->InvD (Xau ops.toList []) fs (fun i=>listed.getD i false) p ->
   InvW S Y (Xau ops.toList []) m v fs xs ko xs0 vs fr0 (fun i=>listed.getD i false) fr1 Y1 B ru->Sat (S.at_ n) Y1 ⟨frD (fun i=>listed.getD i false) vs fs fr1,os p⟩ a w->Region.ready .any ops listed=[]->Q .normal a w:=by
  intro listed p fr1 Y1 B ru n a w hsz hI hW h hr
  have all:∀ j,j < ops.size->listed.getD j false=true:=by
   intro j
   induction j using Nat.strongRecOn with
   | _ j ih =>
    intro hj
    cases hD:listed.getD j false with
    | true=>rfl
    | false =>
     exfalso
     have ho:ops[j]?=some ops[j]:=Array.getElem?_eq_getElem hj
     have:j∈Region.ready .any ops listed:=mem_ready.2 ⟨by simpa [Array.getD_eq_getD_getElem?,hsz,hj] using hD,_,ho,fun e hea hb=>by
      have:=Xgr he j ops[j] (by simpa using ho) e.on (Xfx.2 ⟨e,hea,hb,rfl⟩)
      exact ih e.on (by omega) (by omega)⟩
     rw[hr] at this;cases this
  have hos:os m=os p:=by
   obtain⟨k,hk⟩:=Nat.exists_eq_add_of_le hI.ple
   rw[<- hm,hk]
   refine Xl2 hst p k (by omega) fun i r h1 h2 hr=>?_
   cases hc:Xbm r.kind with
   | false=>rfl
   | true =>
    exfalso
    have:=(hI.pos i r hr hc).1 (all i (by omega))
    omega
  obtain⟨H,an,F,ms,hsx⟩:=h
  have hb:=hW.reb.back hsx
  have hU:∀ k,k < knK v ko->Y1.U (B k):=fun k hk=>(hW.u _).2 (.inr ⟨k,hk,all _ (by
   rcases Xet hk with h'|⟨rfl,r,hr⟩
   ·rw[Xck h'];omega
   ·rw[Xes hr];have:=(hkk r hr).j;omega),rfl⟩)
  have hF:∀ k,k < knK v ko->(∀ i,¬ F i (B k))/\B k ∉ ms:=fun k hk=>⟨fun i hi=>(hsx.fp i _ hi).2.2 (hU k hk),fun hmm=>(hsx.mks _ hmm).2.2.1 (hU k hk)⟩
  have hbase:∀ t,(∀ x∈xs,x.t≠t)->(∀ r,ko=some r->r.t≠t)->Xa0 (frD (fun i=>listed.getD i false) vs fs fr1) t=Xa0 (frD (fun _=>true) vs fs fr0) t:=fun t h1 h2 =>
   Xdc fs _ _ vs fr1 fr0 t hW.len (hW.base t h1 h2) fun i r hi _=>all i (by have:=(List.getElem?_eq_some_iff.1 hi).1;omega)
  have row:∃ fr2 an2 F2,SatX S Y ⟨fr2,(Xgb ko xs0 ⟨frD (fun _=>true) vs fs fr0,os p⟩).own⟩ a w H an2 F2 ms/\fr2.length=fr0.length/\(∀ t,(∀ x∈xs,x.t≠t)->Xa0 fr2 t=Xa0 (Xgb ko xs0 ⟨frD (fun _=>true) vs fs fr0,os p⟩).fr t) /\
    (∀ x∈xs,Xa0 fr2 x.t=Xa0 fr1 x.t)/\Anc.Le an an2/\(∀ k,k < v->∀ i,¬ F2 i (B k))/\∀ x∈xs,∀ us,Xav H an (Xm2 ko ru (frD (fun _=>true) vs fs fr0) x.y).cells us->Xav H an2 (Xa0 (Xgb ko xs0 ⟨frD (fun _=>true) vs fs fr0,os p⟩).fr x.y).cells us:=by
   by_cases hk:∃ r,ko=some r
   ·obtain⟨r,hr⟩:=hk
    have hvk:=Xow (v:=v) hr
    obtain⟨g1,g2,g3,g4⟩:=hW.row r hr (all _ (by have:=(hkk r hr).j;omega))
    have hrl:=hrt r hr
    have t1:=hb.take_inR (t:=r.t) (by rw[hrslot _ _ r hr];exact g1) (g4.keep hsx.h0 hsx.al fun x hx=>by subst hx;exact (hsx.ub _ (hU v hvk)).2) (Nat.lt_of_lt_of_le (hsx.ub _ (hU v hvk)).1 hsx.size) (Xgu hsx (hU v hvk) g3) g2 (hF v hvk).1 (hF v hvk).2
    subst hr
    refine⟨_,_,_,t1,by rw[Xbl,Xbw,hW.len],fun t ht=>?_,fun x hx=>?_,Xha hb.anc,fun k hk i hi=>?_,fun x hx us hus=>?_⟩
    ·show Xa0 (Xbv _ _ _) t=Xa0 (Xbv _ _ _) t
     rw[Xan,Xan]
     by_cases e:r.t=t
     ·subst e
      rw[if_pos ⟨rfl,by rw[Xbw,hW.len,<- Xbw fs (fun _=>true) vs fr0];exact hrl⟩,if_pos ⟨rfl,hrl⟩]
     ·rw[if_neg (fun q=>e q.1),if_neg (fun q=>e q.1)]
      exact hbase t ht fun q hq=>by cases hq;exact e
    ·rw[Xan,if_neg (fun q=>((hkk r rfl).var x hx).1 q.1.symm)]
     exact hslot _ _ x hx
    ·have hi:if i=(os p).length then B k=B v else F i (B k):=hi
     split at hi
     ·have:=hW.inj k v (Xde hk) hvk (by rw[Xck hk];exact all _ (by omega)) (by rw[Xes rfl];exact all _ (by have:=(hkk r rfl).j;omega)) hi
      omega
     ·exact (hF k (Xde hk)).1 i hi
    ·show Xav H _ (Xa0 (Xbv _ _ _) x.y).cells us
     rw[Xan]
     by_cases e:r.t=x.y
     ·rw[if_pos ⟨e,by rw[<- e];exact hrl⟩]
      simp only[Xm2,if_pos e] at hus
      obtain⟨u',rfl,hu'⟩:∃ u',us=[u']/\Xb2 H an (.d (.raw ru)) u':=by
       cases us with
       | nil=>exact hus.elim
       | cons u' l=>cases l with
        | nil=>exact⟨u',rfl,hus.1⟩
        | cons _ _=>exact hus.2.elim
      have hu':Den H (.raw ru) u':=hu'
      cases hu' with
      | raw _ ho=>exact⟨show Xb2 H _ (.own (os p).length 0) _ from ⟨ho,(0,ru),by simp[Anc.put],Nat.le_refl _,fun _=>rfl⟩,trivial⟩
     ·rw[if_neg (fun q=>e q.1)]
      simp only[Xm2,if_neg e] at hus
      exact Xaq.mono (fun _ _=>Xb2.mono (Xag.Le.refl _) (Xha hb.anc)) hus
   ·have hno:ko=none:=by cases ko with
     | none=>rfl
     | some r=>exact absurd ⟨r,rfl⟩ hk
    subst hno
    exact⟨_,_,_,hb,by rw[Xbw,hW.len],fun t ht=>hbase t ht fun q hq=>(by cases hq),fun x hx=>hslot _ _ x hx,Anc.Le.refl _,fun k hk=>(hF k hk).1,fun x hx us h=>h⟩
  obtain⟨fr2,an2,F2,q1,q2,q3,q4,q5,q6,q7⟩:=row
  refine hQ a w ?_
  rw[hos]
  have e0:Xgb ko xs0 ⟨frD (fun _=>true) vs fs fr0,os p⟩=⟨(Xgb ko xs0 ⟨frD (fun _=>true) vs fs fr0,os p⟩).fr,(Xgb ko xs0 ⟨frD (fun _=>true) vs fs fr0,os p⟩).own⟩:=rfl
  rw[e0]
  refine X18 (B:=B) xs 0 fr2 _ _ an2 F2 q1 (by rw[q2,hfrL]) q3 (fun k x hx=>?_) (fun i j hi hj e=>?_) (fun i j y z hy' hz' hij=>?_)
  ·have hk:=(List.getElem?_eq_some_iff.1 hx).1
   have hkv:k < v:=by omega
   have hxm:=List.mem_of_getElem? hx
   obtain⟨g1,g2,g3,us,T,g4,g5⟩:=hW.var k x hx (all _ (by omega))
   rw[Nat.zero_add]
   refine⟨by rw[q2];exact hlt x hxm,by rw[q4 x hxm];exact g1,Xgu hsx (hU k (Xde hkv)) g3,g2,q6 k hkv,(hF k (Xde hkv)).2,us,T,?_,?_⟩
   ·rw[(hsx.ub _ (hU k (Xde hkv))).2];exact g4
   ·rw[show listed.getD (m+v+k) false=true from all _ (by omega)] at g5
    exact q7 x hxm us (Xaq.mono (fun _ _=>Xb2.mono hsx.h0 hsx.al) g5)
  ·rw[Nat.zero_add,Nat.zero_add] at e
   have hi':i < v:=by omega
   have hj':j < v:=by omega
   exact hW.inj i j (Xde hi') (Xde hj') (by rw[Xck hi'];exact all _ (by omega)) (by rw[Xck hj'];exact all _ (by omega)) e
  ·rcases Nat.lt_or_gt_of_ne hij with h|h
   ·exact hok.ne j i z y hz' hy' h
   ·exact (hok.ne i j y z hy' hz' h).symm
 intro fuel
 induction fuel with
 | zero =>
  intro listed p fr1 Y1 B ru n a w hsz hc hI hW h
  have hr:Region.ready .any ops listed=[]:=by
   rw[List.eq_nil_iff_forall_not_mem]
   intro j hj
   obtain⟨h1,o,ho,_⟩:=mem_ready.1 hj
   have hlt:j < listed.size:=by rw[hsz];exact (Array.getElem?_eq_some_iff.1 ho).1
   simp only[Array.getD_eq_getD_getElem?,Array.getElem?_eq_getElem hlt,Option.getD_some] at h1
   have:false∈listed.toList:=by rw[<- h1];simp
   have:=List.count_pos_iff.2 this
   omega
  exact⟨hr,ends listed p fr1 Y1 B ru n a w hsz hI hW h hr⟩
 | succ fuel ih =>
  intro listed p fr1 Y1 B ru n a w hsz hc hI hW h
  refine⟨ends listed p fr1 Y1 B ru n a w hsz hI hW h,fun j hj=>?_⟩
  obtain⟨h1,o,ho,hall⟩:=mem_ready.1 hj
  have hltj:j < ops.size:=(Array.getElem?_eq_some_iff.1 ho).1
  have hlj:listed[j]?=some false:=by
   have hl:j < listed.size:=by omega
   simp only[Array.getD_eq_getD_getElem?,Array.getElem?_eq_getElem hl,Option.getD_some] at h1
   rw[Array.getElem?_eq_getElem hl,h1]
  obtain⟨r1,hr1,htr⟩:=(Xgq ht0).2 j o (by simpa using ho)
  obtain⟨r,hr⟩:∃ r,rs[j]?=some r:=⟨_,List.getElem?_eq_getElem (by rw[hlen];exact hltj)⟩
  obtain⟨r0,hr0,hs4,hs5,hs6⟩:=href.2 j r hr
  rw[hr1] at hr0
  cases hr0
  have hsame:r1.g=r.g/\r1.d=r.d/\Xso r1.o r.o:=⟨hs4,hs5,hs6⟩
  have hDj:listed.getD j false=false:=by simp[Array.getD_eq_getD_getElem?,hlj]
  have hedge:∀ e∈Xd1 o,listed.getD e false=true:=fun e hem=>by
   obtain⟨g,hg,hb,rfl⟩:=Xfx.1 hem
   exact hall g hg hb
  have hmk:∀ i,((Xau ops.toList []).getD j 0).testBit i=true->listed.getD i false=true:=by
   intro i hb
   obtain⟨e,hem,h2⟩:=Xnu (l:=ops.toList) (by simpa using ho) hb
   rcases h2 with rfl|h2
   ·exact hedge i hem
   ·exact hI.closed e i (hedge e hem) h2
  have hD:∀ i,(listed.setIfInBounds j true).getD i false=if i=j then true else listed.getD i false:=by
   intro i
   simp only[Array.getD_eq_getD_getElem?,Array.getElem?_setIfInBounds]
   by_cases e:j=i
   ·subst e;simp[hsz,hltj]
   ·simp[e,Ne.symm e]
  have hD1:∀ i,i≠j->(listed.setIfInBounds j true).getD i false=listed.getD i false:=fun i hi=>by rw[hD,if_neg hi]
  have hD2:(listed.setIfInBounds j true).getD j false=true:=by rw[hD,if_pos rfl]
  have hsz':(listed.setIfInBounds j true).size=ops.size:=by simp[hsz]
  have hcount:(listed.setIfInBounds j true).toList.count false=fuel:=by
   have:=count_set listed.toList j (by simpa using hlj)
   simp only[Array.toList_setIfInBounds]
   omega
  have hround:Y1.round=Y.round:=hW.reb.round
  have hjD:∀ r,ko=some r->j≠r.j->(listed.setIfInBounds j true).getD r.j false=listed.getD r.j false:=fun r _ hne=>hD1 _ (Ne.symm hne)
  have hInv:(∀ r,fs[j]?=some r->Xbm r.kind=false)->InvD (Xau ops.toList []) fs (fun i=>(listed.setIfInBounds j true).getD i false) p:=fun hch=>⟨fun k i hk hb=>by
    by_cases hij:i=j
    ·rw[hij];exact hD2
    ·rw[hD1 i hij]
     by_cases hkj:k=j
     ·subst hkj;exact hmk i hb
     ·rw[hD1 k hkj] at hk
      exact hI.closed k i hk hb,fun i r hi hc=>by
    have hij:i≠j:=fun e=>by subst e;rw[hch r hi] at hc;cases hc
    rw[hD1 i hij];exact hI.pos i r hi hc,hI.ple⟩
  obtain⟨H0,an0,F0,ms0,hp⟩:=id h
  have hall1:=Yo1 hp.anc hp.fr
  have hall2:=hp.own_lt
  have hnp:∀ i q,Y1.an0 i=some q->i < (os p).length:=fun i q hq=>by
   obtain⟨q',hq',_⟩:=hp.al.same i q hq
   exact (hp.anc i).1 ⟨q',hq'⟩
  by_cases hjk:∃ r,ko=some r/\j=r.j
  · -- the row is made
   obtain⟨rk,hko,rfl⟩:=hjk
   have hk:=hkk rk hko
   have hf:=hkf rk hko
   have hrx:r=rk.rc:=by
    rw[hrs,List.getElem?_append_left (by rw[hlm];exact hk.j),(hl2 rk hko).1] at hr
    exact (Option.some.inj hr).symm
   subst hrx
   have hl0:rk.t < (frD (fun i=>listed.getD i false) vs fs fr1).length:=by rw[Xbw,hW.len,<- Xbw fs (fun _=>true) vs fr0];exact hrt rk hko
   have hops:∀ x∈rk.rc.o.opds,evO (frD (fun i=>listed.getD i false) vs fs fr1) x=evO (frD (fun _=>true) vs fs fr0) x:=fun x hx=>by
    cases x with
    | c _=>rfl
    | t s =>
     have hs:s∈rk.rc.slots:=by
      simp only[Rc.slots,List.mem_append,List.mem_filterMap]
      exact .inr ⟨.t s,hx,rfl⟩
     show Xa0 _ s=Xa0 _ s
     refine Xdc fs _ _ vs fr1 fr0 s hW.len (hW.base s (fun x hx e=>(hk.var x hx).2 (e ▸ hs)) fun q hq e=>by rw[hko] at hq;cases hq;exact hk.self (e ▸ hs)) fun i q hi hdd=>hmk i (hk.ops i q (by have:=(List.getElem?_eq_some_iff.1 hi).1;omega) hi s hs hdd)
   have hev:Ev (S.at_ n) rk.rc.o (evO (frD (fun i=>listed.getD i false) vs fs fr1)) (os p) (.one (.own (os p).length 0)) (os p++[.row rk.sz 0 xs0]):=by
    rw[Xin hops]
    exact⟨hf.z,hf.b,hf.sz,xs0,hf.lay,hf.ok,rfl,rfl⟩
   have key:=Xiq (S:=S.at_ n) (Y:=Y1) (Q:=Q) (q:=true) (v:=.one (.own (os p).length 0)) (own':=os p++[.row rk.sz 0 xs0]) (K:=fun a' w'=>wpAnyIn (Xfc Y.round) 0 S.P .any ops Q fuel (listed.setIfInBounds rk.j true) a' w') ho htr hsame h (.inl ⟨fun t b hg=>(by cases hg),hev,fun _ _ hq=>(by cases hq)⟩) fun a' w' h'=>by
    obtain⟨H',an',F',ms',hx'⟩:=h'
    obtain⟨b,u,an2,F2,g1,g2,g3,g4,g5,g6,g7⟩:=hx'.releaseR hf.ne hnp (t:=rk.t) (by show Xa0 (Xbv _ _ _) _=_;rw[Xan,if_pos ⟨rfl,hl0⟩]) (fun z=>Xgo _ _ _ _) hall1 hall2
    obtain⟨Y2,hW2,hs2⟩:=InvW.turnR hv hm hko hk (hl2 rk hko).2 hW hDj (D':=fun i=>(listed.setIfInBounds rk.j true).getD i false) (fun k x hx hxy=>by
     cases e:listed.getD (m+v+k) false with
     | false=>rfl
     | true=>have:=hI.closed _ _ e (hk.y k x hx hxy);rw[hDj] at this;cases this) (fun i hi=>hD1 i hi) hD2 g1 g2 g3 g4 g5 g6 (by rw[hW.len,<- Xbw fs (fun _=>true) vs fr0];exact hrt rk hko) g7
    exact ih _ p _ Y2 _ _ _ a' w' hsz' hcount (hInv fun q hq=>by rw[(hl2 rk hko).2] at hq;cases hq;rfl) hW2 ⟨H',an2,F2,ms',hs2⟩
   rw[hround] at key
   exact key
  have hjk':∀ r,ko=some r->j≠r.j:=fun r hr e=>hjk ⟨r,hr,e⟩
  by_cases hjm:j < m
  · -- one that is ahead of the variables
   have hr':fs[j]?=some r:=by rw[hrs,List.getElem?_append_left (by omega),hl1 j hjk'] at hr;exact hr
   obtain⟨p',hev,hnext⟩:=Xub (S:=S.at_ n) (Y:=Y1) hd (hst1 fr1 n hW.len hW.base) hI hr' hDj hmk h
   have key:=Xiq (S:=S.at_ n) (Y:=Y1) (Q:=Q) (K:=fun a' w'=>wpAnyIn (Xfc Y.round) 0 S.P .any ops Q fuel (listed.setIfInBounds j true) a' w') ho htr hsame h hev fun a' w' h'=>by
    obtain⟨hI',hf⟩:=hnext (fun i=>(listed.setIfInBounds j true).getD i false) hD1 hD2
    exact ih _ p' fr1 Y1 B ru n a' w' hsz' hcount hI' (hW.same (fun i hi=>hD1 i (by omega)) fun r hr=>hjD r hr (hjk' r hr)) (by rw[hf];exact h')
   rw[hround] at key
   exact key
  ·have hI':=hInv fun r hr=>absurd (List.getElem?_eq_some_iff.1 hr).1 (by omega)
   by_cases hja:j < m+v
   · -- a variable is made
    obtain⟨k,rfl⟩:=Nat.exists_eq_add_of_le (Nat.le_of_not_lt hjm)
    obtain⟨x,hx⟩:∃ x,xs[k]?=some x:=⟨_,List.getElem?_eq_getElem (by omega)⟩
    have hxm:=List.mem_of_getElem? hx
    have hrx:r=x.aRc:=by
     rw[hrs,List.getElem?_append_right (by omega),hlm,Nat.add_sub_cancel_left,List.getElem?_append_left (by simp;omega),List.getElem?_map,hx] at hr
     exact (Option.some.inj hr).symm
    subst hrx
    have key:=Xiq (S:=S.at_ n) (Y:=Y1) (Q:=Q) (q:=true) (v:=.one (.ptr (os p).length 0)) (own':=os p++[.cells (x.z.map A.ofZ)]) (K:=fun a' w'=>wpAnyIn (Xfc Y.round) 0 S.P .any ops Q fuel (listed.setIfInBounds (m+k) true) a' w') ho htr hsame h (.inl ⟨fun t b hg=>(by cases hg),⟨rfl,rfl⟩,fun _ _ hq=>(by cases hq)⟩) fun a' w' h'=>by
     obtain⟨H',an',F',ms',hx'⟩:=h'
     have hs0:listed.getD (m+v+k) false=false:=by
      cases e:listed.getD (m+v+k) false with
      | false=>rfl
      | true=>have:=hI.closed _ _ e (hok.own k x hx);rw[hDj] at this;cases this
     have hl1:x.t < (frD (fun i=>listed.getD i false) vs fs fr1).length:=by rw[Xbw,hW.len];exact hlt x hxm
     obtain⟨b,us,T,an2,F2,g1,g2,g3,g4,g5,g6,g7⟩:=hx'.release hnp (t:=x.t) (by show Xa0 (Xbv _ _ _) _=_;rw[Xan,if_pos ⟨rfl,hl1⟩]) (fun z=>Xgo _ _ _ _) hall1 hall2 Yin
     obtain⟨Y2,hW2,hs2⟩:=InvW.turn hv hok hkk hm hx hW.len hW.base hW.reb (fun c=>by
      rw[hW.u c]
      constructor
      ·rintro (h1|⟨l,h1,h2,h3⟩)
       ·exact .inl h1
       ·exact .inr ⟨l,h1,fun e=>(by subst e;rw[Xck (by omega),hDj] at h2;cases h2),h2,h3⟩
      ·rintro (h1|⟨l,h1,_,h2,h3⟩)
       ·exact .inl h1
       ·exact .inr ⟨l,h1,h2,h3⟩) (fun l z hz' _ hl=>hW.var l z hz' hl) hW.row hW.inj (D':=fun i=>(listed.setIfInBounds (m+k) true).getD i false) (fun i h1 _=>hD1 i h1) hD2 g1 g2 g3 g4 g5 (by
       rw[hD1 _ (by omega),hs0];exact g6) (by rw[hW.len];exact hlt x hxm) g7
     exact ih _ p _ Y2 _ _ _ a' w' hsz' hcount hI' hW2 ⟨H',an2,F2,ms',hs2⟩
    rw[hround] at key
    exact key
   · -- a variable is written
    obtain⟨k,rfl⟩:=Nat.exists_eq_add_of_le (Nat.le_of_not_lt hja)
    obtain⟨x,hx⟩:∃ x,xs[k]?=some x:=⟨_,List.getElem?_eq_getElem (by omega)⟩
    have hxm:=List.mem_of_getElem? hx
    have hkv:k < v:=by omega
    have hrx:r=x.sRc:=by
     rw[hrs,List.getElem?_append_right (by omega),hlm,List.getElem?_append_right (by simp;omega),List.length_map,hv,show m+v+k - m - v=k by omega,List.getElem?_map,hx] at hr
     exact (Option.some.inj hr).symm
    subst hrx
    have hDa:listed.getD (m+k) false=true:=hmk _ (hok.own k x hx)
    obtain⟨g1,g2,g3,us,T,g4,g5⟩:=hW.var k x hx hDa
    have hUk:Y1.U (B k):=(hW.u _).2 (.inr ⟨k,Xde hkv,by rw[Xck hkv];exact hDa,rfl⟩)
    have hHr:∀ l,l < knK v ko->listed.getD (ixK m v ko l) false=true->H0 (B l)=none:=fun l hlk hl=>by
     refine Xgu hp ((hW.u _).2 (.inr ⟨l,hlk,hl,rfl⟩)) ?_
     rcases Xet hlk with h'|⟨rfl,r,hr⟩
     ·rw[Xck h'] at hl
      exact (hW.var l _ (List.getElem?_eq_getElem (by omega)) hl).2.2.1
     ·rw[Xes hr] at hl
      exact (hW.row r hr hl).2.2.1
    have hHn:∀ l z,xs[l]?=some z->listed.getD (m+l) false=true->H0 (B l)=none:=fun l z hz' hl=>by
     have hlv:l < v:=by have:=(List.getElem?_eq_some_iff.1 hz').1;omega
     exact hHr l (Xde hlv) (by rw[Xck hlv];exact hl)
    have hUd:∀ c,(Y1.U c/\c≠B k)↔Y.U c\/∃ l,l < knK v ko/\l≠k/\listed.getD (ixK m v ko l) false=true/\c=B l:=fun c=>by
     rw[hW.u c]
     constructor
     ·rintro⟨h1|⟨l,h1,h2,h3⟩,h4⟩
      ·exact .inl h1
      ·exact .inr ⟨l,h1,fun e=>by subst e;exact h4 h3,h2,h3⟩
     ·rintro (h1|⟨l,h1,h2,h3,h4⟩)
      ·exact⟨.inl h1,fun e=>by subst e;exact g2 h1⟩
      ·exact⟨.inr ⟨l,h1,h3,h4⟩,fun e=>h2 (hW.inj l k h1 (Xde hkv) h3 (by rw[Xck hkv];exact hDa) (by rw[<- h4,e]))⟩
    obtain⟨hr2,hs2⟩:=(hW.reb.back hp).rebase (fun c=>Y1.U c/\c≠B k) (fun c hc=>(hUd c).2 (.inl hc)) (fun c hc=>by
     rcases (hUd c).1 hc with h1|⟨l,h1,h2,h3,h4⟩
     ·exact .inl h1
     ·exact .inr ⟨Nat.lt_of_lt_of_le (hp.ub c hc.1).1 hp.size,by rw[h4];exact hHr l h1 h3,fun i hi=>(hp.fp i c hi).2.2 hc.1,fun hmm=>(hp.mks c hmm).2.2.1 hc.1⟩)
    have hst:=hs2.take_in (t:=x.t) (b:=B k) ⟨by show Xa0 (frD _ _ _ _) _=_;rw[hslot _ _ x hxm];exact g1,hHn k x hx hDa,fun hc=>hc.2 rfl,fun i hi=>(hp.fp i _ hi).2.2 hUk,fun hmm=>(hp.mks _ hmm).2.2.1 hUk,us,T,by rw[(hp.ub _ hUk).2];exact g4,Xaq.mono (fun _ _=>Xb2.mono hp.h0 hp.al) g5⟩
    rw[show listed.getD (m+v+k) false=false from hDj] at hst
    have hyx:x.y≠x.t:=hok.y x hxm x hxm
    have hl1:x.t < (frD (fun i=>listed.getD i false) vs fs fr1).length:=by rw[Xbw,hW.len];exact hlt x hxm
    have hyval:Xa0 (frD (fun i=>listed.getD i false) vs fs fr1) x.y=Xm2 ko ru (frD (fun _=>true) vs fs fr0) x.y:=hyv _ fr1 Y1 B ru hW x hxm (fun i r hi hdd=>hmk i (hok.def_ k x hx i r (by have:=(List.getElem?_eq_some_iff.1 hi).1;omega) hi hdd)) fun r hr hxy=>hmk r.j ((hkk r hr).y k x hx hxy)
    have e1:evO (Xbv (frD (fun i=>listed.getD i false) vs fs fr1) x.t (.one (.ptr (os p).length 0))) (.t x.y)=Xm2 ko ru (frD (fun _=>true) vs fs fr0) x.y:=by
     show Xa0 (Xbv _ _ _) _=_
     rw[Xan,if_neg (fun h=>hyx h.1.symm)];exact hyval
    have e2:evO (Xbv (frD (fun i=>listed.getD i false) vs fs fr1) x.t (.one (.ptr (os p).length 0))) (.t x.t)=.one (.ptr (os p).length 0):=by
     show Xa0 (Xbv _ _ _) _=_
     rw[Xan,if_pos ⟨rfl,hl1⟩]
    have hzn:=hz x hxm
    have hyo:=hyok ru x hxm
    have hrefs:∀ i∈(Xm2 ko ru (frD (fun _=>true) vs fs fr0) x.y).cells.flatMap A.refs,i < (os p).length:=fun i hi=>by
     have:=Xzs i hi
     rw[<- hyval] at this
     exact Sat.refs h (t:=x.y) i this
    have ho':Xbt (os p++[Ch.cells (x.z.map A.ofZ)]) (os p).length (.cells (((x.z.map A.ofZ).take 0++(Xm2 ko ru (frD (fun _=>true) vs fs fr0) x.y).cells)++(x.z.map A.ofZ).drop (0+x.n)))=os p++[.cells (Xm2 ko ru (frD (fun _=>true) vs fs fr0) x.y).cells]:=by
     rw[Xah,List.set_append_right _ _ (Nat.le_refl _),Nat.sub_self,List.drop_of_length_le (by simp[hzn])]
     simp
    have hev:Xcj (S.at_ (os p).length) true x.sRc ⟨Xbv (frD (fun i=>listed.getD i false) vs fs fr1) x.t (.one (.ptr (os p).length 0)),os p++[.cells (x.z.map A.ofZ)]⟩ .un (os p++[.cells (Xm2 ko ru (frD (fun _=>true) vs fs fr0) x.y).cells]):=by
     refine .inl ⟨fun t b hg=>(by cases hg),?_,fun _ _ hq=>(by cases hq)⟩
     show Ev _ (.store x.n (.t x.t) (.t x.y)) _ _ _ _
     simp only[Ev,e1,e2,Xq2]
     exact⟨hyo.1,hyo.2.2,trivial,by simp[hzn],hyo.2.1,ho'.symm⟩
    exact Xiq (S:=S.at_ (os p).length) (Y:=⟨H0,an0,fun c=>Y1.U c/\c≠B k,w,Y.round⟩) (Q:=Q) (K:=fun a' w'=>wpAnyIn (Xfc Y.round) 0 S.P .any ops Q fuel (listed.setIfInBounds (m+v+k) true) a' w') ho htr hsame ⟨_,_,_,_,hst⟩ hev fun a' w' h'=>by
     obtain⟨H',an',F',ms',hx'⟩:=h'
     obtain⟨b,us',T',an2,F2,q1,q2,q3,q4,q5,q6,q7⟩:=hx'.release (fun i q hq=>(hp.anc i).1 ⟨q,hq⟩) (t:=x.t) (by show Xa0 (Xbv _ _ _) _=_;rw[Xan,if_pos ⟨rfl,hl1⟩]) (fun z=>Xgo _ _ _ _) hall1 hall2 hrefs
     have hgo:∀ l,l < knK v ko->listed.getD (ixK m v ko l) false=true->Y1.U (B l):=fun l hlk hl=>(hW.u _).2 (.inr ⟨l,hlk,hl,rfl⟩)
     obtain⟨Y2,hW2,hs2⟩:=InvW.turn (D:=fun i=>listed.getD i false) (B:=B) hv hok hkk hm hx hW.len hW.base hr2 hUd (fun l z hz' hlk hl=>by
      have hlv:l < v:=by have:=(List.getElem?_eq_some_iff.1 hz').1;omega
      exact (hW.var l z hz' hl).go hp (hgo l (Xde hlv) (by rw[Xck hlv];exact hl)) rfl) (fun r hr hl=>(hW.row r hr hl).go hp (hgo v (Xow hr) (by rw[Xes hr];exact hl)) rfl) hW.inj (D':=fun i=>(listed.setIfInBounds (m+v+k) true).getD i false) (fun i _ h2=>hD1 i h2) (by rw[hD1 _ (by omega)];exact hDa) q1 q2 q3 q4 q5 (by
       rw[hD2];exact q6) (by rw[hW.len];exact hlt x hxm) q7
     exact ih _ p _ Y2 _ _ _ a' w' hsz' hcount hI' hW2 ⟨H',an2,F2,ms',hs2⟩
end
section
variable {S:Sx} {s:St} {k:List MI}
theorem Sx.at_np (S:Sx):S.at_ S.np=S:=by cases S;rfl
theorem Xum {ev:Opd->V} {sz:Nat}:∀ (ps:List (Nat × Opd)) (z:List (List D)) {xs:List (List D)},Xpx ev sz z ps=some xs->xs.length=z.length
 | [],z,xs,h=>by cases h;rfl
 | (i,x)::l,z,xs,h=>by
  simp only[Xpx] at h
  split at h
  ·split at h
   ·have:=Xum l _ h
    rw[List.length_set] at this
    exact this
   ·cases h
  ·cases h
theorem Wuw (z:List D):∀ n,(Xdv z n).length=n
 | 0=>rfl
 | n+1=>by simp[Xdv,Wuw z n]
theorem Ywp {q:Bool} {K:St->Prop} {ko:Option RowK} {ps:List Rc} {fr:List V} {o:List Ch} (h:Xng S q K ((ko.map RowK.rc).toList++ps) ⟨fr,o⟩) :
  ∃ xs0,(∀ r,ko=some r->r.z.length=r.sz/\r.n*r.sz<=16777216/\0 < r.sz/\Xpx (evO fr) r.sz (Xdv r.z r.n) r.ps=some xs0/\(r.ps.all fun p=>(evO fr p.2).ok)=true)/\Xng S q K ps (Xgb ko xs0 ⟨fr,o⟩):=by
 cases ko with
 | none=>exact⟨[],fun r h=>(by cases h),h⟩
 | some r =>
  rcases h with ⟨v,own',_,⟨h1,h2,h3,xs0,h4,h5,rfl,rfl⟩,_,h⟩|⟨t,b,h1,_⟩
  ·exact⟨xs0,fun r' e=>by cases e;exact⟨h1,h2,h3,h4,h5⟩,h⟩
  ·cases h1
theorem Xef {l:List MO} (h:VO S true k l s):G S (.code (.regw l)::k) s:=by
 intro Y a w hs hs' c hc
 obtain⟨id,ops,d,rfl,hr⟩:=Yig hc
 cases d with
 | false=>cases hr
 | true =>
  simp only[trW] at hr
  split at hr
  ·rename_i hch
   obtain⟨rs0,ht,hr⟩:=Option.bind_eq_some_iff.1 hr
   have hr:∃ v,Wrx ops (rfH hs' rs0) v=some l:=by
    split at hr
    ·rename_i e;cases hr;exact⟨_,e⟩
    ·exact⟨_,hr⟩
   obtain⟨v,hr⟩:=hr
   simp only[Wrx] at hr
   obtain⟨xs,hx,hr⟩:=Option.bind_eq_some_iff.1 hr
   obtain⟨e1,e2,hz⟩:=Xl6 hx
   have href:=X1r hs' rs0
   generalize rfH hs' rs0=rs at *
   obtain⟨fs,ko,hle,he,hfm,hl1,hl2,hd,hvo,hkr,h⟩:∃ (fs:List Rc) (ko:Option RowK),2*v<=rs.length/\Xeo 0 ops.toList=true/\fs.length=rs.length - 2*v/\(∀ j,(∀ r,ko=some r->j≠r.j)->(rs.take (rs.length - 2*v))[j]?=fs[j]?) /\
     (∀ r,ko=some r->(rs.take (rs.length - 2*v))[r.j]?=some r.rc/\fs[r.j]?=some Xla)/\Xcs (Xau ops.toList []) 0 fs=true/\Xp4 (Xau ops.toList []) (rs.length - 2*v) v fs xs=true/\(∀ r,ko=some r->Yhf (Xau ops.toList []) (rs.length - 2*v) v fs xs r=true) /\
     VO S true k (Xfb (fs++((ko.map RowK.rc).toList++xs.flatMap Var.two))) s:=by
    split at hr
    ·rename_i hchk
     cases hr
     simp only[Bool.and_eq_true,decide_eq_true_eq] at hchk
     obtain⟨⟨hle,he⟩,hd,hvo⟩:=hchk
     exact⟨_,none,hle,he,by rw[List.length_take];omega,fun _ _=>rfl,fun r h=>(by cases h),hd,hvo,fun r h=>(by cases h),h⟩
    ·obtain⟨r,hri,hr⟩:=Option.bind_eq_some_iff.1 hr
     split at hr
     ·rename_i hchk
      cases hr
      simp only[Bool.and_eq_true,decide_eq_true_eq] at hchk
      obtain⟨⟨hle,he⟩,⟨hd,hvo⟩,hro⟩:=hchk
      obtain⟨_,hrj⟩:=Xny hri
      rw[Nat.sub_zero] at hrj
      exact⟨_,some r,hle,he,by rw[List.length_set,List.length_take];omega,fun j hj=>by rw[List.getElem?_set_ne (Ne.symm (hj r rfl))],fun r' h'=>by
       cases h'
       exact⟨hrj,by rw[List.getElem?_set_self (List.getElem?_eq_some_iff.1 hrj).1]⟩,hd,hvo,fun r' h'=>by cases h';exact hro,h⟩
     ·cases hr
   have hrs:rs=rs.take (rs.length - 2*v)++(xs.map Var.aRc++xs.map Var.sRc):=by rw[<- e1,<- e2,List.take_append_drop,List.take_append_drop]
   have hlm:(rs.take (rs.length - 2*v)).length=rs.length - 2*v:=by rw[List.length_take];omega
   have hv:xs.length=v:=by
    have:=congrArg List.length e1
    rw[List.length_map,List.length_take,List.length_drop] at this
    omega
   have hok:=Xsr hv hvo
   have hkk:=fun r hr=>Xzr hv (hkr r hr)
   refine wpIn_region_any hch ?_
   obtain⟨vs,os,h0,hK,hst⟩:=(Xng.app (Xh2 (rs:=fs++((ko.map RowK.rc).toList++xs.flatMap Var.two)) h)).trace
   obtain⟨xs0,hkf,hK⟩:=Ywp hK
   have hLl:(Xgb ko xs0 ⟨frD (fun _=>true) vs fs s.fr,os fs.length⟩).fr.length=(frD (fun _=>true) vs fs s.fr).length:=by
    unfold Xgb
    split
    ·exact Xbl _ _ _
    ·rfl
   obtain⟨hy,hG⟩:=X15 (frL:=(Xgb ko xs0 ⟨frD (fun _=>true) vs fs s.fr,os fs.length⟩).fr) hz hok.y rfl (fun _ _=>rfl) hK
   rw[hfm] at hG hy
   obtain⟨H,an,F,ms,hsx⟩:=hs
   have hD:∀ i,(Array.replicate ops.size false).getD i false=false:=fun i=>by
    simp only[Array.getD_eq_getD_getElem?,Array.getElem?_replicate]
    split <;> rfl
   refine Yio (m:=rs.length - 2*v) (v:=v) (xs0:=xs0) (ls:=rs.take (rs.length - 2*v)) href he ht hrs hlm hfm hv hz hl1 hl2 hok hkk (fun r hr=>?_) hd hst hy (fun a w hs=>hG Y a w hs) ops.size _ 0 s.fr Y (fun _=>0) (.pointer none) S.np a _ (by simp) (by simp) ?_ ?_ ?_
   ·obtain⟨f1,f2,f3,f4,f5⟩:=hkf r hr
    refine⟨f1,f2,f3,f4,f5,fun e=>?_,?_⟩
    ·have:=Xum _ _ f4
     rw[e,Wuw] at this
     have:=(hkk r hr).n
     simp at *
     omega
    ·obtain⟨x,hx,hxy⟩:=(hkk r hr).used
     have h1:=(hy x hx).ok
     rw[hxy] at h1
     subst hr
     by_cases hlt:r.t < (frD (fun _=>true) vs fs s.fr).length
     ·exact hlt
     ·have:Xa0 (Xbv (frD (fun _=>true) vs fs s.fr) r.t (.one (.own (os (rs.length - 2*v)).length 0))) r.t=.un:=Xit (by rw[Xbl];exact hlt)
      rw[show Xa0 (Xgb (some r) xs0 ⟨frD (fun _=>true) vs fs s.fr,os (rs.length - 2*v)⟩).fr r.t=.un from this] at h1
      cases h1
   ·refine⟨fun k i hk=>(by simp only[hD] at hk;cases hk),fun i r _ _=>⟨fun hk=>(by simp only[hD] at hk;cases hk),fun hk=>(by omega)⟩,Nat.zero_le _⟩
   ·refine⟨rfl,fun _ _ _=>rfl,⟨Xag.Le.refl _,fun b o hb=>.inl hb,Anc.Le.refl _,hsx.npl,fun b hu=>⟨hu,(hsx.ub b hu).1,rfl⟩,rfl,rfl,rfl,Nat.le_refl _,rfl⟩,fun c=>⟨.inl,fun hc=>hc.elim (fun q=>q) fun ⟨k,_,hk,_⟩=>(by simp only[hD] at hk;cases hk)⟩,fun k x _ hk=>(by simp only[hD] at hk;cases hk),fun r _ hk=>(by simp only[hD] at hk;cases hk),fun k l _ _ hk=>(by simp only[hD] at hk;cases hk)⟩
   ·rw[Sx.at_np,Xe8 _ _ _ _ fun i=>hD i,h0]
    exact⟨H,an,F,ms,hsx.drawn _⟩
  ·cases hr
end
end Go.Fw
namespace Go.Fw
open Go
section
variable {S:Sx} {Y:Dyn} {k:List MI} {s:St} {a:Act} {w w':World} {H:Xag} {an:Anc} {F:Nat->Nat->Prop} {ms:List Nat}
theorem Xiu {α:Type}:∀ {l:List α} {i:Nat} {x:α},l[i]?=some x->l.set i x=l
 | [],_,_,h=>by simp at h
 | _::_,0,_,h=>by simp at h;simp[h]
 | _::l,i+1,x,h=>by simpa using Xiu (l:=l) (i:=i) (by simpa using h)
def fr (n:Nat):List (Nat × V)->List V
 | []=>List.replicate n .un
 | (i,v)::l=>Xbv (fr n l) i v
theorem Xun {R:V->Value->Prop} {v:V} (hv:∀ u,R v u):∀ {l:List V} {m:List Value} (t:Nat),Xaq R l m->Xaq R (Xbv l t v) m
 | [],[],_,_=>trivial
 | _::_,_::_,0,h=>⟨hv _,h.2⟩
 | _::_,_::_,t+1,h=>⟨h.1,Xun hv t h.2⟩
theorem Xgv (t:Nat) (h:G S k ⟨Xbv s.fr t (.one .un),s.own⟩):G S k s:=by
 rintro Y a w ⟨H,an,F,ms,hs⟩
 exact h Y a w ⟨H,an,F,ms,hs.reframe (Xun (fun _=>trivial) t hs.fr)⟩
theorem Ywq (t:Nat) (ht:Xa0 s.fr t=.one (.d (.sl []))) (h:∀ (A:Option Addr) (c:Nat),G S k ⟨Xbv s.fr t (.one (.d (.raw (.slice A 0 c)))),s.own⟩):G S k s:=by
 rintro Y a w ⟨H,an,F,ms,hs⟩
 obtain⟨u,hu,hd⟩:=hs.fr.get (Xa8 _ _ _ ht (by simp))
 have hd:Den H (.sl []) u:=hd
 have:∃ A c,u=.slice A 0 c:=by
  cases hd with
  | slE A c=>exact⟨A,c,rfl⟩
  | sl xs b o c sz cells T fz f=>exact⟨_,_,rfl⟩
 obtain⟨A,c,rfl⟩:=this
 refine h A c Y a w ⟨H,an,F,ms,hs.reframe ?_⟩
 have:=Xbx s.fr a.tmps.toList t (.one (.d (.raw (.slice A 0 c)))) (.slice A 0 c) hs.fr (Den.raw (H:=H) _ rfl)
 rwa [Xiu hu] at this
theorem Xss (t:Nat) {A:Option Addr} {c:Nat} (ht:Xa0 s.fr t=.one (.d (.raw (.slice A 0 c)))) (h:G S k ⟨Xbv s.fr t (.one (.d (.sl []))),s.own⟩):G S k s:=by
 rintro Y a w ⟨H,an,F,ms,hs⟩
 obtain⟨u,hu,hd⟩:=hs.fr.get (Xa8 _ _ _ ht (by simp))
 have hd:Den H (.raw (.slice A 0 c)) u:=hd
 generalize hv:Value.slice A 0 c=v at hd
 cases hd
 refine h Y a w ⟨H,an,F,ms,hs.reframe ?_⟩
 have:=Xbx s.fr a.tmps.toList t (.one (.d (.sl []))) u hs.fr (by rw[<- hv];exact Den.slE (H:=H) A c)
 rwa [Xiu hu] at this
theorem SatX.nil_row (h:SatX S Y s a w H an F ms) {u:Value} (hu:∃ A,u=.slice A 0 0) (sz:Nat) (hsz:0 < sz) :
  SatX S Y { s with own:=s.own++[.row sz 0 []] } a w H (an.put s.own.length (0,u)) (fun j b=>if j=s.own.length then False else F j b) ms:=by
 obtain⟨A,rfl⟩:=hu
 exact h.add_own (WKeep.refl w _) (fun _ hb=>hb.elim) ⟨rfl,⟨_,_,_,rfl⟩,hsz,by simp,by simp[Xab],.inl ⟨rfl,⟨_,rfl⟩,fun _ hb=>hb⟩⟩
theorem Xeu (t sz:Nat) (hsz:0 < sz) (ht:Xa0 s.fr t=.one .nil) (h:G S k ⟨Xbv s.fr t (.one (.own s.own.length 0)),s.own++[.row sz 0 []]⟩):G S k s:=by
 rintro Y a w ⟨H,an,F,ms,hs⟩
 obtain⟨u,hu,hd⟩:=hs.fr.get (Xa8 _ _ _ ht (by simp))
 have hd:∃ A,u=.slice A 0 0:=hd
 have h1:=hs.nil_row hd sz hsz
 refine h Y a w ⟨H,_,_,ms,h1.reframe ?_⟩
 have:=Xbx s.fr a.tmps.toList t (.one (.own s.own.length 0)) u h1.fr (by
  obtain⟨A,rfl⟩:=hd
  exact⟨rfl,(0,.slice A 0 0),by simp[Anc.put],Nat.le_refl _,fun _=>rfl⟩)
 rwa [Xiu hu] at this
theorem Xox (i off sz:Nat) {cs:List A} (hsz:0 < sz) (hc:Xao s.own i=.cells cs) (ht:cs[off]?=some .nil)
  (h:G S k ⟨s.fr,Xbt s.own i (.cells (cs.set off (.own s.own.length 0)))++[.row sz 0 []]⟩):G S k s:=by
 rintro Y a w ⟨H,an,F,ms,hs⟩
 have hi:=Xay hc (by simp)
 have hil:=(List.getElem?_eq_some_iff.1 hi).1
 obtain⟨p,hp,h0,b,T,vs,h1,h2,h3,h4⟩:=hs.own i _ hi
 obtain⟨u,hu,hd⟩:=h4.get ht
 have hd:∃ A,u=.slice A 0 0:=hd
 have hx:=hs.nil_row hd sz hsz
 have hle:Anc.Le an (an.put s.own.length (0,u)):=⟨fun j q hq=>by
  refine⟨q,?_,.inl rfl⟩
  unfold Anc.put
  rw[if_neg (by have:=(hs.anc j).1 ⟨q,hq⟩;omega)]
  exact hq⟩
 have hxl:i < (s.own++[Ch.row sz 0 []]).length:=by simp;omega
 have:=hx.set_own (w':=w) (i:=i) (b:=b) (p:=p) (c:=.cells (cs.set off (.own s.own.length 0))) (by unfold Anc.put;rw[if_neg (by omega)];exact hp)
  (fun x=>by simp only[if_neg (show i≠s.own.length by omega)];exact h2 x) (WKeep.refl w _) ⟨h0,b,T,vs,h1,fun x=>by simp only[if_neg (show i≠s.own.length by omega)];exact h2 x,h3,by
   have:=Xaq.set off (Xaq.mono (fun _ _=>Xb2.mono (Xag.Le.refl _) hle) h4) (a:=A.own s.own.length 0) (b:=u) (by
    obtain⟨B,rfl⟩:=hd
    exact⟨rfl,(0,.slice B 0 0),by simp[Anc.put],Nat.le_refl _,fun _=>rfl⟩)
   rwa [Xiu hu] at this⟩
 have e:(s.own++[Ch.row sz 0 []]).set i (.cells (cs.set off (.own s.own.length 0)))=s.own.set i (.cells (cs.set off (.own s.own.length 0)))++[Ch.row sz 0 []]:=by
  rw[List.set_append_left _ _ hil]
 rw[show (s.own++[Ch.row sz 0 []]).set i (.cells (cs.set off (.own s.own.length 0)))=_ from e,<- Xah] at this
 exact h Y a w ⟨H,_,_,ms,this⟩
theorem Wfp (j:Nat) (T:TypeId) {y:A} (hc:Xao s.own j=.cells [.ptr j 0,y]) (h:G S k ⟨s.fr,Xbt s.own j (.bld T y)⟩):G S k s:=by
 rintro Y a w ⟨H,an,F,ms,hs⟩
 have hi:=Xay hc (by simp)
 obtain⟨p,hp,h0,b,T',vs,h1,h2,h3,h4⟩:=hs.own j _ hi
 match vs,h4 with
 | [u,v],⟨hu,hv,_⟩ =>
  obtain⟨b',rfl,q,hq,he⟩:=hu
  rw[hp] at hq;cases hq
  obtain rfl:=he b h1
  have:=hs.set_own (w':=w) (i:=j) (b:=b') (p:=p) (c:=.bld T y) hp h2 (WKeep.refl w _) ⟨h0,b',_,v,T',h1,h2,h3,.inr rfl,hv⟩
  rw[<- Xah] at this
  exact h Y a w ⟨H,_,_,ms,this⟩
def Ywr (id:Nat):List MI->Option (Exit->St->Prop)
 | .code _::k=>Ywr id k
 | .blk i::k=>if i=id then none else Ywr id k
 | .again _::k=>Ywr id k
 | .rnd p::_=>some p
 | _=>none
theorem Wfq {P:Program} {hs:List Nat} {c:Code} {f:Opd} {ps:List Nat} {x y:MC} (h:trC P hs c=some (.rf f ps x y)):∃ t ps' a b,c=.rangeFunc t ps' a b/\Xae t=f/\ps'.toList=ps/\trC P hs a=some x/\trC P hs b=some y:=by
 cases c <;> first|(rcases Xbe h with ⟨_,e⟩|⟨_,e⟩|⟨_,e⟩ <;> cases e;done)|simp[trC,Option.bind_eq_some_iff] at h
 obtain⟨_,h1,_,h2,rfl,rfl,rfl,rfl⟩:=h
 exact⟨_,_,_,_,rfl,rfl,rfl,h1,h2⟩
theorem Wsc {g:Opd} {ps:List Nat} {asg body:MC} {f2:FuncId} {caps:List V} (R2:Option Code->List Ch->Prop) (hrd:S.rd=false)
  (hg:∀ y,Xgi (evO s.fr g) [y]=some (f2,y::caps)) (hcal:Xaa S.P f2=true)
  (hI:∀ (l:Nat) (rc:Loop),rc.params.toList=ps->(∃ hs,trC S.P hs rc.assign=some asg/\trC S.P hs rc.body=some body) ->
   Tri S.P S.gp f2 (.one (.d (.raw (.func (.yield l) #[] #[])))::caps) (s.own++[.lp l s.fr rc .ready none]) fun _ post=>∃ st pd,Xao post s.own.length=.lp l s.fr rc st pd/\st≠.busy/\R2 pd (Xbt post s.own.length .dead))
  (hk:∀ own',R2 none own'->G S k ⟨s.fr,own'⟩) (hj:∀ c own',R2 (some c) own'->∃ m,trC S.P [] c=some m/\G S (.code m::k) ⟨s.fr,own'⟩):G S (.code (.rf g ps asg body)::k) s:=by
 rintro Y a w ⟨H,an,F,ms,h⟩ hs' c hc
 obtain⟨t,ps',ca,cb,rfl,rfl,rfl,hta,htb⟩:=Wfq hc
 have hro:Y.round=none:=by
  rcases h.ro with h1|h1
  ·rw[hrd] at h1;cases h1
  ·exact h1
 refine wpIn_rangeFunc fun fn _=>?_
 rw[hro]
 generalize hrc:({ state:=.ready,pending:=none,fn,tmps:=a.tmps,params:=ps',assign:=ca,body:=cb,defers:=w.heap.size }:Loop)=rc
 generalize hW1:(w.alloc (.deferred (some []))).alloc (.loop rc)=W1
 have hh1:W1.heap=(w.heap.push (.deferred (some []))).push (.loop rc):=by rw[<- hW1];rfl
 have hs1:W1.heap.size=w.heap.size+2:=by rw[hh1];simp
 have hold:∀ b,b < w.heap.size->W1.heap[b]?=w.heap[b]?:=fun b hb=>by
  rw[hh1,Array.getElem?_push,if_neg (by simp;omega),Array.getElem?_push,if_neg (by omega)]
 have hD:W1.heap[w.heap.size]?=some (.deferred (some [])):=by
  rw[hh1,Array.getElem?_push,if_neg (by simp),Array.getElem?_push,if_pos rfl]
 have hL:W1.heap[w.heap.size+1]?=some (.loop rc):=by
  rw[hh1,Array.getElem?_push,if_pos (by simp)]
 have hHn:∀ b,w.heap.size<=b->H b=none:=fun b hb=>h.none_new hb
 -- the call
 obtain⟨first,cs,us,hu,hus,hden⟩:=Xnr (an:=an) (x:=.un) (args:=[.one (.d (.raw (.func (.yield (w.heap.size+1)) #[] #[])))]) (vs:=[.func (.yield (w.heap.size+1)) #[] #[]]) (h.ev t) ⟨Den.raw (H:=H) _ rfl,trivial⟩ (hg _)
 let an1:Anc:=an.put s.own.length (0,.nilFunc)
 let F1:Nat->Nat->Prop:=fun j b=>if j=s.own.length then b=w.heap.size+1 else F j b
 have hle:Anc.Le an an1:=⟨fun j q hq=>by
  refine⟨q,?_,.inl rfl⟩
  show Anc.put _ _ _ _=_
  unfold Anc.put
  rw[if_neg (by have:=(h.anc j).1 ⟨q,hq⟩;omega)]
  exact hq⟩
 have hrcs:rc={ rc with state:=.ready,pending:=none }:=by rw[<- hrc]
 have hT:=hI (w.heap.size+1) rc (by rw[<- hrc]) ⟨hs',by rw[<- hrc];exact hta,by rw[<- hrc];exact htb⟩ H W1 an1 F1 us h.gp
  (fun b o hb=>by
   have h1:=h.mod b o hb
   rw[hold b (Array.getElem?_eq_some_iff.1 h1).1];exact h1)
  (fun i=>by
   show (∃ p,Anc.put _ _ _ _=_)↔_
   unfold Anc.put
   by_cases e:i=s.own.length
   ·subst e;simp
   ·rw[if_neg e,h.anc i];simp;omega)
  (fun i c hc=>by
   by_cases e:i=s.own.length
   ·subst e
    rw[List.getElem?_append_right (Nat.le_refl _)] at hc
    simp at hc
    subst hc
    refine⟨(0,.nilFunc),by simp[an1,Anc.put],fun x=>by simp[F1],by rw[<- hrcs];exact hL,?_⟩
    have:rc.tmps=a.tmps:=by rw[<- hrc]
    rw[this]
    exact Xaq.mono (fun _ _=>Xaw.mono (Xag.Le.refl _) hle) h.fr
   ·have hlt:i < s.own.length:=by
     have:=(List.getElem?_eq_some_iff.1 hc).1
     simp at this
     omega
    rw[List.getElem?_append_left hlt] at hc
    obtain⟨q,hq,hsc⟩:=h.own i c hc
    refine⟨q,by simp[an1,Anc.put,e,hq],?_⟩
    have:=hsc.keep (w':=W1) (Xag.Le.refl _) hle fun x hx=>hold x (h.fp i x hx).1
    simpa [F1,e] using this)
  (fun i b hb=>by
   by_cases e:i=s.own.length
   ·simp only[F1,if_pos e] at hb
    subst hb
    exact⟨by simp[e],by omega,hHn _ (by omega)⟩
   ·simp only[F1,if_neg e] at hb
    obtain⟨g1,g2,_⟩:=h.fp i b hb
    exact⟨by have:=h.fl i b hb;simp;omega,by omega,g2⟩)
  (fun i j b hi hj=>by
   by_cases e:i=s.own.length <;> by_cases e':j=s.own.length
   ·omega
   ·simp only[F1,if_pos e] at hi;simp only[F1,if_neg e'] at hj
    have:=(h.fp j b hj).1;omega
   ·simp only[F1,if_neg e] at hi;simp only[F1,if_pos e'] at hj
    have:=(h.fp i b hi).1;omega
   ·simp only[F1,if_neg e] at hi;simp only[F1,if_neg e'] at hj
    exact h.dj i j b hi hj)
  (Xaq.mono (fun _ _=>Xaw.mono (Xag.Le.refl _) hle) hden)
 refine⟨w.heap.size+1,[{ target:=.collected w.heap.size,args:=#[] }],W1,{ target:=.fn (.func f2) cs,args:=first++#[.func (.yield (w.heap.size+1)) #[] #[]] },W1,f2,us.toArray,W1,?_,?_,fun _ _=>trivial,?_,fun hd=>by simp[Xfc,Fence.wide] at hd,?_⟩
 ·rw[<- hW1,<- hrc];exact run_enterLoop_outer _ _ _ _ _
 ·simp[resolve,hu,Deferred.ofValue]
  rfl
 ·simp only[invoke]
  rw[<- hus]
  exact Xe7 hcal _
 ·refine⟨trivial,fun fs _=>?_⟩
  obtain⟨e,w3,frm,⟨v,res,post,H',an',F',rfl,⟨st,pd,hlp,hst,hR2⟩,hw,hH,hmod,hnew,hal,hanc,hown,hF',hdj,_⟩,g2,g3,g4⟩:=hT fs
  refine⟨.returned v,w3,frm,?_,(StepsIn.of_steps g2).mono fun m _=>(fenced_wide S.P m:Machine.fenced S.P Fence.wide m),g3,g4⟩
  have hpi:=Xay hlp (by simp)
  have hpl:=(List.getElem?_eq_some_iff.1 hpi).1
  obtain⟨q,hq,hql,hqh,hqf⟩:=hown _ _ hpi
  have hFl:F' s.own.length (w.heap.size+1):=(hql _).2 rfl
  have h3s:w.heap.size+1 < w3.heap.size:=(Array.getElem?_eq_some_iff.1 hqh).1
  have hH'l:H' (w.heap.size+1)=none:=(hF' _ _ hFl).2.2.1
  refine⟨pd,_,run_endLoop hqh hst,?_⟩
  generalize hw4:w3.putObj (w.heap.size+1) (.loop { ({ rc with state:=st,pending:=pd }:Loop) with state:=.exhausted })=w4
  have hoth:∀ x,x≠w.heap.size+1->w4.heap[x]?=w3.heap[x]?:=fun x hx=>by rw[<- hw4];exact World.putObj_heap_other (fun e=>hx e)
  have hsz4:w4.heap.size=w3.heap.size:=by rw[<- hw4];simp[World.putObj]
  have hFD:∀ j,¬ F' j w.heap.size:=fun j hj=>by
   rcases (hF' j _ hj).2.2.2 with g|⟨i,g⟩
   ·omega
   ·by_cases e:i=s.own.length
    ·simp only[F1,if_pos e] at g;omega
    ·simp only[F1,if_neg e] at g
     have:=(h.fp i _ g).1;omega
  have hev:=h.evolve (own':=Xbt post s.own.length .dead) (w':=w4) (H':=H') (an':=an') (F':=fun j x=>j≠s.own.length/\F' j x) (may:=fun x=>∃ j,F j x)
   ⟨by rw[<- hw4];exact hw.os.trans (by rw[<- hW1];rfl),by rw[<- hw4];exact hw.tape.trans (by rw[<- hW1];rfl),by rw[<- hw4];exact hw.output.trans (by rw[<- hW1];rfl),by have:=hw.size;omega,fun x hx hn=>by
    rw[hoth x (by omega),hw.block x (by omega) (fun ⟨i,hi⟩=>by
     by_cases e:i=s.own.length
     ·simp only[F1,if_pos e] at hi;omega
     ·simp only[F1,if_neg e] at hi;exact hn ⟨i,hi⟩),hold x hx]⟩
   (fun x hx=>hx) hH (fun x o hx=>by
    rw[hoth x (fun e=>by rw[e,hH'l] at hx;cases hx)];exact hmod x o hx) (fun x o hx=>by
    rcases hnew x o hx with g|g|⟨i,g⟩
    ·exact .inl g
    ·exact .inr (.inl (by omega))
    ·by_cases e:i=s.own.length
     ·simp only[F1,if_pos e] at g;exact .inr (.inl (by omega))
     ·simp only[F1,if_neg e] at g;exact .inr (.inr ⟨i,g⟩)) (hle.trans hal) (fun j=>by rw[Xah,List.length_set];exact hanc j) (fun j c hc=>by
    rw[Xah,List.getElem?_set] at hc
    by_cases e:s.own.length=j
    ·subst e
     simp only[if_true,if_pos hpl] at hc
     cases hc
     exact⟨q,hq,fun x hx=>hx.1 rfl⟩
    ·rw[if_neg e] at hc
     obtain⟨r,hr,hsc⟩:=hown j c hc
     refine⟨r,hr,?_⟩
     have e2:(fun x=>j≠s.own.length/\F' j x)=F' j:=by funext x;simp[Ne.symm e]
     rw[e2]
     exact hsc.keep (Xag.Le.refl _) (Anc.Le.refl _) fun x hx=>hoth x (fun e3=>e (hdj _ _ _ hFl (e3 ▸ hx)))) (fun j x hx=>by
    rw[Xah,List.length_set]
    obtain⟨g1,g2,g3,g4⟩:=hF' j x hx.2
    refine⟨g1,by omega,g3,?_⟩
    rcases g4 with g|⟨i,g⟩
    ·exact .inl (by omega)
    ·by_cases e:i=s.own.length
     ·simp only[F1,if_pos e] at g;exact .inl (by omega)
     ·simp only[F1,if_neg e] at g;exact .inr ⟨i,g⟩) (fun j j' x hx hx'=>hdj j j' x hx.2 hx'.2)
  have hsat:Sat S Y ⟨s.fr,Xbt post s.own.length .dead⟩ { a with defers:=[{ target:=.collected w.heap.size,args:=#[] }]++a.defers } w4:=by
   refine⟨H',an',_,w.heap.size::ms,hev.gp,hev.h0,hev.mod,hev.fr,hev.anc,hev.own,hev.fl,hev.fp,hev.dj,hev.hn,hev.ub,hev.os,hev.tape,hev.output,hev.size,?_,?_,?_,hev.al,hev.npl,hev.ro⟩
   ·show _::a.defers=_
    rw[h.df];rfl
   ·intro r hr
    rcases List.mem_cons.1 hr with rfl|hr
    ·refine⟨?_,?_,?_,fun i hi=>hFD i hi.2⟩
     ·rw[hoth _ (by omega),hw.block _ (by omega) (fun ⟨i,hi⟩=>by
       by_cases e:i=s.own.length
       ·simp only[F1,if_pos e] at hi;omega
       ·simp only[F1,if_neg e] at hi;have:=(h.fp i _ hi).1;omega)]
      exact hD
     ·cases e:H' w.heap.size with
      | none=>rfl
      | some o =>
       rcases hnew _ o e with g|g|⟨i,g⟩
       ·rw[hHn _ (Nat.le_refl _)] at g;cases g
       ·omega
       ·by_cases e:i=s.own.length
        ·simp only[F1,if_pos e] at g;omega
        ·simp only[F1,if_neg e] at g;have:=(h.fp i _ g).1;omega
     ·intro hu
      have:=(h.ub _ hu).1;have:=h.size;omega
    ·exact hev.mks r hr
   ·refine List.nodup_cons.2 ⟨fun hm=>?_,h.nd⟩
    have:=(Array.getElem?_eq_some_iff.1 (h.mks _ hm).1).1
    omega
  cases pd with
  | none=>exact hk _ hR2 Y _ w4 hsat
  | some c =>
   obtain⟨m,hm,hG⟩:=hj c _ hR2
   have:=hG Y _ w4 hsat [] c hm
   rw[hro] at this
   exact this
end
namespace Sq
theorem true_and (p:Prop):(True/\p)=p:=_root_.true_and p
theorem and_true (p:Prop):(p/\True)=p:=_root_.and_true p
theorem and_false (p:Prop):(p/\False)=False:=_root_.and_false p
theorem false_and (p:Prop):(False/\p)=False:=_root_.false_and p
theorem or_true (p:Prop):(p\/True)=True:=_root_.or_true p
theorem true_or (p:Prop):(True\/p)=True:=_root_.true_or p
theorem false_or (p:Prop):(False\/p)=p:=_root_.false_or p
theorem or_false (p:Prop):(p\/False)=p:=_root_.or_false p
theorem and_self (p:Prop):(p/\p)=p:=_root_.and_self p
theorem or_self (p:Prop):(p\/p)=p:=_root_.or_self p
theorem not_true_eq_false:(¬True)=False:=_root_.not_true_eq_false
theorem not_false_eq_true:(¬False)=True:=_root_.not_false_eq_true
theorem ne_eq {α:Sort _} (a b:α):(a≠b)=¬(a=b):=_root_.ne_eq a b
theorem if_true {α:Sort _} {h:Decidable True} (t e:α):(@ite α True h t e)=t:=_root_.if_true t e
theorem if_false {α:Sort _} {h:Decidable False} (t e:α):(@ite α False h t e)=e:=_root_.if_false t e
theorem false_implies (p:Prop):(False->p)=True:=_root_.false_implies p
theorem implies_true (α:Sort _):(α->True)=True:=_root_.implies_true α
theorem true_implies (p:Prop):(True->p)=p:=_root_.true_implies p
theorem forall_const {b:Prop} (α:Sort _) [i:Nonempty α]:(α->b)↔b:=_root_.forall_const α
theorem and_imp {a b c:Prop}:(a/\b->c)↔(a->b->c):=_root_.and_imp
theorem eq_self {α:Sort _} (a:α):(a=a)=True:=_root_.eq_self a
theorem decide_true (h:Decidable True):@decide True h=true:=_root_.decide_true h
theorem decide_false (h:Decidable False):@decide False h=false:=_root_.decide_false h
theorem decide_eq_true_eq {p:Prop} [Decidable p]:(decide p=true)=p:=_root_.decide_eq_true_eq
theorem decide_eq_false_iff_not {p:Prop} {h:Decidable p}:(decide p=false)↔¬p:=_root_.decide_eq_false_iff_not
end Sq
end Go.Fw
namespace Go.Fw
open Go
section
variable {S:Sx} {Y:Dyn} {k:List MI} {s:St} {a:Act} {w w':World} {H:Xag} {an:Anc} {F:Nat->Nat->Prop} {ms:List Nat}
theorem Xfy {l:List Ch} {i:Nat} {c:Ch} (h:Xao l i=c) (hn:c≠.dead):i < l.length:=(List.getElem?_eq_some_iff.1 (Xay h hn)).1
theorem Xfa:∀ (l:List Ch) (j:Nat) (c:Ch) (i:Nat),i≠j->Xao (Xbt l j c) i=Xao l i
 | [],_,_,_,_=>rfl
 | _::_,0,_,0,h=>absurd rfl h
 | _::_,0,_,_+1,_=>rfl
 | _::_,_+1,_,0,_=>rfl
 | _::l,j+1,c,i+1,h=>Xfa l j c i (by omega)
theorem X19 {α:Type}:∀ {l:List α} {i:Nat} {a:α},i < l.length->l.set i a=l.take i++a::l.drop (i+1)
 | [],_,_,h=>by simp at h
 | _::_,0,_,_=>by simp
 | b::l,i+1,a,h=>by simp only[List.set_cons_succ,List.take_succ_cons,List.cons_append,List.drop_succ_cons];rw[X19 (by simpa using h)]
theorem Xuo {p:Nat × Value} {f:Nat->Prop} {sz ver e o:Nat} {xs:List (List A)} {x:List A} {y z:A} (h:Xb3 H an w (.rowA sz ver xs) p f) (hx:xs[e]?=some x) (ho:x[o]?=some y) (hd:∀ q,Xb2 H an y q->Xb2 H an z q):Xb3 H an w (.rowA sz ver (xs.set e (x.set o z))) p f:=by
 obtain⟨h0,h1,h2,h3,b,c,cap,vs,T,e1,e2,e3,e4,e5,e6⟩:=h
 refine⟨h0,h1,fun u hu=>?_,by simpa using h3,b,c,cap,vs,T,by simpa using e1,e2,e3,by simpa using e4,e5,fun i u j t hu ht=>?_⟩
 ·rcases List.mem_or_eq_of_mem_set hu with hu|rfl
  ·exact h2 u hu
  ·rw[List.length_set];exact h2 x (List.mem_of_getElem? hx)
 ·rw[List.getElem?_set] at hu
  split at hu
  ·rename_i ei
   subst ei
   split at hu
   ·cases hu
    rw[List.getElem?_set] at ht
    split at ht
    ·rename_i ej
     subst ej
     split at ht
     ·cases ht
      obtain⟨v,hv,hdv⟩:=e6 _ _ _ _ hx ho
      exact⟨v,hv,hd v hdv⟩
     ·cases ht
    ·exact e6 _ _ _ _ hx ht
   ·cases hu
  ·exact e6 _ _ _ _ hu ht
theorem SatX.recast (h:SatX S Y s a w H an F ms) {i:Nat} {c c':Ch} (hc:Xao s.own i=c) (hn:c≠.dead) (hs:∀ p,Xb3 H an w c p (F i)->Xb3 H an w c' p (F i)):SatX S Y ⟨s.fr,Xbt s.own i c'⟩ a w H an F ms:=by
 have hlt:=Xfy hc hn
 refine h.evolve (may:=fun _=>False) (own':=Xbt s.own i c') (F':=F) (WKeep.refl w _) (fun _ hb=>hb.elim) (Xag.Le.refl H) h.mod (fun b o hb=>.inl hb) (Anc.Le.refl _) (fun j=>by rw[Xah,List.length_set];exact h.anc j) (fun j d hd=>?_) (fun j b hb=>?_) h.dj
 ·rw[Xah,List.getElem?_set] at hd
  split at hd
  ·rename_i e
   subst e
   try rw[if_pos hlt] at hd
   cases hd
   obtain⟨p,hp,hsc⟩:=h.own i c (Xay hc hn)
   exact⟨p,hp,hs p hsc⟩
  ·exact h.own j d hd
 ·obtain⟨g1,g2,_⟩:=h.fp j b hb
  exact⟨by rw[Xah,List.length_set];exact h.fl j b hb,g1,g2,.inr ⟨j,hb⟩⟩
theorem Wsd (i:Nat) {sz ver:Nat} {xs:List (List D)} (hc:Xao s.own i=.row sz ver xs) (hx:xs≠[]) (h:G S k ⟨s.fr,Xbt s.own i (.rowA sz ver (xs.map fun x=>x.map .d))⟩):G S k s:=by
 rintro Y a w ⟨H,an,F,ms,hs⟩
 refine h Y a w ⟨H,an,F,ms,hs.recast hc (by simp) fun p hp=>?_⟩
 obtain⟨h0,_,h1,h2,h3,h4⟩:=hp
 rcases h4 with ⟨e,_⟩|⟨b,o,cap,vs,T,e1,e2,e3,e4,e5,e6⟩
 ·exact absurd e hx
 ·refine⟨h0,h1,fun x hx=>?_,by simpa using h3,b,o,cap,vs,T,by simpa using e1,e2,e3,by simpa using e4,e5,fun i x j y hx hy=>?_⟩
  ·obtain⟨z,hz,rfl⟩:=List.mem_map.1 hx
   simpa using h2 z hz
  ·rw[List.getElem?_map] at hx
   cases ez:xs[i]? with
   | none=>rw[ez] at hx;cases hx
   | some z =>
    rw[ez] at hx;cases hx
    rw[List.getElem?_map] at hy
    cases ew:z[j]? with
    | none=>rw[ew] at hy;cases hy
    | some q=>rw[ew] at hy;cases hy;exact e6 i z j q ez ew
theorem Wse (i:Nat) {sz ver:Nat} (xs:List (List D)) (hc:Xao s.own i=.rowA sz ver (xs.map fun x=>x.map .d)) (h:G S k ⟨s.fr,Xbt s.own i (.row sz ver xs)⟩):G S k s:=by
 rintro Y a w ⟨H,an,F,ms,hs⟩
 refine h Y a w ⟨H,an,F,ms,hs.recast hc (by simp) fun p hp=>?_⟩
 obtain⟨h0,h1,h2,h3,b,o,cap,vs,T,e1,e2,e3,e4,e5,e6⟩:=hp
 rw[List.length_map] at e1 e4 h3
 refine⟨h0,⟨_,_,_,e1⟩,h1,fun x hx=>by simpa using h2 _ (List.mem_map.2 ⟨x,hx,rfl⟩),h3,.inr ⟨b,o,cap,vs,T,e1,e2,e3,e4,e5,fun i x j y hx hy=>?_⟩⟩
 obtain⟨v,hv,hd⟩:=e6 i (x.map .d) j (.d y) (by rw[List.getElem?_map,hx];rfl) (by rw[List.getElem?_map,hy];rfl)
 exact⟨v,hv,hd⟩
theorem Yws (sz:Nat) (h:G S k ⟨s.fr,s.own++[.pool sz []]⟩):G S k s:=by
 rintro Y a w ⟨H,an,F,ms,hs⟩
 have h1:=hs.add_own (c:=.pool sz []) (q:=(0,.bool false)) (f:=fun _=>False) (WKeep.refl w _) (fun _ hb=>hb.elim) ⟨fun _ _=>False,fun _=>⟨fun h=>h.elim,fun ⟨_,h⟩=>h.elim⟩,fun _ _ _ h=>h.elim,fun i e he=>by simp at he,fun _ _ h=>h.elim⟩
 exact h Y a w ⟨H,_,_,ms,h1⟩
theorem SatX.pin (h:SatX S Y s a w H an F ms) {j m i sz u:Nat} {ys:List (List D)} {L:List (Option (Value × List (List D)))} (hj:Xao s.own j=.row sz u ys) (hm:Xao s.own m=.pool sz L) (hi:∀ e,L[i]?≠some (some e)) (hil:i<=L.length) :
  ∃ v,an j=some (u,v)/\v.oneCell'=true/\SatX S Y ⟨s.fr,Xbt (Xbt s.own m (.pool sz (L.take i++some (v,ys)::L.drop (i+1)))) j .dead⟩ a w H an (fun n b=>n≠j/\(if n=m then F m b\/F j b else F n b)) ms:=by
 have hjl:=Xfy hj (by simp)
 have hml:=Xfy hm (by simp)
 have hjm:j≠m:=fun e=>by rw[e,hm] at hj;cases hj
 obtain⟨⟨u',v⟩,hp,h0,hrow⟩:=h.own j _ (Xay hj (by simp))
 simp only at h0 hrow
 subst h0
 obtain⟨q,hq,g,g1,g2,g3,g4⟩:=h.own m _ (Xay hm (by simp))
 have hov:v.oneCell'=true:=by obtain⟨⟨_,_,_,rfl⟩,_⟩:=hrow;rfl
 refine⟨v,hp,hov,?_⟩
 have hjF:∀ b,F j b->¬ F m b:=fun b h1 h2=>hjm (h.dj j m b h1 h2)
 refine h.evolve (may:=fun _=>False) (own':=Xbt (Xbt s.own m (.pool sz (L.take i++some (v,ys)::L.drop (i+1)))) j .dead) (WKeep.refl w _) (fun _ hb=>hb.elim) (Xag.Le.refl H) h.mod (fun b o hb=>.inl hb) (Anc.Le.refl _) (fun n=>by simp only[Xah,List.length_set];exact h.anc n) (fun n d hd=>?_) (fun n b hb=>?_) (fun n n' b hb hb'=>?_)
 ·simp only[Xah] at hd
  rw[List.getElem?_set] at hd
  split at hd
  ·rename_i e
   subst e
   try rw[if_pos (by simpa using hjl)] at hd
   cases hd
   exact⟨_,hp,fun b hb=>hb.1 rfl⟩
  ·rename_i ejn
   rw[List.getElem?_set] at hd
   split at hd
   ·rename_i e
    subst e
    try rw[if_pos hml] at hd
    cases hd
    have ef:(fun b=>m≠j/\(if m=m then F m b\/F j b else F m b))=fun b=>F m b\/F j b:=by funext b;simp[Ne.symm hjm]
    rw[ef]
    have hti:(L.take i).length=i:=by rw[List.length_take];omega
    have hgi:∀ b,¬ g i b:=fun b hb=>by obtain⟨e,he⟩:=g4 i b hb;exact hi e he
    have hLn:∀ n,n≠i->(L.take i++some (v,ys)::L.drop (i+1))[n]?=L[n]?:=fun n hn=>by
     by_cases hlt:n < i
     ·rw[List.getElem?_append_left (by omega),List.getElem?_take,if_pos hlt]
     ·rw[List.getElem?_append_right (by omega),hti]
      obtain⟨d,rfl⟩:∃ d,n=i+1+d:=⟨n - i - 1,by omega⟩
      rw[show i+1+d - i=d+1 from by omega,List.getElem?_cons_succ,List.getElem?_drop]
    have hLi:(L.take i++some (v,ys)::L.drop (i+1))[i]?=some (some (v,ys)):=by
     rw[List.getElem?_append_right (by omega),hti,Nat.sub_self];rfl
    refine⟨q,hq,fun n b=>if n=i then F j b else g n b,fun b=>?_,fun n n' b hb hb'=>?_,fun n e he=>?_,fun n b hb=>?_⟩
    ·constructor
     ·rintro (hb|hb)
      ·obtain⟨n,hn⟩:=(g1 b).1 hb
       have en:n≠i:=fun e=>hgi b (e ▸ hn)
       exact⟨n,by dsimp only;rw[if_neg en];exact hn⟩
      ·exact⟨i,by dsimp only;rw[if_pos rfl];exact hb⟩
     ·rintro⟨n,hn⟩
      try dsimp only at hn
      split at hn
      ·exact .inr hn
      ·exact .inl ((g1 b).2 ⟨n,hn⟩)
    ·try dsimp only at hb hb'
     split at hb
     ·split at hb'
      ·omega
      ·exact absurd ((g1 b).2 ⟨n',hb'⟩) (hjF b hb)
     ·split at hb'
      ·exact absurd ((g1 b).2 ⟨n,hb⟩) (hjF b hb')
      ·exact g2 n n' b hb hb'
    ·by_cases en:n=i
     ·subst en
      rw[hLi] at he;cases he
      show Yhb H w sz v ys (fun b=>if n=n then F j b else g n b)
      rw[show (fun b=>if n=n then F j b else g n b)=F j from by funext b;simp]
      exact hrow
     ·rw[hLn n en] at he
      show Yhb H w sz e.1 e.2 (fun b=>if n=i then F j b else g n b)
      rw[show (fun b=>if n=i then F j b else g n b)=g n from by funext b;simp[en]]
      exact g3 n e he
    ·try dsimp only at hb
     split at hb
     ·rename_i en;subst en;exact⟨_,hLi⟩
     ·rename_i en
      rw[hLn n en];exact g4 n b hb
   ·rename_i emn
    obtain⟨p,hp',hsc⟩:=h.own n d hd
    have ef:(fun b=>n≠j/\(if n=m then F m b\/F j b else F n b))=F n:=by funext b;simp[Ne.symm ejn,Ne.symm emn]
    rw[ef]
    exact⟨p,hp',hsc⟩
 ·obtain⟨hb1,hb⟩:=hb
  simp only[Xah,List.length_set]
  split at hb
  ·rename_i e
   subst e
   rcases hb with hb|hb
   ·obtain⟨q1,q2,_⟩:=h.fp n b hb;exact⟨hml,q1,q2,.inr ⟨n,hb⟩⟩
   ·obtain⟨q1,q2,_⟩:=h.fp j b hb;exact⟨hml,q1,q2,.inr ⟨j,hb⟩⟩
  ·obtain⟨q1,q2,_⟩:=h.fp n b hb;exact⟨h.fl n b hb,q1,q2,.inr ⟨n,hb⟩⟩
 ·obtain⟨x1,hb⟩:=hb
  obtain⟨x2,hb'⟩:=hb'
  split at hb
  ·rename_i e1
   split at hb'
   ·rename_i e2;omega
   ·rcases hb with hb|hb
    ·exact e1 ▸ (h.dj m n' b hb hb')
    ·exact absurd (h.dj j n' b hb hb').symm x2
  ·split at hb'
   ·rename_i e2
    rcases hb' with hb'|hb'
    ·exact e2 ▸ (h.dj n m b hb hb')
    ·exact absurd (h.dj n j b hb hb') x1
   ·exact h.dj n n' b hb hb'
theorem X2a {j u:Nat} {v x:Value} (hp:an j=some (u,v)) (hd:Xb2 H an (.own j u) x):x=v:=by
 obtain⟨_,p,hp',_,he⟩:=hd
 rw[hp] at hp';cases hp'
 exact he rfl
theorem Wsf (t j m:Nat) {sz u:Nat} {ys:List (List D)} {L:List (Option (Value × List (List D)))} (ht:Xa0 s.fr t=.one (.own j u)) (hj:Xao s.own j=.row sz u ys) (hm:Xao s.own m=.pool sz L)
  (h:∀ v:Value,G S k ⟨Xbv s.fr t (.one (.d (.raw v))),Xbt (Xbt s.own m (.pool sz (L++[some (v,ys)]))) j .dead⟩):G S k s:=by
 rintro Y a w ⟨H,an,F,ms,hs⟩
 obtain⟨x,hx,hd⟩:=hs.fr.get (Xa8 _ _ _ ht (by simp))
 obtain⟨v,hp,hv,h1⟩:=hs.pin (i:=L.length) hj hm (by simp) (Nat.le_refl _)
 rw[List.take_of_length_le (Nat.le_refl _),List.drop_of_length_le (by omega)] at h1
 have hxv:x=v:=X2a (H:=H) hp hd
 refine h v Y a w ⟨H,an,_,ms,h1.reframe ?_⟩
 have:=Xbx s.fr a.tmps.toList t (.one (.d (.raw v))) x h1.fr (by rw[hxv];exact Den.raw v hv)
 rwa [Xiu hx] at this
theorem Wfr (r e o j m i:Nat) {sz u rz rv:Nat} {ys:List (List D)} {xs:List (List A)} {x:List A} {L:List (Option (Value × List (List D)))} (hr:Xao s.own r=.rowA rz rv xs) (hx:xs[e]?=some x) (ho:x[o]?=some (.own j u)) (hj:Xao s.own j=.row sz u ys) (hm:Xao s.own m=.pool sz L) (hi:L[i]?=some none)
  (h:∀ v:Value,G S k ⟨s.fr,Xbt (Xbt (Xbt s.own m (.pool sz (L.set i (some (v,ys))))) j .dead) r (.rowA rz rv (xs.set e (x.set o (.d (.raw v)))))⟩):G S k s:=by
 rintro Y a w ⟨H,an,F,ms,hs⟩
 have hil:=(List.getElem?_eq_some_iff.1 hi).1
 obtain⟨v,hp,hv,h1⟩:=hs.pin (i:=i) hj hm (by rw[hi];simp) (by omega)
 rw[<- X19 hil] at h1
 have hrj:r≠j:=fun e=>by rw[e,hj] at hr;cases hr
 have hrm:r≠m:=fun e=>by rw[e,hm] at hr;cases hr
 have hr':Xao (Xbt (Xbt s.own m (.pool sz (L.set i (some (v,ys))))) j .dead) r=.rowA rz rv xs:=by rw[Xfa _ _ _ _ hrj,Xfa _ _ _ _ hrm];exact hr
 refine h v Y a w ⟨H,an,_,ms,h1.recast hr' (by simp) fun p hsc=>?_⟩
 exact Xuo hsc hx ho fun q hd=>by rw[X2a (H:=H) hp hd];exact Den.raw v hv
theorem SatX.pout (h:SatX S Y s a w H an F ms) {m i sz:Nat} {v:Value} {ys:List (List D)} {L:List (Option (Value × List (List D)))} (hm:Xao s.own m=.pool sz L) (hi:L[i]?=some (some (v,ys))) :
  v.oneCell'=true/\∃ F',SatX S Y ⟨s.fr,Xbt s.own m (.pool sz (L.set i none))++[.row sz 0 ys]⟩ a w H (an.put s.own.length (0,v)) F' ms:=by
 have hml:=Xfy hm (by simp)
 obtain⟨q,hq,g,g1,g2,g3,g4⟩:=h.own m _ (Xay hm (by simp))
 have hrow:=g3 i _ hi
 have hil:=(List.getElem?_eq_some_iff.1 hi).1
 have hle:Anc.Le an (an.put s.own.length (0,v)):=⟨fun i q hq=>by
  refine⟨q,?_,.inl rfl⟩
  unfold Anc.put
  rw[if_neg (by have:=(h.anc i).1 ⟨q,hq⟩;omega)]
  exact hq⟩
 have hgm:∀ b,g i b->F m b:=fun b hb=>(g1 b).2 ⟨i,hb⟩
 refine⟨by obtain⟨⟨_,_,_,e⟩,_⟩:=hrow;dsimp only at e;rw[e];rfl,fun n b=>if n=s.own.length then g i b else if n=m then F m b/\¬ g i b else F n b,?_⟩
 refine h.evolve (may:=fun _=>False) (own':=Xbt s.own m (.pool sz (L.set i none))++[.row sz 0 ys]) (WKeep.refl w _) (fun _ hb=>hb.elim) (Xag.Le.refl H) h.mod (fun b o hb=>.inl hb) hle (fun n=>?_) (fun n d hd=>?_) (fun n b hb=>?_) (fun n n' b hb hb'=>?_)
 ·unfold Anc.put
  by_cases e:n=s.own.length
  ·subst e;simp[Xah]
  ·rw[if_neg e,h.anc n];simp[Xah];omega
 ·by_cases e:n=s.own.length
  ·subst e
   rw[List.getElem?_append_right (by simp[Xah])] at hd
   simp[Xah] at hd
   subst hd
   refine⟨(0,v),by simp[Anc.put],?_⟩
   rw[show (fun b=>if s.own.length=s.own.length then g i b else if s.own.length=m then F m b/\¬ g i b else F s.own.length b)=g i from by funext b;simp]
   exact⟨rfl,hrow⟩
  ·have hlt:n < s.own.length:=by have:=(List.getElem?_eq_some_iff.1 hd).1;simp[Xah] at this;omega
   rw[List.getElem?_append_left (by simp[Xah];omega),Xah,List.getElem?_set] at hd
   by_cases em:m=n
   ·subst em
    simp[hml] at hd
    subst hd
    refine⟨q,by simp[Anc.put,e,hq],?_⟩
    rw[show (fun b=>if m=s.own.length then g i b else if m=m then F m b/\¬ g i b else F m b)=fun b=>F m b/\¬ g i b from by funext b;simp[e]]
    refine⟨fun n b=>n≠i/\g n b,fun b=>⟨fun hb=>?_,fun hb=>?_⟩,fun n n' b hb hb'=>g2 n n' b hb.2 hb'.2,fun n e he=>?_,fun n b hb=>?_⟩
    ·obtain⟨n,hn⟩:=(g1 b).1 hb.1;exact⟨n,fun e=>hb.2 (e ▸ hn),hn⟩
    ·obtain⟨n,hn,hb⟩:=hb;exact⟨(g1 b).2 ⟨n,hb⟩,fun hb2=>hn (g2 n i b hb hb2)⟩
    ·rw[List.getElem?_set] at he
     split at he
     ·simp at he
     ·rename_i en
      show Yhb H w sz e.1 e.2 (fun b=>n≠i/\g n b)
      rw[show (fun b=>n≠i/\g n b)=g n from by funext b;simp[Ne.symm en]]
      exact g3 n e he
    ·obtain⟨hn,hb⟩:=hb
     obtain⟨e,he⟩:=g4 n b hb
     exact⟨e,by rw[List.getElem?_set,if_neg (Ne.symm hn)];exact he⟩
   ·rw[if_neg em] at hd
    obtain⟨p,hp,hsc⟩:=h.own n d hd
    refine⟨p,by simp[Anc.put,e,hp],?_⟩
    rw[show (fun b=>if n=s.own.length then g i b else if n=m then F m b/\¬ g i b else F n b)=F n from by funext b;simp[e,Ne.symm em]]
    exact hsc.keep (Xag.Le.refl _) hle fun _ _=>rfl
 ·simp only[List.length_append,Xah,List.length_set,List.length_cons,List.length_nil]
  split at hb
  ·obtain⟨q1,q2,_⟩:=h.fp m b (hgm b hb);exact⟨by omega,q1,q2,.inr ⟨m,hgm b hb⟩⟩
  ·split at hb
   ·rename_i e;obtain⟨q1,q2,_⟩:=h.fp m b hb.1;exact⟨by omega,q1,q2,.inr ⟨m,hb.1⟩⟩
   ·obtain⟨q1,q2,_⟩:=h.fp n b hb;exact⟨by have:=h.fl n b hb;omega,q1,q2,.inr ⟨n,hb⟩⟩
 ·have key:∀ {n:Nat},(if n=s.own.length then g i b else if n=m then F m b/\¬ g i b else F n b)->(n=s.own.length/\g i b)\/(n≠s.own.length/\F n b/\(n=m->¬ g i b)):=fun {n} hb=>by
   split at hb
   ·exact .inl ⟨‹_›,hb⟩
   ·rename_i e1
    split at hb
    ·rename_i e;exact .inr ⟨e1,e ▸ hb.1,fun _=>hb.2⟩
    ·rename_i e;exact .inr ⟨e1,hb,fun e'=>absurd e' e⟩
  rcases key hb with ⟨e,hg⟩|⟨e,hf,hn⟩ <;> rcases key hb' with ⟨e',hg'⟩|⟨e',hf',hn'⟩
  ·omega
  ·exact absurd hg (hn' (h.dj n' m b hf' (hgm b hg)))
  ·exact absurd hg' (hn (h.dj n m b hf (hgm b hg')))
  ·exact h.dj n n' b hf hf'
theorem Xq3:∀ {l:List Ch} {i:Nat} {c:Ch},i < l.length->Xao (l++[c]) i=Xao l i
 | [],_,_,h=>by simp at h
 | _::_,0,_,_=>rfl
 | _::l,i+1,c,h=>Xq3 (l:=l) (by simpa using h)
theorem X2b {l:List Ch} {i:Nat} {c d:Ch} (h:i < l.length):Xbt (l++[c]) i d=Xbt l i d++[c]:=by
 rw[Xah,Xah,List.set_append_left _ _ h]
theorem Wfs (r e o m i:Nat) {sz rz rv:Nat} {v:Value} {ys:List (List D)} {xs:List (List A)} {x:List A} {L:List (Option (Value × List (List D)))} (hr:Xao s.own r=.rowA rz rv xs) (hx:xs[e]?=some x) (ho:x[o]?=some (.d (.raw v))) (hm:Xao s.own m=.pool sz L) (hi:L[i]?=some (some (v,ys)))
  (h:G S k ⟨s.fr,Xbt (Xbt s.own m (.pool sz (L.set i none))) r (.rowA rz rv (xs.set e (x.set o (.own s.own.length 0))))++[.row sz 0 ys]⟩):G S k s:=by
 rintro Y a w ⟨H,an,F,ms,hs⟩
 obtain⟨hv,F',h1⟩:=hs.pout hm hi
 have hrl:=Xfy hr (by simp)
 have hrm:r≠m:=fun e=>by rw[e,hm] at hr;cases hr
 have hlen:r < (Xbt s.own m (.pool sz (L.set i none))).length:=by rw[Xah,List.length_set];exact hrl
 have hr':Xao (Xbt s.own m (.pool sz (L.set i none))++[.row sz 0 ys]) r=.rowA rz rv xs:=by rw[Xq3 hlen,Xfa _ _ _ _ hrm];exact hr
 rw[<- X2b hlen] at h
 refine h Y a w ⟨H,_,_,ms,h1.recast hr' (by simp) fun p hsc=>Xuo hsc hx ho fun q hd=>?_⟩
 have hq:q=v:=Xjl (an:=an.put s.own.length (0,v)) hd
 subst hq
 exact⟨hv,(0,q),by simp[Anc.put],Nat.le_refl _,fun _=>rfl⟩
def Wft (L:List (Option (Value × List (List D)))) (xs xs':List (List D)):Prop :=
 xs'.length=xs.length/\∀ (i:Nat) (x':List D),xs'[i]?=some x'->∃ x,xs[i]?=some x/\x'.length=x.length /\
  ∀ (j:Nat) (y':D),x'[j]?=some y'->∃ y,x[j]?=some y/\(y'=y\/∃ (n:Nat) (v:Value) (ys:List (List D)),L[n]?=some (some (v,ys))/\y=.raw v/\y'=.sl ys)
theorem Yhb.den {K:Xag} {sz:Nat} {v:Value} {ys:List (List D)} {f:Nat->Prop} (h:Yhb H w sz v ys f) (hH:Xag.Le H K) (hk:∀ b,f b->K b=w.heap[b]?):Den K (.sl ys) v:=by
 obtain⟨_,h0,h1,h2,h3⟩:=h
 rcases h3 with ⟨rfl,⟨a,rfl⟩,_⟩|⟨b,o,cap,vs,T,rfl,e2,e3,e4,e5,e6⟩
 ·exact .slE a 0
 ·refine .sl ys b o cap sz vs T (0,0) (fun i j=>vs.getD (o+i*sz+j) undef) (by rw[hk b ((e2 b).2 rfl)];exact e3) h1 e4 h2 (fun i x j y hx hy=>?_) (fun i x j y hx hy=>?_)
  ·obtain⟨q,hq,_⟩:=e6 i x j y hx hy
   simp[Array.getD_eq_getD_getElem?,hq]
  ·obtain⟨q,hq,hd⟩:=e6 i x j y hx hy
   simp only[Array.getD_eq_getD_getElem?,hq,Option.getD_some]
   exact Den.mono hH hd
theorem Wfu (r m:Nat) {sz rz rv:Nat} {xs:List (List D)} {L:List (Option (Value × List (List D)))} (xs':List (List D)) (hr:Xao s.own r=.row rz rv xs) (hm:Xao s.own m=.pool sz L) (hrel:Wft L xs xs')
  (h:G S k ⟨s.fr,Xbt (Xbt s.own m .dead) r (.row rz rv xs')⟩):G S k s:=by
 rintro Y a w ⟨H,an,F,ms,hs⟩
 have hrl:=Xfy hr (by simp)
 have hml:=Xfy hm (by simp)
 have hrm:r≠m:=fun e=>by rw[e,hm] at hr;cases hr
 obtain⟨q,hq,g,g1,g2,g3,g4⟩:=hs.own m _ (Xay hm (by simp))
 have hle:=Xfv (j:=m) hs
 refine h Y a w ⟨Xc7 (F m) w H,an,fun n b=>n≠m/\F n b,ms,?_⟩
 refine hs.evolve (may:=fun _=>False) (own':=Xbt (Xbt s.own m .dead) r (.row rz rv xs')) (F':=fun n b=>n≠m/\F n b) (WKeep.refl w _) (fun _ hb=>hb.elim) hle (Xgn hs) (fun b o hb=>by
   unfold Xc7 at hb
   split at hb
   ·rename_i hx;exact .inr (.inr ⟨m,hx⟩)
   ·exact .inl hb) (Anc.Le.refl _) (fun i=>by simp[Xah,hs.anc i]) (fun n d hd=>?_) (fun n b hb=>?_) (fun n n' b hb hb'=>hs.dj n n' b hb.2 hb'.2)
 ·rw[Xah,Xah,List.getElem?_set] at hd
  by_cases e:r=n
  ·subst e
   rw[if_pos rfl,if_pos (by simpa using hrl)] at hd
   cases hd
   obtain⟨p,hp,h0,hsl,h1,h2,h3,h4⟩:=hs.own r _ (Xay hr (by simp))
   refine⟨p,hp,?_⟩
   rw[show (fun b=>r≠m/\F r b)=F r from by funext b;simp[hrm]]
   obtain⟨k1,k2⟩:=hrel
   refine⟨h0,hsl,h1,fun x' hx'=>?_,by rw[k1];exact h3,?_⟩
   ·obtain⟨i,hi⟩:=List.mem_iff_getElem?.1 hx'
    obtain⟨x,hx,hl,_⟩:=k2 i x' hi
    rw[hl];exact h2 x (List.mem_of_getElem? hx)
   ·rcases h4 with ⟨rfl,h5,h6⟩|⟨b,o,cap,vs,T,e1,e2,e3,e4,e5,e6⟩
    ·exact .inl ⟨List.length_eq_zero_iff.1 (by simpa using k1),h5,h6⟩
    ·refine .inr ⟨b,o,cap,vs,T,by rw[k1];exact e1,e2,e3,by rw[k1];exact e4,e5,fun i x' j y' hx' hy'=>?_⟩
     obtain⟨x,hx,_,hc⟩:=k2 i x' hx'
     obtain⟨y,hy,hyy⟩:=hc j y' hy'
     obtain⟨u,hu,hd⟩:=e6 i x j y hx hy
     refine⟨u,hu,?_⟩
     rcases hyy with rfl|⟨n,v,ys,hn,rfl,rfl⟩
     ·exact Den.mono hle hd
     ·have:u=v:=by cases hd;rfl
      subst this
      exact (g3 n _ hn).den hle fun b hb=>Xio ((g1 b).2 ⟨n,hb⟩)
  ·rw[if_neg e,List.getElem?_set] at hd
   by_cases em:m=n
   ·subst em
    rw[if_pos rfl,if_pos hml] at hd
    cases hd
    exact⟨q,hq,fun b hb=>hb.1 rfl⟩
   ·rw[if_neg em] at hd
    obtain⟨p,hp,hsc⟩:=hs.own n d hd
    refine⟨p,hp,?_⟩
    rw[show (fun b=>n≠m/\F n b)=F n from by funext b;simp[Ne.symm em]]
    exact hsc.keep hle (Anc.Le.refl _) fun _ _=>rfl
 ·obtain⟨q1,q2,q3⟩:=hs.fp n b hb.2
  refine⟨by simpa [Xah] using hs.fl n b hb.2,q1,?_,.inr ⟨n,hb.2⟩⟩
  unfold Xc7
  rw[if_neg (fun hj=>hb.1 (hs.dj n m b hb.2 hj))]
  exact q2
end
end Go.Fw
namespace Go.Fw
open Go
section
variable {S:Sx} {Y:Dyn} {k:List MI} {s:St} {a:Act} {w w':World} {H:Xag} {an:Anc} {F:Nat->Nat->Prop} {ms:List Nat}
theorem X2c {xs:List (List D)} {v:Value} (h:Den H (.sl xs) v):xs.length < Xab:=by
 cases h with
 | slE A c=>simp[Xab]
 | sl=>assumption
theorem Xzt (t:Nat) {xs:List (List D)} (ht:Xa0 s.fr t=.one (.d (.sl xs))) (h:xs.length < Xab->G S k s):G S k s:=by
 rintro Y a w ⟨H,an,F,ms,hs⟩
 obtain⟨u,hu,hd⟩:=hs.fr.get (Xa8 _ _ _ ht (by simp))
 have hd:Den H (.sl xs) u:=hd
 exact h (X2c hd) Y a w ⟨H,an,F,ms,hs⟩
theorem Yo2 (t i:Nat) {cs:List D} {xs:List (List D)} (ht:Xa0 s.fr t=.one (.d (.bx cs))) (hi:cs[i]?=some (.sl xs)) (h:xs.length < Xab->G S k s):G S k s:=by
 rintro Y a w ⟨H,an,F,ms,hs⟩
 obtain⟨u,hu,hd⟩:=hs.fr.get (Xa8 _ _ _ ht (by simp))
 have hd:Den H (.bx cs) u:=hd
 cases hd with
 | bx=>rename_i h3;exact h (X2c (h3 _ _ hi)) Y a w ⟨H,an,F,ms,hs⟩
theorem Wfv (j:Nat) {sz ver:Nat} {xs:List (List D)} (hj:Xao s.own j=.row sz ver xs) (h:xs.length < Xab->G S k s):G S k s:=by
 rintro Y a w ⟨H,an,F,ms,hs⟩
 obtain⟨p,_,hsc⟩:=hs.own j _ (Xay hj (by simp))
 exact h hsc.2.2.2.2.1 Y a w ⟨H,an,F,ms,hs⟩
end
theorem Xaf {i n:Nat} (h:i < n) (hn:n < Xab):inK .i64 ((i:Int)+1):=by
 unfold inK Xab at *
 simp[IntKind.min,IntKind.max,IntKind.signed,IntKind.bits]
 omega
theorem Xoy {i:Nat} (hn:i < Xab):inK .i64 ((i:Int) - 1):=by
 unfold inK Xab at *
 simp[IntKind.min,IntKind.max,IntKind.signed,IntKind.bits]
 omega
section
variable {S:Sx} {Y:Dyn} {k:List MI} {s:St}
theorem X2d {x:MC} (h:G S (.code x::.again (fun _=>False)::k) s):G S (.code (.loop x)::k) s:=by
 intro Y a w hs hs' c hc
 obtain⟨b,rfl,hb⟩:=Xud hc
 refine wpIn_loop (fun a w=>Sat S Y s a w) (fun _ _=>0) hs fun a w hJ=>?_
 refine wpIn_mono (h Y a w hJ hs' b hb) ?_
 intro e a' w' hm
 cases e with
 | normal=>obtain⟨_,_,hf⟩:=hm;exact hf.elim
 | _=>exact hm
end
end Go.Fw
namespace Go.Fw
open Go
theorem Wva {S:Sx} {q:Bool} {k:List MI} {d:Option Nat} {o:MOp} {r:List MO} {s:St} (h:vc1 S q (VO S q k r) (fun _=>False) (.op d o) s):VO S q k (.op d o::r) s:=by
 rw[Yif];exact h
theorem Wvb {S:Sx} {q:Bool} {k:List MI} {d:Option Nat} {o:MOp} {r:List MO} {s:St} (h:vc1 S false (VO S q k r) (fun _=>False) (.op d o) s):VO S q k (.opx d o::r) s:=by
 rw[Xuc];exact h
theorem Xeg {S:Sx} {q:Bool} {k:List MI} {s:St} (h:G S k s):VO S q k [] s:=h
def Ywt:List MI->Option (List MI)
 | .code (.seq x y)::k=>some (.code x::.code y::k)
 | .code .skip::k=>some k
 | .code (.scope x)::k=>some (.code x::k)
 | .code (.blk id x)::k=>some (.code x::.blk id::k)
 | .blk _::k=>some k
 | _=>none
def Wfw:List MI->Option (List MI)
 | .code (.exit id)::k=>Xqv id k
 | k=>Ywt k
theorem Gw {S:Sx} {k k':List MI} {s:St} (e:Ywt k=some k') (h:G S k' s):G S k s:=by
 unfold Ywt at e
 split at e <;> cases e
 ·exact Xzl h
 ·exact Wfn h
 ·exact Ywm h
 ·exact Wsa h
 ·exact X1w h
theorem Gx {S:Sx} {k k':List MI} {s:St} (e:Wfw k=some k') (h:G S k' s):G S k s:=by
 unfold Wfw at e
 split at e
 ·exact Xc3 e h
 ·exact Gw e h
section
variable {P:Program} {gp:Xag} {f:FuncId} {fn:Func} {hs:List Nat} {m:MC} {rs:List RV} {n:Nat} {args:List V} {res:V} {pre:List Ch} {R:V->List Ch->Prop}
abbrev MC.r0 (l:List MO):MC:=.reg false l
structure KK (P:Program) (f:FuncId) (fn:Func) (hs:List Nat) (m:MC) (rs:List RV) (n:Nat):Prop where
 fd:P.funcs[f]?=some fn
 b:fn.body.isSome=true
 tr:trC P hs (fn.body.getD .skip)=some m
 rs:Xnf P fn.results.toList=some rs
 nt:fn.ntmps=n
abbrev GI (P:Program) (gp:Xag) (rs:List RV) (res:V) (n:Nat) (m:MC) (args:List V):Prop :=
 G ⟨P,gp,0,rs,fun r c=>r=res/\c=[],false⟩ [.code m,.fin] ⟨args++List.replicate (n - args.length) .un,[]⟩
abbrev GT (P:Program) (gp:Xag) (rs:List RV) (pre:List Ch) (R:V->List Ch->Prop) (n:Nat) (m:MC) (args:List V):Prop :=
 G ⟨P,gp,pre.length,rs,R,false⟩ [.code m,.fin] ⟨args++List.replicate (n - args.length) .un,pre⟩
theorem KK.i (k:KK P f fn hs m rs n) (hc:Xaa P f=true) (h:GI P gp rs res n m args):Xam P gp f args res:=by
 obtain⟨h1,h2,h3,h4,rfl⟩:=k
 obtain⟨c,hb⟩:=Option.isSome_iff_exists.1 h2
 rw[hb] at h3
 exact Xzm hc h1 hb h3 h4 h
theorem KK.t (k:KK P f fn hs m rs n) (h:GT P gp rs pre R n m args):Tri P gp f args pre R:=by
 obtain⟨h1,h2,h3,h4,rfl⟩:=k
 obtain⟨c,hb⟩:=Option.isSome_iff_exists.1 h2
 rw[hb] at h3
 exact Xqy h1 hb h3 h4 h
end
attribute [go_sem] GI GT
attribute [go_sem] Ywe vc1 Wfl Yif Xuc Yhj evO Xa0 Xbv Xba Xao Xbt V.ok A.solid V.cells Xcm Xkp X0v Xpx Xdv mkV V.nrm V.nrm2 A.nrm A.ofZ Yhg Wfe Wff Wr8 We1 eqV Xdu eqL
 Xh0 Xld Xlc Xf8 Xlb Xic Xzk Yv4 Wfh Yv3 Xy6 Xp6 X0x Xy7 Ch.live Ch.refs V.refs0 Wr0 We4 Yg6 X0k Xug We5 Xqz Xhl V.data A.data V.scal V.scal1 A.scal D.scal Wfg Xr5 Xr6 A.low mvv ifv Xgi Xax fr Xy8
 Wfd Ywd Xct rn0 Xfq rnA Xfr rnV Xfh We2 rnC Xfd sgN bk0 bkA bk1 bkV bkC bkO X0y
 Xqv Ywj We3 X0u We0 Wez V.refsT V.refs A.refs A.refs0
attribute [go_sem] reduceCtorEq Nat.reduceAdd Nat.reduceSub Nat.reduceMul Nat.reduceLeDiff Nat.reduceLT Nat.reduceEqDiff Int.reduceToNat Int.reduceLT Int.reduceLE Int.reduceGT Int.reduceGE Int.reduceEq Int.reduceNe Int.reduceBEq Int.reduceBNe Int.reduceAdd Int.reduceSub Int.reduceNeg
attribute [go_sem ↓] reduceIte
attribute [go_sem] List.map List.length_nil List.length_cons List.length_map List.nil_append List.cons_append List.append_nil List.take_succ_cons List.take_zero List.take_nil List.drop_succ_cons List.drop_zero List.drop_nil
 List.set_cons_zero List.set_cons_succ List.all_cons List.all_nil List.flatMap_nil List.flatMap_cons List.replicate_succ List.replicate_zero List.getElem?_cons_zero List.getElem?_cons_succ
attribute [go_sem] true_and and_true and_false false_and or_true true_or false_or or_false and_self not_true_eq_false not_false_eq_true ne_eq if_true if_false Bool.false_eq_true Bool.true_eq_false Bool.not_true Bool.not_false
 Bool.and_true Bool.true_and Bool.and_false Bool.false_and Bool.or_true Bool.true_or Bool.or_false Bool.false_or false_implies implies_true forall_const true_implies
attribute [go_sem] Int.toNat_natCast Int.cast_ofNat_Int Nat.zero_add Nat.add_zero Nat.zero_mul Nat.mul_one Nat.one_mul Nat.le_refl List.isEmpty_nil List.isEmpty_cons Option.isNone_none Option.isNone_some Option.isSome_none Option.isSome_some Option.getD_none Option.getD_some
 Option.some.injEq bne_self_eq_false beq_self_eq_true decide_eq_true_eq decide_eq_false_iff_not and_imp eq_self decide_true decide_false
section
variable {S:Sx} {k:List MI} {s:St}
theorem Xdf (fr':List V) (h:G S k ⟨fr',s.own⟩) (hf:Xqz s.fr fr':=by (simp only[go_sem];repeat' (first|refine And.intro ?_ ?_|exact Or.inl rfl|exact Or.inr rfl|rfl))):G S k s:=Yoy fr' hf h
theorem Xff (n:Nat) (h:G S k ⟨s.fr,s.own.take n⟩) (h0:S.np<=n:=by first|exact Nat.zero_le _|(simp only[List.length_nil,List.length_cons];decide)) (h1:(s.fr.all fun v=>Xhl n v.refsT)=true:=by simp only[go_sem]) (h2:((s.own.take n).all fun c=>Xhl n c.refs)=true:=by simp only[go_sem]):G S k s:=Xnx n h0 h1 h2 h
theorem Xhm {q:Bool} {x:MO} {r:List MO} (h:VO S q k (x::r) s):VO S q k (x::r) s:=h
end
end Go.Fw
