/- Chapter 7,part 20: what the rows give. -/
import Derived.Test.YtakgmpkfpkmkaaaGreatDoorLc
import Derived.Test.YtakgmpkfpkmkaaaGreatDoorFe
import Derived.Test.YtakgmpkfpkmkaaaGreatDoorRows
import Derived.Lay
import Derived.LaidHandle
import Derived.Lib.LaidU8
import Derived.Handed
set_option linter.all false
namespace Go.Fw.L07
open Go Go.Fw Go.Proofs Go.RowKit Go.Proofs.YtakgmpkfpkmkaaaGreatDoor
set_option maxRecDepth 4000
abbrev W7b : List (String × DataW Unit) := [("unicode/utf8.acceptRanges", Rows.laid_unicode_utf8_acceptRanges), ("errors.errorType", Rows.laid_errors_errorType), ("unicode/utf8.first", Rows.laid_unicode_utf8_first)]
abbrev W7c : List (String × DataW Unit) := [("unicode/utf8.acceptRanges", Rows.laid_unicode_utf8_acceptRanges), ("unicode/utf8.first", Rows.laid_unicode_utf8_first)]
theorem own:ownKnob Tryz.prog.godebug=none:=by kernel_rfl
theorem Wob:laidOutB Tryz.prog=true:=by kernel_rfl
theorem Jjm : Tryz.prog.globalNamed "errors.errorType" = some 0 := by kernel_rfl
theorem W7d : (Tryz.prog.cutTypes.find? (·.1 == "internal/reflectlite.rtype")).map (·.2) = some 208 := by kernel_rfl
theorem Jgx:Tryz.prog.types.size=(415 - 100):=by kernel_rfl
theorem W7e:((List.range (415 - 100)).filter fun t=>Tryz.prog.rowNamed t [101,114,114,111,114])=[58]:=by kernel_rfl
theorem Woc:Lib.firstData=Rows.laid_unicode_utf8_first:=by kernel_rfl
theorem Yuv:Lib.acceptData=Rows.laid_unicode_utf8_acceptRanges:=by kernel_rfl
theorem Xtj {W:World} (h:laidMetH Tryz.prog W7b W):Env (Xbd W):=by
 have h' : laidMet Tryz.prog W7c W /\ handlesMet Tryz.prog [("errors.errorType", Rows.laid_errors_errorType)] W := h
 have mods:∀ (H:Heap) (w:World),Heap.Le (Xbd W) H->Xci w H->∀ (b:Nat) (o:Obj),W.heap[b]?=some o->w.heap[b]?=some o:=fun H w h1 h2 b o hb=>h2 b o (h1 b o hb)
 have cell:∀ (H:Heap) (w:World),Heap.Le (Xbd W) H->Xci w H->∀ (a:Addr) (v:Value),W.cell? a=some v->w.cell? a=some v:=by
  intro H w h1 h2 a v hv
  unfold World.cell? at hv ⊢
  cases hb:W.heap[a.block]? with
  | none=>rw[hb] at hv;simp at hv
  | some o=>rw[mods H w h1 h2 _ _ hb];rw[hb] at hv;exact hv
 have hU:Lib.Utf8Tabs 1 2 W :=
  utf8Tabs_of_reads (ρ:=Y38) { Yfs with } ⟨by kernel_rfl,by kernel_rfl,by kernel_rfl,by kernel_rfl,by kernel_rfl,by kernel_rfl,by kernel_rfl⟩
   (Woc ▸ Lib.laidMet.reads h'.1 (.tail _ (.head _))) (Yuv ▸ Lib.laidMet.reads h'.1 (.head _))
 have hE:W.cell? ⟨0,0,none⟩=some (.iface 208 (.agg #[.pointer (some ⟨7,58,none⟩)])):=by
  obtain⟨name,u,ty,e1,e2,e3,e4,e5⟩:=h'.2 _ (List.mem_singleton.2 rfl)
  have en:name=[101,114,114,111,114]:=(Option.some.inj e1).symm
  subst en
  obtain rfl:=Option.some.inj (W7d.symm.trans e2)
  have hm:ty∈(List.range (415 - 100)).filter fun t=>Tryz.prog.rowNamed t [101,114,114,111,114]:=List.mem_filter.2 ⟨List.mem_range.2 (by rw[<- Jgx];exact e3),e4⟩
  rw[W7e] at hm
  obtain rfl:=List.mem_singleton.1 hm
  have hh:typeHandle Tryz.prog 58=.pointer (some ⟨7,58,none⟩):=by kernel_rfl
  rw[hh] at e5
  simpa using World.var?_cell Jjm e5 0
 refine⟨fun H w h1 h2=>?_,fun H w h1 h2=>cell H w h1 h2 _ _ hE⟩
 obtain⟨a,b⟩:=hU
 exact⟨fun c hc=>cell H w h1 h2 _ _ (a c hc),fun i hi=>⟨cell H w h1 h2 _ _ (b i hi).1,cell H w h1 h2 _ _ (b i hi).2⟩⟩
noncomputable def Xiz (os:Os):World :=
 let w0:=World.holding Tryz.prog os ⟨#[],#[],[]⟩
 { w0 with heap:=w0.heap.modify 0 fun
   | .cells _ t frozen=>.cells #[.iface 208 (.agg #[.pointer (some ⟨7,58,none⟩)])] t frozen
   | o=>o }
noncomputable def W7f (os:Os):World:=(Xiz os).layVars Tryz.prog W7c
theorem Yuw:Tryz.prog.underlying 4=some .bool:=by kernel_rfl
set_option maxRecDepth 100000
theorem W7g {n:Nat} {ds:List D} (h:Xcg Tryz.prog (n+2) 39 ds):∃ x:Sc,ds=x.ds:=by
 obtain⟨d1,_,rfl,h1,d2,_,rfl,h2,d3,_,rfl,h3,rfl⟩:=Xgd (ts:=[3,3,9]) (by kernel_rfl) h
 obtain⟨k,rfl⟩:=Xge (k:=.i64) (by kernel_rfl) h1
 obtain⟨m,rfl⟩:=Xge (k:=.i64) (by kernel_rfl) h2
 obtain⟨s,rfl⟩:=Yf9 (by kernel_rfl) h3
 exact⟨⟨k,m,s⟩,rfl⟩
theorem Jgy {n:Nat} {ds:List D} (h:Xcg Tryz.prog (n+4) 43 ds):∃ x:Nd,ds=x.ds:=by
 obtain⟨d1,_,rfl,h1,d2,_,rfl,h2,d3,_,rfl,h3,d4,_,rfl,h4,rfl⟩:=Xgd (ts:=[3,39,40,41]) (by kernel_rfl) h
 obtain⟨k,rfl⟩:=Xge (k:=.i64) (by kernel_rfl) h1
 obtain⟨x,rfl⟩:=W7g h2
 obtain⟨xs,rfl,k3⟩:=Xhi (e:=39) (by kernel_rfl) h3
 obtain⟨keys,rfl⟩:=Xo7 (fun x h=>W7g h) k3
 obtain⟨ys,rfl,k4⟩:=Xhi (e:=3) (by kernel_rfl) h4
 obtain⟨kids,rfl⟩:=Xo7 (f:=fun m:Int=>[.int .i64 m]) (fun x h=>Xge (k:=.i64) (by kernel_rfl) h) k4
 exact⟨⟨k,x,keys,kids⟩,rfl⟩
theorem Jgz {n:Nat} {ds:List D} (h:Xcg Tryz.prog (n+6) 24 ds):∃ g:Gr,ds=[.int .i64 g.root,.sl (nds g.l)]:=by
 obtain⟨d1,_,rfl,h1,d2,_,rfl,h2,rfl⟩:=Xgd (ts:=[3,22]) (by kernel_rfl) h
 obtain⟨r,rfl⟩:=Xge (k:=.i64) (by kernel_rfl) h1
 obtain⟨xs,rfl,k2⟩:=Xhi (e:=43) (by kernel_rfl) h2
 obtain⟨l,rfl⟩:=Xo7 (fun x h=>Jgy h) k2
 exact⟨⟨r,l⟩,rfl⟩
theorem Wod {n:Nat} {ds:List D} (h:Xcg Tryz.prog (n+1) 4 ds):∃ m,ds=[.bool m]:=X2l (by kernel_rfl) h
end Go.Fw.L07
