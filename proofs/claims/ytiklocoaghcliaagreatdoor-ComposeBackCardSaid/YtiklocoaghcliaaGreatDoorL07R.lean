/- Chapter 7,part 20: what the rows give. -/
import Derived.Test.YtiklocoaghcliaaGreatDoorLc
import Derived.Test.YtiklocoaghcliaaGreatDoorFe
import Derived.Test.YtiklocoaghcliaaGreatDoorRows
import Derived.Lay
import Derived.LaidHandle
import Derived.Lib.LaidU8
import Derived.Handed
set_option linter.all false
namespace Go.Fw.L07
open Go Go.Fw Go.Proofs Go.RowKit Go.Proofs.YtiklocoaghcliaaGreatDoor
set_option maxRecDepth 4000
abbrev Wr4 : List (String × DataW Unit) := [("unicode/utf8.acceptRanges", Rows.laid_unicode_utf8_acceptRanges), ("errors.errorType", Rows.laid_errors_errorType), ("unicode/utf8.first", Rows.laid_unicode_utf8_first)]
abbrev Ymo : List (String × DataW Unit) := [("unicode/utf8.acceptRanges", Rows.laid_unicode_utf8_acceptRanges), ("unicode/utf8.first", Rows.laid_unicode_utf8_first)]
theorem own:ownKnob Tryz.prog.godebug=none:=by kernel_rfl
theorem Y9q:laidOutB Tryz.prog=true:=by kernel_rfl
theorem W17 : Tryz.prog.globalNamed "errors.errorType" = some 1 := by kernel_rfl
theorem Wr5 : (Tryz.prog.cutTypes.find? (·.1 == "internal/reflectlite.rtype")).map (·.2) = some 196 := by kernel_rfl
theorem Wz8:Tryz.prog.types.size=(396 - 100):=by kernel_rfl
theorem Wr6:((List.range (396 - 100)).filter fun t=>Tryz.prog.rowNamed t [101,114,114,111,114])=[69]:=by kernel_rfl
theorem Y9r:Lib.firstData=Rows.laid_unicode_utf8_first:=by kernel_rfl
theorem Ymp:Lib.acceptData=Rows.laid_unicode_utf8_acceptRanges:=by kernel_rfl
theorem Xug {W:World} (h:laidMetH Tryz.prog Wr4 W):Env (Xba W):=by
 have h' : laidMet Tryz.prog Ymo W /\ handlesMet Tryz.prog [("errors.errorType", Rows.laid_errors_errorType)] W := h
 have mods:∀ (H:Xaj) (w:World),Xaj.Le (Xba W) H->Xc2 w H->∀ (b:Nat) (o:Obj),W.heap[b]?=some o->w.heap[b]?=some o:=fun H w h1 h2 b o hb=>h2 b o (h1 b o hb)
 have cell:∀ (H:Xaj) (w:World),Xaj.Le (Xba W) H->Xc2 w H->∀ (a:Addr) (v:Value),W.cell? a=some v->w.cell? a=some v:=by
  intro H w h1 h2 a v hv
  unfold World.cell? at hv ⊢
  cases hb:W.heap[a.block]? with
  | none=>rw[hb] at hv;simp at hv
  | some o=>rw[mods H w h1 h2 _ _ hb];rw[hb] at hv;exact hv
 have hU:Lib.Utf8Tabs 2 3 W :=
  utf8Tabs_of_reads (ρ:=Yvq) { Yat with } ⟨by kernel_rfl,by kernel_rfl,by kernel_rfl,by kernel_rfl,by kernel_rfl,by kernel_rfl,by kernel_rfl⟩
   (Y9r ▸ Lib.laidMet.reads h'.1 (.tail _ (.head _))) (Ymp ▸ Lib.laidMet.reads h'.1 (.head _))
 have hE:W.cell? ⟨1,0,none⟩=some (.iface 196 (.agg #[.pointer (some ⟨7,69,none⟩)])):=by
  obtain⟨name,u,ty,e1,e2,e3,e4,e5⟩:=h'.2 _ (List.mem_singleton.2 rfl)
  have en:name=[101,114,114,111,114]:=(Option.some.inj e1).symm
  subst en
  obtain rfl:=Option.some.inj (Wr5.symm.trans e2)
  have hm:ty∈(List.range (396 - 100)).filter fun t=>Tryz.prog.rowNamed t [101,114,114,111,114]:=List.mem_filter.2 ⟨List.mem_range.2 (by rw[<- Wz8];exact e3),e4⟩
  rw[Wr6] at hm
  obtain rfl:=List.mem_singleton.1 hm
  have hh:typeHandle Tryz.prog 69=.pointer (some ⟨7,69,none⟩):=by kernel_rfl
  rw[hh] at e5
  simpa using World.var?_cell W17 e5 0
 refine⟨fun H w h1 h2=>?_,fun H w h1 h2=>cell H w h1 h2 _ _ hE⟩
 obtain⟨a,b⟩:=hU
 exact⟨fun c hc=>cell H w h1 h2 _ _ (a c hc),fun i hi=>⟨cell H w h1 h2 _ _ (b i hi).1,cell H w h1 h2 _ _ (b i hi).2⟩⟩
noncomputable def Xjw (os:Os):World :=
 let w0:=World.holding Tryz.prog os ⟨#[],#[],[]⟩
 { w0 with heap:=w0.heap.modify 1 fun
   | .cells _ t frozen=>.cells #[.iface 196 (.agg #[.pointer (some ⟨7,69,none⟩)])] t frozen
   | o=>o }
noncomputable def Wr7 (os:Os):World:=(Xjw os).layVars Tryz.prog Ymo
theorem Ymq:Tryz.prog.underlying 4=some .bool:=by kernel_rfl
set_option maxRecDepth 100000
theorem Wr8 {n:Nat} {ds:List D} (h:Xdd Tryz.prog (n+2) 28 ds):∃ x:Sc,ds=x.ds:=by
 obtain⟨d1,_,rfl,h1,d2,_,rfl,h2,d3,_,rfl,h3,rfl⟩:=Xg0 (ts:=[3,3,9]) (by kernel_rfl) h
 obtain⟨k,rfl⟩:=Xg1 (k:=.i64) (by kernel_rfl) h1
 obtain⟨m,rfl⟩:=Xg1 (k:=.i64) (by kernel_rfl) h2
 obtain⟨s,rfl⟩:=Ybd (by kernel_rfl) h3
 exact⟨⟨k,m,s⟩,rfl⟩
theorem Wz9 {n:Nat} {ds:List D} (h:Xdd Tryz.prog (n+4) 40 ds):∃ x:Nd,ds=x.ds:=by
 obtain⟨d1,_,rfl,h1,d2,_,rfl,h2,d3,_,rfl,h3,d4,_,rfl,h4,rfl⟩:=Xg0 (ts:=[3,28,29,38]) (by kernel_rfl) h
 obtain⟨k,rfl⟩:=Xg1 (k:=.i64) (by kernel_rfl) h1
 obtain⟨x,rfl⟩:=Wr8 h2
 obtain⟨xs,rfl,k3⟩:=Xib (e:=28) (by kernel_rfl) h3
 obtain⟨keys,rfl⟩:=Xpw (fun x h=>Wr8 h) k3
 obtain⟨ys,rfl,k4⟩:=Xib (e:=3) (by kernel_rfl) h4
 obtain⟨kids,rfl⟩:=Xpw (f:=fun m:Int=>[.int .i64 m]) (fun x h=>Xg1 (k:=.i64) (by kernel_rfl) h) k4
 exact⟨⟨k,x,keys,kids⟩,rfl⟩
theorem W0a {n:Nat} {ds:List D} (h:Xdd Tryz.prog (n+6) 24 ds):∃ g:Gr,ds=[.int .i64 g.root,.sl (nds g.l)]:=by
 obtain⟨d1,_,rfl,h1,d2,_,rfl,h2,rfl⟩:=Xg0 (ts:=[3,22]) (by kernel_rfl) h
 obtain⟨r,rfl⟩:=Xg1 (k:=.i64) (by kernel_rfl) h1
 obtain⟨xs,rfl,k2⟩:=Xib (e:=40) (by kernel_rfl) h2
 obtain⟨l,rfl⟩:=Xpw (fun x h=>Wz9 h) k2
 exact⟨⟨r,l⟩,rfl⟩
end Go.Fw.L07
