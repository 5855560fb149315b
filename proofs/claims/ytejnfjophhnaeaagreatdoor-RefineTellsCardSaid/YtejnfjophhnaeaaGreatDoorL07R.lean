/- Chapter 7,part 20: what the rows give. -/
import Derived.Test.YtejnfjophhnaeaaGreatDoorLc
import Derived.Test.YtejnfjophhnaeaaGreatDoorFe
import Derived.Test.YtejnfjophhnaeaaGreatDoorRows
import Derived.Lay
import Derived.LaidHandle
import Derived.Lib.LaidU8
import Derived.Handed
set_option linter.all false
namespace Go.Fw.L07
open Go Go.Fw Go.Proofs Go.RowKit Go.Proofs.YtejnfjophhnaeaaGreatDoor
set_option maxRecDepth 4000
abbrev Wlo : List (String × DataW Unit) := [("unicode/utf8.acceptRanges", Rows.laid_unicode_utf8_acceptRanges), ("errors.errorType", Rows.laid_errors_errorType), ("unicode/utf8.first", Rows.laid_unicode_utf8_first)]
abbrev Wlp : List (String × DataW Unit) := [("unicode/utf8.acceptRanges", Rows.laid_unicode_utf8_acceptRanges), ("unicode/utf8.first", Rows.laid_unicode_utf8_first)]
theorem own:ownKnob Tryz.prog.godebug=none:=by kernel_rfl
theorem Y5l:laidOutB Tryz.prog=true:=by kernel_rfl
theorem Wvd : Tryz.prog.globalNamed "errors.errorType" = some 0 := by kernel_rfl
theorem Wlq : (Tryz.prog.cutTypes.find? (·.1 == "internal/reflectlite.rtype")).map (·.2) = some 211 := by kernel_rfl
theorem Wtb:Tryz.prog.types.size=(411 - 100):=by kernel_rfl
theorem Wlr:((List.range (411 - 100)).filter fun t=>Tryz.prog.rowNamed t [101,114,114,111,114])=[93]:=by kernel_rfl
theorem Y5m:Lib.firstData=Rows.laid_unicode_utf8_first:=by kernel_rfl
theorem Ylr:Lib.acceptData=Rows.laid_unicode_utf8_acceptRanges:=by kernel_rfl
theorem Xs4 {W:World} (h:laidMetH Tryz.prog Wlo W):Env (Xbh W):=by
 have h' : laidMet Tryz.prog Wlp W /\ handlesMet Tryz.prog [("errors.errorType", Rows.laid_errors_errorType)] W := h
 have mods:∀ (H:Xag) (w:World),Xag.Le (Xbh W) H->Xc8 w H->∀ (b:Nat) (o:Obj),W.heap[b]?=some o->w.heap[b]?=some o:=fun H w h1 h2 b o hb=>h2 b o (h1 b o hb)
 have cell:∀ (H:Xag) (w:World),Xag.Le (Xbh W) H->Xc8 w H->∀ (a:Addr) (v:Value),W.cell? a=some v->w.cell? a=some v:=by
  intro H w h1 h2 a v hv
  unfold World.cell? at hv ⊢
  cases hb:W.heap[a.block]? with
  | none=>rw[hb] at hv;simp at hv
  | some o=>rw[mods H w h1 h2 _ _ hb];rw[hb] at hv;exact hv
 have hU:Lib.Utf8Tabs 3 4 W :=
  utf8Tabs_of_reads (ρ:=Yr4) { X8n with } ⟨by kernel_rfl,by kernel_rfl,by kernel_rfl,by kernel_rfl,by kernel_rfl,by kernel_rfl,by kernel_rfl⟩
   (Y5m ▸ Lib.laidMet.reads h'.1 (.tail _ (.head _))) (Ylr ▸ Lib.laidMet.reads h'.1 (.head _))
 have hE:W.cell? ⟨0,0,none⟩=some (.iface 211 (.agg #[.pointer (some ⟨7,93,none⟩)])):=by
  obtain⟨name,u,ty,e1,e2,e3,e4,e5⟩:=h'.2 _ (List.mem_singleton.2 rfl)
  have en:name=[101,114,114,111,114]:=(Option.some.inj e1).symm
  subst en
  obtain rfl:=Option.some.inj (Wlq.symm.trans e2)
  have hm:ty∈(List.range (411 - 100)).filter fun t=>Tryz.prog.rowNamed t [101,114,114,111,114]:=List.mem_filter.2 ⟨List.mem_range.2 (by rw[<- Wtb];exact e3),e4⟩
  rw[Wlr] at hm
  obtain rfl:=List.mem_singleton.1 hm
  have hh:typeHandle Tryz.prog 93=.pointer (some ⟨7,93,none⟩):=by kernel_rfl
  rw[hh] at e5
  simpa using World.var?_cell Wvd e5 0
 refine⟨fun H w h1 h2=>?_,fun H w h1 h2=>cell H w h1 h2 _ _ hE⟩
 obtain⟨a,b⟩:=hU
 exact⟨fun c hc=>cell H w h1 h2 _ _ (a c hc),fun i hi=>⟨cell H w h1 h2 _ _ (b i hi).1,cell H w h1 h2 _ _ (b i hi).2⟩⟩
noncomputable def Xjx (os:Os):World :=
 let w0:=World.holding Tryz.prog os ⟨#[],#[],[]⟩
 { w0 with heap:=w0.heap.modify 0 fun
   | .cells _ t frozen=>.cells #[.iface 211 (.agg #[.pointer (some ⟨7,93,none⟩)])] t frozen
   | o=>o }
noncomputable def Wls (os:Os):World:=(Xjx os).layVars Tryz.prog Wlp
theorem Yls:Tryz.prog.underlying 4=some .bool:=by kernel_rfl
set_option maxRecDepth 100000
theorem Wlt {n:Nat} {ds:List D} (h:Xdm Tryz.prog (n+2) 41 ds):∃ x:Sc,ds=x.ds:=by
 obtain⟨d1,_,rfl,h1,d2,_,rfl,h2,d3,_,rfl,h3,rfl⟩:=Xgy (ts:=[3,3,9]) (by kernel_rfl) h
 obtain⟨k,rfl⟩:=Xfm (k:=.i64) (by kernel_rfl) h1
 obtain⟨m,rfl⟩:=Xfm (k:=.i64) (by kernel_rfl) h2
 obtain⟨s,rfl⟩:=X84 (by kernel_rfl) h3
 exact⟨⟨k,m,s⟩,rfl⟩
theorem Wtc {n:Nat} {ds:List D} (h:Xdm Tryz.prog (n+4) 44 ds):∃ x:Nd,ds=x.ds:=by
 obtain⟨d1,_,rfl,h1,d2,_,rfl,h2,d3,_,rfl,h3,d4,_,rfl,h4,rfl⟩:=Xgy (ts:=[3,41,42,27]) (by kernel_rfl) h
 obtain⟨k,rfl⟩:=Xfm (k:=.i64) (by kernel_rfl) h1
 obtain⟨x,rfl⟩:=Wlt h2
 obtain⟨xs,rfl,k3⟩:=Xh3 (e:=41) (by kernel_rfl) h3
 obtain⟨keys,rfl⟩:=Xo8 (fun x h=>Wlt h) k3
 obtain⟨ys,rfl,k4⟩:=Xh3 (e:=3) (by kernel_rfl) h4
 obtain⟨kids,rfl⟩:=Xo8 (f:=fun m:Int=>[.int .i64 m]) (fun x h=>Xfm (k:=.i64) (by kernel_rfl) h) k4
 exact⟨⟨k,x,keys,kids⟩,rfl⟩
theorem Wlu {n:Nat} {ds:List D} (h:Xdm Tryz.prog (n+6) 24 ds):∃ g:Gr,ds=[.int .i64 g.root,.sl (nds g.l)]:=by
 obtain⟨d1,_,rfl,h1,d2,_,rfl,h2,rfl⟩:=Xgy (ts:=[3,22]) (by kernel_rfl) h
 obtain⟨r,rfl⟩:=Xfm (k:=.i64) (by kernel_rfl) h1
 obtain⟨xs,rfl,k2⟩:=Xh3 (e:=44) (by kernel_rfl) h2
 obtain⟨l,rfl⟩:=Xo8 (fun x h=>Wtc h) k2
 exact⟨⟨r,l⟩,rfl⟩
theorem Yr6 {n:Nat} {ds:List D} (h:Xdm Tryz.prog (n+1) 3 ds):∃ m,ds=[.int .i64 m]:=Xfm (by kernel_rfl) h
end Go.Fw.L07
