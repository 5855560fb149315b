/- Chapter 7,part 20: what the rows give. -/
import Derived.Test.YtejnfjophhnaeaaGreatDoorLc
import Derived.Test.YtejnfjophhnaeaaGreatDoorFe
import Derived.Test.YtejnfjophhnaeaaGreatDoorRows
import Derived.Lay
import Derived.LaidHandle
import Derived.Lib.LaidU8
import Derived.Handed
set_option linter.all false
namespace Go.Fw.L07
open Go Go.Fw Go.Proofs Go.RowKit Go.Proofs.YtejnfjophhnaeaaGreatDoor
set_option maxRecDepth 4000
abbrev Wu1 : List (String × DataW Unit) := [("unicode/utf8.acceptRanges", Rows.laid_unicode_utf8_acceptRanges), ("errors.errorType", Rows.laid_errors_errorType), ("unicode/utf8.first", Rows.laid_unicode_utf8_first)]
abbrev Wu2 : List (String × DataW Unit) := [("unicode/utf8.acceptRanges", Rows.laid_unicode_utf8_acceptRanges), ("unicode/utf8.first", Rows.laid_unicode_utf8_first)]
theorem own:ownKnob Tryz.prog.godebug=none:=by kernel_rfl
theorem Wcj:laidOutB Tryz.prog=true:=by kernel_rfl
theorem W7v : Tryz.prog.globalNamed "errors.errorType" = some 0 := by kernel_rfl
theorem Wu3 : (Tryz.prog.cutTypes.find? (·.1 == "internal/reflectlite.rtype")).map (·.2) = some 211 := by kernel_rfl
theorem W5f:Tryz.prog.types.size=(411 - 100):=by kernel_rfl
theorem Wu4:((List.range (411 - 100)).filter fun t=>Tryz.prog.rowNamed t [101,114,114,111,114])=[93]:=by kernel_rfl
theorem Wck:Lib.firstData=Rows.laid_unicode_utf8_first:=by kernel_rfl
theorem Yol:Lib.acceptData=Rows.laid_unicode_utf8_acceptRanges:=by kernel_rfl
theorem Xtp {W:World} (h:laidMetH Tryz.prog Wu1 W):Env (Xbi W):=by
 have h' : laidMet Tryz.prog Wu2 W /\ handlesMet Tryz.prog [("errors.errorType", Rows.laid_errors_errorType)] W := h
 have mods:∀ (H:Xal) (w:World),Xal.Le (Xbi W) H->Xdm w H->∀ (b:Nat) (o:Obj),W.heap[b]?=some o->w.heap[b]?=some o:=fun H w h1 h2 b o hb=>h2 b o (h1 b o hb)
 have cell:∀ (H:Xal) (w:World),Xal.Le (Xbi W) H->Xdm w H->∀ (a:Addr) (v:Value),W.cell? a=some v->w.cell? a=some v:=by
  intro H w h1 h2 a v hv
  unfold World.cell? at hv ⊢
  cases hb:W.heap[a.block]? with
  | none=>rw[hb] at hv;simp at hv
  | some o=>rw[mods H w h1 h2 _ _ hb];rw[hb] at hv;exact hv
 have hU:Lib.Utf8Tabs 3 4 W :=
  utf8Tabs_of_reads (ρ:=Ywp) { Yaa with } ⟨by kernel_rfl,by kernel_rfl,by kernel_rfl,by kernel_rfl,by kernel_rfl,by kernel_rfl,by kernel_rfl⟩
   (Wck ▸ Lib.laidMet.reads h'.1 (.tail _ (.head _))) (Yol ▸ Lib.laidMet.reads h'.1 (.head _))
 have hE:W.cell? ⟨0,0,none⟩=some (.iface 211 (.agg #[.pointer (some ⟨7,93,none⟩)])):=by
  obtain⟨name,u,ty,e1,e2,e3,e4,e5⟩:=h'.2 _ (List.mem_singleton.2 rfl)
  have en:name=[101,114,114,111,114]:=(Option.some.inj e1).symm
  subst en
  obtain rfl:=Option.some.inj (Wu3.symm.trans e2)
  have hm:ty∈(List.range (411 - 100)).filter fun t=>Tryz.prog.rowNamed t [101,114,114,111,114]:=List.mem_filter.2 ⟨List.mem_range.2 (by rw[<- W5f];exact e3),e4⟩
  rw[Wu4] at hm
  obtain rfl:=List.mem_singleton.1 hm
  have hh:typeHandle Tryz.prog 93=.pointer (some ⟨7,93,none⟩):=by kernel_rfl
  rw[hh] at e5
  simpa using World.var?_cell W7v e5 0
 refine⟨fun H w h1 h2=>?_,fun H w h1 h2=>cell H w h1 h2 _ _ hE⟩
 obtain⟨a,b⟩:=hU
 exact⟨fun c hc=>cell H w h1 h2 _ _ (a c hc),fun i hi=>⟨cell H w h1 h2 _ _ (b i hi).1,cell H w h1 h2 _ _ (b i hi).2⟩⟩
noncomputable def Xj5 (os:Os):World :=
 let w0:=World.holding Tryz.prog os ⟨#[],#[],[]⟩
 { w0 with heap:=w0.heap.modify 0 fun
   | .cells _ t frozen=>.cells #[.iface 211 (.agg #[.pointer (some ⟨7,93,none⟩)])] t frozen
   | o=>o }
noncomputable def Wu5 (os:Os):World:=(Xj5 os).layVars Tryz.prog Wu2
theorem Yom:Tryz.prog.underlying 4=some .bool:=by kernel_rfl
set_option maxRecDepth 100000
theorem Wu6 {n:Nat} {ds:List D} (h:Xd9 Tryz.prog (n+2) 41 ds):∃ x:Sc,ds=x.ds:=by
 obtain⟨d1,_,rfl,h1,d2,_,rfl,h2,d3,_,rfl,h3,rfl⟩:=Xg1 (ts:=[3,3,9]) (by kernel_rfl) h
 obtain⟨k,rfl⟩:=Xg2 (k:=.i64) (by kernel_rfl) h1
 obtain⟨m,rfl⟩:=Xg2 (k:=.i64) (by kernel_rfl) h2
 obtain⟨s,rfl⟩:=Yat (by kernel_rfl) h3
 exact⟨⟨k,m,s⟩,rfl⟩
theorem W5g {n:Nat} {ds:List D} (h:Xd9 Tryz.prog (n+4) 44 ds):∃ x:Nd,ds=x.ds:=by
 obtain⟨d1,_,rfl,h1,d2,_,rfl,h2,d3,_,rfl,h3,d4,_,rfl,h4,rfl⟩:=Xg1 (ts:=[3,41,42,27]) (by kernel_rfl) h
 obtain⟨k,rfl⟩:=Xg2 (k:=.i64) (by kernel_rfl) h1
 obtain⟨x,rfl⟩:=Wu6 h2
 obtain⟨xs,rfl,k3⟩:=Xh2 (e:=41) (by kernel_rfl) h3
 obtain⟨keys,rfl⟩:=Xpo (fun x h=>Wu6 h) k3
 obtain⟨ys,rfl,k4⟩:=Xh2 (e:=3) (by kernel_rfl) h4
 obtain⟨kids,rfl⟩:=Xpo (f:=fun m:Int=>[.int .i64 m]) (fun x h=>Xg2 (k:=.i64) (by kernel_rfl) h) k4
 exact⟨⟨k,x,keys,kids⟩,rfl⟩
theorem W5h {n:Nat} {ds:List D} (h:Xd9 Tryz.prog (n+6) 24 ds):∃ g:Gr,ds=[.int .i64 g.root,.sl (nds g.l)]:=by
 obtain⟨d1,_,rfl,h1,d2,_,rfl,h2,rfl⟩:=Xg1 (ts:=[3,22]) (by kernel_rfl) h
 obtain⟨r,rfl⟩:=Xg2 (k:=.i64) (by kernel_rfl) h1
 obtain⟨xs,rfl,k2⟩:=Xh2 (e:=44) (by kernel_rfl) h2
 obtain⟨l,rfl⟩:=Xpo (fun x h=>W5g h) k2
 exact⟨⟨r,l⟩,rfl⟩
end Go.Fw.L07
