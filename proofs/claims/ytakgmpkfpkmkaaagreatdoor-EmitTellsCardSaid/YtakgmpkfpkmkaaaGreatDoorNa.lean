/- Chapter 13: what the library does with texts: repeated,joined. -/
import Derived.Shelf.Strings.Repeat
import Derived.Shelf.Strings.OnBuilder
import Derived.Test.YtakgmpkfpkmkaaaGreatDoorJb
import Derived.WalkKit
import Derived.Shelf.RegionOpenPlain
import Derived.Deep.LoopGhost
import Derived.Laws.CopyRow
import Derived.Laws.MakeOwn
import Derived.Laws.IdiomStrings
import Derived.Lib.ConvBytes
import Derived.Laws.CopyOwn
import Derived.Test.YtakgmpkfpkmkaaaGreatDoorMa
import Derived.Test.YtakgmpkfpkmkaaaGreatDoorEa
set_option linter.all false
namespace Go.Fw.L07
open Go Go.Fw Go.Shelf
set_option maxRecDepth 4000
variable {gp:Heap}
def Ym2:Ren:=⟨fun|99=>174|105=>150|156=>124|165=>151|166=>27|169=>28|170=>175|206=>196|212=>173|240=>58|241=>176|263=>194|264=>195|276=>86|277=>197|n=>n,
 fun|0=>0|3=>3|4=>4|5=>5|9=>9|20=>20|31=>30|37=>54|46=>160|51=>247|53=>242|70=>53|72=>56|75=>58|76=>59|80=>61|109=>257|127=>101|146=>273|148=>275|164=>147|n=>n,
 fun n=>n⟩
theorem repLays:Go.Proofs.Lays.n105 Go.Proofs.Tryz.prog Ym2:={
 mixed:=by kernel_rfl
 f99:=by kernel_rfl
 f105:=by kernel_rfl
 f165:=by kernel_rfl
 f166:=by kernel_rfl
 f169:=by kernel_rfl
 f170:=by kernel_rfl
 f206:=by kernel_rfl
 f212:=by kernel_rfl
 f240:=by kernel_rfl
 f241:=by kernel_rfl
 f263:=by kernel_rfl
 f264:=by kernel_rfl
 f276:=by kernel_rfl
 f277:=by kernel_rfl
 t0:=by kernel_rfl
 a0:=fun w=>by kernel_rfl
 z0:=fun w=>by kernel_rfl
 v0:=fun w=>by kernel_rfl
 t3:=by kernel_rfl
 a3:=fun w=>by kernel_rfl
 z3:=fun w=>by kernel_rfl
 v3:=fun w=>by kernel_rfl
 t4:=by kernel_rfl
 a4:=fun w=>by kernel_rfl
 z4:=fun w=>by kernel_rfl
 v4:=fun w=>by kernel_rfl
 t5:=by kernel_rfl
 a5:=fun w=>by kernel_rfl
 z5:=fun w=>by kernel_rfl
 v5:=fun w=>by kernel_rfl
 t9:=by kernel_rfl
 a9:=fun w=>by kernel_rfl
 z9:=fun w=>by kernel_rfl
 v9:=fun w=>by kernel_rfl
 t20:=by kernel_rfl
 a20:=fun w=>by kernel_rfl
 z20:=fun w=>by kernel_rfl
 v20:=fun w=>by kernel_rfl
 t37:=by kernel_rfl
 a37:=fun w=>by kernel_rfl
 z37:=fun w=>by kernel_rfl
 v37:=fun w=>by kernel_rfl
 t46:=by kernel_rfl
 a46:=fun w=>by kernel_rfl
 z46:=fun w=>by kernel_rfl
 v46:=fun w=>by kernel_rfl
 t51:=by kernel_rfl
 a51:=fun w=>by kernel_rfl
 z51:=fun w=>by kernel_rfl
 v51:=fun w=>by kernel_rfl
 t53:=by kernel_rfl
 a53:=fun w=>by kernel_rfl
 z53:=fun w=>by kernel_rfl
 v53:=fun w=>by kernel_rfl
 t70:=by kernel_rfl
 a70:=fun w=>by kernel_rfl
 z70:=fun w=>by kernel_rfl
 v70:=fun w=>by kernel_rfl
 t72:=by kernel_rfl
 a72:=fun w=>by kernel_rfl
 z72:=fun w=>by kernel_rfl
 v72:=fun w=>by kernel_rfl
 t75:=by kernel_rfl
 a75:=fun w=>by kernel_rfl
 z75:=fun w=>by kernel_rfl
 v75:=fun w=>by kernel_rfl
 t76:=by kernel_rfl
 a76:=fun w=>by kernel_rfl
 z76:=fun w=>by kernel_rfl
 v76:=fun w=>by kernel_rfl
 t109:=by kernel_rfl
 a109:=fun w=>by kernel_rfl
 z109:=fun w=>by kernel_rfl
 v109:=fun w=>by kernel_rfl
 t127:=by kernel_rfl
 a127:=fun w=>by kernel_rfl
 z127:=fun w=>by kernel_rfl
 v127:=fun w=>by kernel_rfl
 t146:=by kernel_rfl
 a146:=fun w=>by kernel_rfl
 z146:=fun w=>by kernel_rfl
 v146:=fun w=>by kernel_rfl
 t148:=by kernel_rfl
 a148:=fun w=>by kernel_rfl
 z148:=fun w=>by kernel_rfl
 v148:=fun w=>by kernel_rfl
 t164:=by kernel_rfl
 a164:=fun w=>by kernel_rfl
 z164:=fun w=>by kernel_rfl
 v164:=fun w=>by kernel_rfl
}
theorem Yxt:Go.Proofs.Lays.n156 Go.Proofs.Tryz.prog Ym2:={
 mixed:=by kernel_rfl
 f156:=by kernel_rfl
 f165:=by kernel_rfl
 f166:=by kernel_rfl
 f169:=by kernel_rfl
 f240:=by kernel_rfl
 f241:=by kernel_rfl
 f276:=by kernel_rfl
 f277:=by kernel_rfl
 t0:=by kernel_rfl
 a0:=fun w=>by kernel_rfl
 z0:=fun w=>by kernel_rfl
 v0:=fun w=>by kernel_rfl
 t3:=by kernel_rfl
 a3:=fun w=>by kernel_rfl
 z3:=fun w=>by kernel_rfl
 v3:=fun w=>by kernel_rfl
 t4:=by kernel_rfl
 a4:=fun w=>by kernel_rfl
 z4:=fun w=>by kernel_rfl
 v4:=fun w=>by kernel_rfl
 t9:=by kernel_rfl
 a9:=fun w=>by kernel_rfl
 z9:=fun w=>by kernel_rfl
 v9:=fun w=>by kernel_rfl
 t20:=by kernel_rfl
 a20:=fun w=>by kernel_rfl
 z20:=fun w=>by kernel_rfl
 v20:=fun w=>by kernel_rfl
 t31:=by kernel_rfl
 a31:=fun w=>by kernel_rfl
 z31:=fun w=>by kernel_rfl
 v31:=fun w=>by kernel_rfl
 t37:=by kernel_rfl
 a37:=fun w=>by kernel_rfl
 z37:=fun w=>by kernel_rfl
 v37:=fun w=>by kernel_rfl
 t70:=by kernel_rfl
 a70:=fun w=>by kernel_rfl
 z70:=fun w=>by kernel_rfl
 v70:=fun w=>by kernel_rfl
 t72:=by kernel_rfl
 a72:=fun w=>by kernel_rfl
 z72:=fun w=>by kernel_rfl
 v72:=fun w=>by kernel_rfl
 t75:=by kernel_rfl
 a75:=fun w=>by kernel_rfl
 z75:=fun w=>by kernel_rfl
 v75:=fun w=>by kernel_rfl
 t76:=by kernel_rfl
 a76:=fun w=>by kernel_rfl
 z76:=fun w=>by kernel_rfl
 v76:=fun w=>by kernel_rfl
 t127:=by kernel_rfl
 a127:=fun w=>by kernel_rfl
 z127:=fun w=>by kernel_rfl
 v127:=fun w=>by kernel_rfl
 t164:=by kernel_rfl
 a164:=fun w=>by kernel_rfl
 z164:=fun w=>by kernel_rfl
 v164:=fun w=>by kernel_rfl
}
theorem libX:Go.Proofs.Builder.Extra Go.Proofs.Tryz.prog Ym2:={
 sizeBuilder:=by kernel_rfl
 liesBuilder:=by kernel_rfl
 t5:=by kernel_rfl
 a5:=fun w=>by kernel_rfl
 z5:=fun w=>by kernel_rfl
 v5:=fun w=>by kernel_rfl
 infoByte:=by kernel_rfl
 cellsByte:=by kernel_rfl
 sizeByte:=by kernel_rfl
 neB5:=by decide }
theorem Xnt {f:FuncId} {args:List V} {res:V} (hc:Xaa Go.Proofs.Tryz.prog f=true)
  (h:∀ (H:Heap) (w:World) (an:Anc) (us:List Value),Xci w H->Xal (Xax H an) args us->Calls Go.Proofs.Tryz.prog f us.toArray w fun e w'=>∃ v,e=.returned v/\Go.RowKit.Below w.heap.size w w'/\Xax H an res v):Does Go.Proofs.Tryz.prog gp f args res:=by
 refine⟨hc,?_⟩
 intro H w an F us hgp hmod hanc hown hF hdj hargs
 intro cs
 obtain⟨e',w',fr,⟨v,rfl,hb,hd⟩,g2,g3,g4⟩:=h H w an us hmod hargs cs
 have hk:WKeep w w' (fun b=>∃ i,F i b):=⟨hb.os,hb.tape,hb.output,hb.size,fun k hk _=>hb.block k hk⟩
 refine⟨_,_,fr,⟨v,res,[],H,an,F,rfl,⟨rfl,rfl⟩,hk,Heap.Le.refl _,fun z o hz=>?_,fun b o hb=>.inl hb,Anc.Le.refl _,hanc,fun i c hc=>?_,fun i b hb=>?_,hdj,hd⟩,g2,g3,g4⟩
 ·have h3:=hmod z o hz
  exact (hb.block z (Array.getElem?_eq_some_iff.1 h3).1).trans h3
 ·simp at hc
 ·obtain⟨k1,k2,k3⟩:=hF i b hb
  exact⟨k1,Nat.lt_of_lt_of_le k2 hk.size,k3,.inr ⟨i,hb⟩⟩
theorem Jdu (l:List ByteArray) (hl:l≠[]) (hb:(l.flatMap fun s=>s.data.toList).length<=1000000000) (hn:l.length<=1000):Does Go.Proofs.Tryz.prog gp 124 [.one (.d (.sl (l.map fun s=>[.str s]))),vs ⟨#[]⟩] (vs (bT (l.flatMap fun s=>s.data.toList))):=by
 refine Xnt (by kernel_rfl) fun H w an us hm ha=>?_
 obtain⟨u1,rfl,h1⟩:∃ u1,us=[u1,.string ⟨#[]⟩]/\Den H (.sl (l.map fun s=>[.str s])) u1:=by
  match us,ha with
  | [u1,u2],h =>
   obtain⟨h1,h2,_⟩:=h
   have h2:Den H (.str ⟨#[]⟩) u2:=h2
   cases h2;exact⟨u1,rfl,h1⟩
 have hj:(Lib.join (l.map (·.data.toList)) (⟨#[]⟩:ByteArray).data.toList)=l.flatMap fun s=>s.data.toList:=by
  rw[Lib.join,List.flatMap]
  generalize l.map (·.data.toList)=m
  induction m with
  | nil=>rfl
  | cons a m ih =>
   cases m with
   | nil=>simp[List.intercalate]
   | cons b m=>simp[List.intercalate,List.intersperse] at ih ⊢;simpa using ih
 generalize hq:(l.map fun s=>[D.str s])=ys at h1
 cases h1 with
 | slE A c =>
  simp at hq
  exact absurd hq hl
 | sl xs b o c sz cells T fz f hH hs hc hlm hf hd =>
  subst hq
  have hw:=hm _ _ hH
  have hbw:b < w.heap.size:=(Array.getElem?_eq_some_iff.1 hw).1
  obtain⟨x,r,rfl⟩:∃ x r,l=x::r:=by cases l with|nil=>exact absurd rfl hl|cons x r=>exact⟨x,r,rfl⟩
  have hsz:sz=1:=by have:=hs [.str x] (by simp);simpa using this.symm
  subst hsz
  have hcell:∀ (j:Nat) y,(x::r)[j]?=some y->w.cell? ⟨b,o+j,none⟩=some (.string y):=by
   intro j y hy
   have e1:((x::r).map fun s=>[D.str s])[j]?=some [.str y]:=by rw[List.getElem?_map,hy];rfl
   have h2:=hf j _ 0 _ e1 rfl
   have h3:=hd j _ 0 _ e1 rfl
   rw[Go.Fw.cell_of_heap hw]
   simp only[Nat.mul_one,Nat.add_zero] at h2
   rw[h2]
   generalize f j 0=q at h3
   cases h3;rfl
  have hr:=Go.Proofs.Any.strings_Join Yxt libX b o c (x::r) ⟨#[]⟩ w hcell hbw (by omega) (by simpa using hc) (by rw[hj];omega)
  rw[hj] at hr
  have e2:((x::r).map fun s=>[D.str s]).length=(x::r).length:=by simp
  rw[e2]
  exact hr.mono fun e w' ⟨he,hw⟩=>⟨_,he,hw,Den.str _⟩
end Go.Fw.L07
namespace Go.Fw.L07
open Go Go.Shelf Go.RowKit Go.Proofs
set_option maxHeartbeats 4000000 in
set_option maxRecDepth 1000000 in
theorem Yxu (n:Nat) (hn:n<=48) (w:World):Calls Tryz.prog 123 #[.int .i64 n] w fun e w'=>e=.returned (.string ⟨(List.replicate n (32:UInt8)).toArray⟩)/\Below w.heap.size w w':=by
 have hR:Calls Tryz.prog 150 #[.string ⟨#[32]⟩,.int .i64 48] w fun e w'=>e=.returned (.string ⟨(List.replicate 48 (32:UInt8)).toArray⟩)/\Below w.heap.size w w':=Go.Proofs.Any.strings_Repeat Go.Fw.L07.repLays Go.Fw.L07.libX ⟨#[32]⟩ 48 w (by decide) (by decide)
 obtain⟨S,hS⟩:∃ S:ByteArray,S=⟨(List.replicate 48 (32:UInt8)).toArray⟩:=⟨_,rfl⟩
 rw[<- hS] at hR
 have HS:Aside (S=⟨(List.replicate 48 (32:UInt8)).toArray⟩):=hS
 clear hS
 have kc:=fun W:World=>Lib.run_convert_string_bytes (P:=Tryz.prog) W 9 54 5 S (u:=.string) (by kernel_rfl) (by kernel_rfl) (by kernel_rfl)
 have hS48:S.size=48:=by rw[HS.out];rfl
 have hcap:∀ W:World,n<=grownCap W S.size 0 5:=fun W=>by have:=grownCap_ge W S.size 0 5;omega
 have kb:∀ W:World,(convert 54 9 (.slice (some ⟨W.heap.size,0,none⟩) n n)).run Tryz.prog (Lib.bytesWorld W 5 S)=.ok (.string ⟨(List.replicate n (32:UInt8)).toArray⟩) (Lib.bytesWorld W 5 S):=fun W=>by
  have h:=run_convert_bytes_back (P:=Tryz.prog) (Lib.bytesWorld W 5 S) 54 9 5 ⟨W.heap.size,0,none⟩ n (List.replicate n 32) (by kernel_rfl) (by kernel_rfl) (by kernel_rfl) (fun j hj=>by
   have hj2:j < n:=by simpa using hj
   have hadd:(⟨W.heap.size,0,none⟩:Addr).add j=⟨W.heap.size,j,none⟩:=by unfold Addr.add;split <;> simp_all
   rw[hadd,Lib.bytesWorld_cell W 5 S j (by omega),HS.out]
   have e1:(⟨(List.replicate 48 (32:UInt8)).toArray⟩:ByteArray).data.toList.getD j 0=32:=by
    show (List.replicate 48 (32:UInt8)).getD j 0=32
    rw[List.getD_eq_getElem?_getD,List.getElem?_replicate,if_pos (by omega)];rfl
   rw[e1,List.getElem_replicate])
  rwa [List.length_replicate] at h
 have hbel:∀ W:World,Below w.heap.size w W->Below w.heap.size w (Lib.bytesWorld W 5 S):=fun W h=>⟨h.os,h.tape,h.output,by rw[Lib.bytesWorld_size];have:=h.size;omega,fun k hk=>by
  rw[Lib.bytesWorld_at_old W _ _ k (Nat.lt_of_lt_of_le hk h.size)];exact h.block k hk⟩
 clear hS48 HS
 go_enter Tryz.func123,Tryz.ntmps123
 go_wp2_with (go_at_call 150;refine hR.mono ?_;rintro e w' ⟨rfl,hw⟩)
 go_ret
 exact⟨by simp,hbel _ hw⟩
theorem Yxv {gp:Fw.Heap} (n:Nat) (hn:n<=48):Fw.Does Tryz.prog gp 123 [.one (.d (.int .i64 n))] (.one (.d (.str (bT (List.replicate n 32))))):=by
 refine Xnt (by kernel_rfl) fun H w an us hm ha=>?_
 obtain⟨rfl⟩:us=[.int .i64 n]:=by
  match us,ha with
  | [u1],h =>
   obtain⟨h1,_⟩:=h
   have h1:Fw.Den H (.int .i64 n) u1:=h1
   cases h1;rfl
 exact (Yxu n hn w).mono fun e w' ⟨he,hw⟩=>⟨_,he,hw,Fw.Den.str _⟩
end Go.Fw.L07
namespace Go.Fw.L07
open Go Go.Shelf Go.RowKit Go.Proofs
theorem X1h (W:World) (g o q m n dc:Nat) (a:Addr) (sl sc:Nat) (cur:Array Value) (T:TypeId) (s:ByteArray) (hg:W.heap[g]?=some (.cells cur T (0,0))) (hm:m=Nat.min sl dc) (hsz:cur.size=n) (ho:o=q) (hfit:q+m<=n)
  (hsrc:∀ j,j < m->W.cell? (a.add j)=some (.string s)) (hq:∀ j,j < q->cur[j]?=some (.string s)) :
  ∃ cur',(Builtin.copy_ #[30,30] 3 #[.slice (some ⟨g,o,none⟩) dc dc,.slice (some a) sl sc]).run Tryz.prog W=.ok (.int .i64 m) (W.setRow g cur')/\cur'.size=n/\∀ j,j < q+m->cur'[j]?=some (.string s):=by
 subst ho
 have h:=run_copy_row (P:=Tryz.prog) W 30 30 3 9 g o dc dc a sl sc cur T (List.replicate m (.string s)) (by kernel_rfl) (by kernel_rfl) hg (by simpa using hm) (fun j v hj=>by
  rw[List.getElem?_replicate] at hj
  split at hj
  ·rename_i hj2;cases hj;exact hsrc j hj2
  ·cases hj) (by simp;omega) (fun v hv=>by rw[List.mem_replicate] at hv;rw[hv.2];rfl)
 rw[List.length_replicate] at h
 refine⟨_,h,?_,fun j hj=>?_⟩
 ·simp;omega
 ·have hjn:j < cur.toList.length:=by simp;omega
  simp only[List.getElem?_toArray]
  rw[List.append_assoc]
  by_cases h1:j < o
  ·rw[List.getElem?_append_left (by simp;omega),List.getElem?_take,if_pos h1]
   have:=hq j h1
   simpa using this
  ·rw[List.getElem?_append_right (by simp;omega),List.getElem?_append_left (by simp;omega),List.getElem?_replicate,if_pos (by simp;omega)]
set_option maxHeartbeats 4000000 in
set_option maxRecDepth 1000000 in
theorem Ym3 (b o c:Nat) (s:ByteArray) (n:Nat) (h0:0 < n) (hn:n<=1000) (w:World) (hcell:w.cell? ⟨b,o,none⟩=some (.string s)) (hb:b < w.heap.size) :
  Calls Tryz.prog 152 #[.slice (some ⟨b,o,none⟩) 1 c,.int .i64 n] w fun e w'=>e=.returned (.slice (some ⟨w.heap.size,0,none⟩) n n)/\Below w.heap.size w w' /\
   ∃ cur T,w'.heap[w.heap.size]?=some (.cells cur T (0,0))/\∀ j,j < n->cur[j]?=some (.string s):=by
 have hMul:Calls Tryz.prog 173 #[.int .u64 1,.int .u64 n] w fun e w'=>e=.returned (.tuple #[.int .u64 0,.int .u64 n])/\w'=w:=by
  have h:=Go.Proofs.Any.bits_Mul { repLays with } 1 n (by decide) (by omega) w
  rw[Nat.one_mul,Nat.div_eq_of_lt (by omega),Nat.mod_eq_of_lt (by omega)] at h
  exact h
 have hinfo:(Tryz.prog.info? 9).map (fun i=>(i.zero,i.size,i.bytes))=some (some (.string ⟨#[]⟩),1,16):=by kernel_rfl
 obtain⟨i,hi,he⟩:=Option.map_eq_some_iff.1 hinfo
 simp only[Prod.mk.injEq] at he
 obtain⟨g,hgw⟩:∃ g,w.heap.size=g:=⟨_,rfl⟩
 obtain⟨W1,cur0,hmk,hg1,hs1,hb1,hc1⟩:∃ W1 cur0,(Instr.makeSlice 30 (.int .i64 n) (.int .i64 n)).run Tryz.prog w=.ok (.slice (some ⟨g,0,none⟩) n n) W1/\W1.heap[g]?=some (.cells cur0 9 (0,0))/\cur0.size=n/\Below g w W1/\W1.cell? ⟨b,o,none⟩=some (.string s):=by
  have h:=run_makeSlice (P:=Tryz.prog) (w:=w) 30 9 i _ (by kernel_rfl) hi he.1 .i64 .i64 n n (by omega) (Int.le_refl _) (by rw[he.2.1];omega) (by rw[he.2.2];omega) (by omega)
  rw[Int.toNat_natCast,he.2.1,hgw] at h
  refine⟨w.alloc (.cells (madeCells (Value.string ⟨#[]⟩).cells (n*1)) 9),madeCells (Value.string ⟨#[]⟩).cells (n*1),h,?_,?_,?_,?_⟩
  ·rw[<- hgw];exact heap_alloc_new _ _
  ·simp[madeCells,Value.cells]
  ·rw[<- hgw];exact (Below.refl _ _).alloc (Nat.le_refl _) _
  ·rw[World.cell?_alloc_lt _ _ ⟨b,o,none⟩ hb];exact hcell
 obtain⟨cur1,hc2,hs2,hq2⟩:=X1h W1 g 0 0 1 n n ⟨b,o,none⟩ 1 c cur0 9 s hg1 (by simp[Nat.min_def];omega) hs1 rfl (by omega) (fun j hj=>by
  obtain rfl:j=0:=by omega
  exact hc1) (fun j hj=>by omega)
 obtain⟨W2,hW2⟩:∃ W2,W1.setRow g cur1=W2:=⟨_,rfl⟩
 rw[hW2] at hc2
 have hg2:W2.heap[g]?=some (.cells cur1 9 (0,0)):=by rw[<- hW2];exact setRow_heap W1 g _ _ _ _ hg1
 have hb2:Below g w W2:=by rw[<- hW2];exact below_setRow hb1 (Nat.le_refl _) _
 rw[hgw]
 have mixed:Tryz.prog.follows .mixedOrders=true:=by kernel_rfl
 clear hgw hW2 hg1 hs1 hb1 hc1 hcell hb hi he hinfo
 go_enter Tryz.func152,Tryz.ntmps152
 go_wp2_with (go_at_call 173;refine hMul.mono ?_;rintro e w' ⟨rfl,hw⟩;rw[hw])
 clear hMul hmk hc2
 go_loopg [8] n (fun k p8 wr=>∃ q:Nat,p8=.int .i64 q/\1<=q/\q<=n/\n - q<=k/\∃ cur,wr.heap[g]?=some (.cells cur 9 (0,0))/\cur.size=n/\(∀ j,j < q->cur[j]?=some (.string s))/\Below g w wr)
 case atStart=>exact⟨1,rfl,Nat.le_refl _,by omega,by omega,cur1,hg2,hs2,hq2,hb2⟩
 case round =>
  obtain⟨q,rfl,hq1,hqn,hk,cur,hg,hs,hq,hbw⟩:=hrel
  by_cases hlt:q < n
  ·obtain⟨m,hm⟩:∃ m,Nat.min q (n - q)=m:=⟨_,rfl⟩
   have hm1:1<=m/\q+m<=n:=by rw[<- hm];simp[Nat.min_def];split <;> omega
   obtain⟨cur',hcp,hs',hq'⟩:=X1h wr.drew g q q m n (n - q) ⟨g,0,none⟩ q n cur 9 s hg hm.symm hs rfl hm1.2 (fun j hj=>by
    have hadd:(⟨g,0,none⟩:Addr).add j=⟨g,j,none⟩:=by unfold Addr.add;split <;> simp_all
    have hmq:m<=q:=by rw[<- hm];exact Nat.min_le_left _ _
    have hjq:j < q:=by omega
    rw[hadd]
    have:=hq j hjq
    rw[Go.Fw.cell_of_heap (show wr.drew.heap[g]?=_ from hg)]
    exact this) hq
   obtain⟨W3,hW3⟩:∃ W3,wr.drew.setRow g cur'=W3:=⟨_,rfl⟩
   rw[hW3] at hcp
   have hg3:W3.heap[g]?=some (.cells cur' 9 (0,0)):=by rw[<- hW3];exact setRow_heap wr.drew g _ _ _ _ hg
   have hb3:Below g w W3:=by rw[<- hW3];exact below_setRow hbw.drew (Nat.le_refl _) _
   clear hW3 hm hg hbw
   go_wp2_with fail
   go_region_o
   go_wp2
   go_roundg (n - (q+m))
   case measure=>omega
   case rel=>exact⟨q+m,by simp,by omega,hm1.2,Nat.le_refl _,cur',hg3,hs',hq',hb3⟩
  ·obtain rfl:q=n:=by omega
   go_wp2
   go_ret
   exact⟨rfl,hbw,cur,_,hg,hq⟩
theorem Jig {gp:Fw.Heap} (s:ByteArray) (n:Nat) (h0:0 < n) (hn:n<=1000):Fw.Does Tryz.prog gp 152 [.one (.d (.sl [[.str s]])),.one (.d (.int .i64 n))] (.one (.d (.sl (List.replicate n [.str s])))):=by
 refine⟨by kernel_rfl,?_⟩
 intro H w an F us hgp hmod hanc hown hF hdj hargs
 obtain⟨u1,rfl,h1⟩:∃ u1,us=[u1,.int .i64 n]/\Fw.Den H (.sl [[.str s]]) u1:=by
  match us,hargs with
  | [u1,u2],h =>
   obtain⟨h1,h2,_⟩:=h
   have h2:Fw.Den H (.int .i64 n) u2:=h2
   cases h2;exact⟨u1,rfl,h1⟩
 cases h1 with
 | sl xs b o c sz cells T fz f hH hs hc hlm hf hd =>
  have hw:=hmod _ _ hH
  have hsz:sz=1:=by have:=hs [.str s] (by simp);simpa using this.symm
  subst hsz
  have hcell:w.cell? ⟨b,o,none⟩=some (.string s):=by
   have h2:=hf 0 _ 0 _ rfl rfl
   have h3:=hd 0 _ 0 _ rfl rfl
   rw[Go.Fw.cell_of_heap hw]
   simp only[Nat.zero_mul,Nat.add_zero] at h2
   rw[h2]
   generalize f 0 0=q at h3
   cases h3;rfl
  intro cs
  obtain⟨e',w',fr,⟨rfl,hb,cur,T',hg,hcur⟩,g2,g3,g4⟩:=Ym3 b o c s n h0 hn w hcell (Array.getElem?_eq_some_iff.1 hw).1 cs
  have hk:Fw.WKeep w w' (fun b=>∃ i,F i b):=⟨hb.os,hb.tape,hb.output,hb.size,fun k hk _=>hb.block k hk⟩
  have hnew:H w.heap.size=none:=by
   cases e:H w.heap.size with
   | none=>rfl
   | some o=>have:=(Array.getElem?_eq_some_iff.1 (hmod _ _ e)).1;omega
  have hle:Fw.Heap.Le H (fun k=>if k=w.heap.size then some (.cells cur T' (0,0)) else H k):=fun k o hk=>by
   have:k≠w.heap.size:=fun e=>by rw[e,hnew] at hk;cases hk
   simp only[if_neg this];exact hk
  refine⟨_,_,fr,⟨_,_,[],_,an,F,rfl,⟨rfl,rfl⟩,hk,hle,fun z o hz=>?_,fun k o hk=>?_,Fw.Anc.Le.refl _,hanc,fun i c hc=>?_,fun i k hk2=>?_,hdj,?_⟩,g2,g3,g4⟩
  ·by_cases ez:z=w.heap.size
   ·simp only[if_pos ez] at hz;cases hz;rw[ez];exact hg
   ·simp only[if_neg ez] at hz
    have h3:=hmod z o hz
    exact (hb.block z (Array.getElem?_eq_some_iff.1 h3).1).trans h3
  ·by_cases ez:k=w.heap.size
   ·exact .inr (.inl (by omega))
   ·simp only[if_neg ez] at hk;exact .inl hk
  ·simp at hc
  ·obtain⟨k1,k2,k3⟩:=hF i k hk2
   refine⟨k1,Nat.lt_of_lt_of_le k2 hk.size,?_,.inr ⟨i,hk2⟩⟩
   have:k≠w.heap.size:=by omega
   simp only[if_neg this];exact k3
  ·have h:=Fw.Den.sl (H:=fun k=>if k=w.heap.size then some (.cells cur T' (0,0)) else H k) (List.replicate n [.str s]) w.heap.size 0 n 1 cur T' (0,0) (fun _ _=>.string s) (by simp) (fun x hx=>by rw[(List.mem_replicate.1 hx).2];rfl) (by simp) (by simp[Fw.lenMax];omega) (fun i x j y hx hy=>by
    rw[List.getElem?_replicate] at hx
    split at hx
    ·rename_i hi
     cases hx
     obtain rfl:j=0:=by
      have:=(List.getElem?_eq_some_iff.1 hy).1;simpa using this
     rw[Nat.zero_add,Nat.mul_one,Nat.add_zero]
     exact hcur i hi
    ·cases hx) (fun i x j y hx hy=>by
    rw[List.getElem?_replicate] at hx
    split at hx
    ·cases hx
     obtain rfl:j=0:=by
      have:=(List.getElem?_eq_some_iff.1 hy).1;simpa using this
     cases hy
     exact Fw.Den.str s
    ·cases hx)
   rw[List.length_replicate] at h
   exact h
end Go.Fw.L07
namespace Go.Fw.L07
open Go Go.Fw
open List renaming getElem?_eq_some_iff->Kr
set_option maxRecDepth 4000
abbrev z13:Sc:=⟨0,0,⟨#[]⟩⟩
inductive EmW (g:Gr):Nat->List Int->List Int->List Tr->List Int->Prop
 | nil (d:Nat) (met:List Int):EmW g d [] met [] met
 | leaf {d i:Nat} {y:Nd} {t met met':List Int} {q:List Tr}:g.l[i]?=some y->y.kids=[]->EmW g d t met q met'->EmW g d ((i:Int)::t) met (.mk y.k ⟨#[]⟩ y.x y.keys []::q) met'
 | ref {d i:Nat} {y:Nd} {t met met':List Int} {q:List Tr}:g.l[i]?=some y->y.kids≠[]->(i:Int)∈met->0 < anc g i->EmW g d t met q met'->EmW g d ((i:Int)::t) met (.mk 3 (Xaj (anc g i)) z13 [] []::q) met'
 | node {d i:Nat} {y:Nd} {t met met1 met':List Int} {q1 q2:List Tr}:g.l[i]?=some y->y.kids≠[]->(i:Int) ∉ met->d < 24->EmW g (d+1) y.kids (met++[(i:Int)]) q1 met1->EmW g d t met1 q2 met' ->
   EmW g d ((i:Int)::t) met (.mk y.k (Xaj (anc g i)) y.x y.keys q1::q2) met'
theorem EmW.len {g:Gr} {d:Nat} {t met met':List Int} {q:List Tr} (h:EmW g d t met q met'):q.length=t.length:=by
 induction h <;> simp_all
inductive NmW:Nat->List Tr->Nat->Prop
 | nil (n:Nat):NmW n [] n
 | leaf {n n':Nat} {k:Int} {x:Sc} {keys:List Sc} {q:List Tr}:k≠3->NmW n q n'->NmW n (.mk k ⟨#[]⟩ x keys []::q) n'
 | ref {n n' j:Nat} {x:Sc} {q:List Tr}:1<=j->j<=n->NmW n q n'->NmW n (.mk 3 (Xaj j) x [] []::q) n'
 | plain {n n1 n':Nat} {k:Int} {x:Sc} {keys:List Sc} {q1 q2:List Tr}:k≠3->q1≠[]->NmW n q1 n1->NmW n1 q2 n'->NmW n (.mk k ⟨#[]⟩ x keys q1::q2) n'
 | opn {n n1 n':Nat} {k:Int} {x:Sc} {keys:List Sc} {q1 q2:List Tr}:k≠3->q1≠[]->NmW (n+1) q1 n1->NmW n1 q2 n'->NmW n (.mk k (Xaj ((n+1:Nat):Int)) x keys q1::q2) n'
theorem NmW.nil_inv {n n':Nat} {q:List Tr} (h:NmW n q n') (hq:q=[]):n'=n:=by cases h <;> first|rfl|cases hq
def X2x (g:Gr) (m:Nat):Nat:=(Xc2 g (Xbi g) m).2
theorem Xr0 {g:Gr} {m:Nat} {x:Nd} (hx:g.l[m]?=some x):X2x g (m+1)=if 0 < anc g m then X2x g m+1 else X2x g m:=by
 have hm:=(Kr.1 hx).1
 unfold X2x
 rw[Ym1 hx]
 simp only[Xc2,hx,Xkd hm]
 by_cases h:Xmn x (((0::flat g).count (m:Int):Nat):Int)=true
 ·rw[if_pos h,if_pos h,if_pos (by omega)]
 ·rw[if_neg h,if_neg h,if_neg (by omega)]
theorem Ym4 {g:Gr} {m:Nat} (hm:m < g.l.length) (h:0 < anc g m):anc g m=((X2x g m+1:Nat):Int):=by
 obtain⟨x,hx⟩:=Xaf hm
 rw[Ym1 hx] at h ⊢
 unfold X2x
 split at h
 ·rename_i hp;rw[if_pos hp]
 ·omega
theorem Yxw {g:Gr} {i m:Nat} (hi:i < m) (hm:m<=g.l.length) (h:0 < anc g i):anc g i<=((X2x g m:Nat):Int):=by
 obtain⟨x,hx⟩:=Xaf (l:=g.l) (i:=i) (by omega)
 have h1:=Ym4 (by omega) h
 have h2:=Xr0 hx
 rw[if_pos h] at h2
 have h3:=Xry (g:=g) (us:=Xbi g) (i:=i+1) m (by omega)
 unfold X2x at h1 h2 ⊢
 omega
def Y8u (g:Gr) (met:List Int) (m:Nat):Prop:=∀ j:Int,j∈met↔∃ (i:Nat) (y:Nd),j=(i:Int)/\i < m/\g.l[i]?=some y/\y.kids≠[]
theorem Y8u.skip {g:Gr} {met:List Int} {m:Nat} (h:Y8u g met m) {y:Nd} (hy:g.l[m]?=some y) (hk:y.kids=[]):Y8u g met (m+1):=fun j=>by
 rw[h j]
 constructor
 ·rintro⟨i,z,e,hi,hz⟩;exact⟨i,z,e,by omega,hz⟩
 ·rintro⟨i,z,e,hi,hz,hzk⟩
  by_cases e2:i=m
  ·subst e2;rw[hy] at hz;cases hz;exact absurd hk hzk
  ·exact⟨i,z,e,by omega,hz,hzk⟩
theorem Y8u.next {g:Gr} {met:List Int} {m:Nat} (h:Y8u g met m) {y:Nd} (hy:g.l[m]?=some y) (hk:y.kids≠[]):Y8u g (met++[(m:Int)]) (m+1):=fun j=>by
 rw[List.mem_append,h j,List.mem_singleton]
 constructor
 ·rintro (⟨i,z,e,hi,hz⟩|e)
  ·exact⟨i,z,e,by omega,hz⟩
  ·exact⟨m,y,e,by omega,hy,hk⟩
 ·rintro⟨i,z,e,hi,hz,hzk⟩
  by_cases e2:i=m
  ·subst e2;exact .inr e
  ·exact .inl ⟨i,z,e,by omega,hz,hzk⟩
def Xgj (g:Gr):Prop:=∀ (i:Nat) (x:Nd) (d:Int),g.l[i]?=some x->(Xfq g)[i]?=some d->d<=24/\(d=24->x.kids=[])
theorem DepW.keepE {k:Int->List Int} {d:Int} {t a b:List Int} (h:DepW k d t a b):∀ (i:Nat) (x:Int),a[i]?=some x->0 < x->b[i]?=some x:=by
 induction h with
 | nil=>exact fun _ _ h _=>h
 | skip _ _ _ ih=>exact ih
 | @step d j r a b c y hy hn _ _ ih1 ih2 =>
  intro i x hx h0
  refine ih2 i x (ih1 i x ?_ h0) h0
  rw[List.getElem?_set]
  split
  ·rename_i e
   subst e
   rw[hx] at hy;cases hy
   exact absurd h0 hn
  ·exact hx
theorem Xca {g:Gr} (hg:Tdy g) {i:Nat} {x:Nd} (hx:g.l[i]?=some x):x.k≠3:=by
 intro h
 have hr:=(Xjo hg.good.c).2.2 x (List.mem_of_getElem? hx)
 unfold Xa6 at hr
 rw[h] at hr
 simp at hr
theorem Jih {g:Gr} (hg:Tdy g) (hdp:Xgj g) {d0:Int} {t av bv:List Int} (h:DepW (kd g) d0 t av bv) :
  ∀ {m d:Nat} {r met:List Int},d0=d->0 < d->av.length=g.l.length->(∀ (i:Nat) (x:Int),av[i]?=some x->(0 < x↔i < m))->St18 g m (t++r)->(∀ (i:Nat) (x:Int),bv[i]?=some x->0 < x->(Xfq g)[i]?=some x)->Y8u g met m ->
   ∃ (m':Nat) (met':List Int) (q:List Tr),(∀ (i:Nat) (x:Int),bv[i]?=some x->(0 < x↔i < m'))/\St18 g m' r/\Y8u g met' m'/\EmW g d t met q met'/\NmW (X2x g m) q (X2x g m')/\(q.flatMap Xch).length+(rest g m').length=t.length+(rest g m).length:=by
 induction h with
 | nil d a =>
  intro m d r met _ _ _ hv hst _ hm
  exact⟨m,met,[],hv,hst,hm,.nil _ _,.nil _,by simp⟩
 | @skip d0 i t a b x hx h0 _ ih =>
  intro m d r met hd hd0 hl hv hst hp hm
  have him:i < m:=(hv i x hx).1 h0
  have hiN:i < g.l.length:=by have:=(Kr.1 hx).1;omega
  obtain⟨hst',hu⟩:St18 g m (t++r)/\2<=(0::flat g).count (i:Int):=hst.skip him
  obtain⟨y,hy⟩:=Xaf hiN
  obtain⟨m',met',q,e1,e2,e3,e4,e5,e6⟩:=ih hd hd0 hl hv hst' hp hm
  by_cases hk:y.kids=[]
  ·refine⟨m',met',_,e1,e2,e3,.leaf hy hk e4,.leaf (Xca hg hy) e5,?_⟩
   rw[List.flatMap_cons,Xbp]
   simp only[Tr.kids,List.flatMap_nil,List.length_append,List.length_cons,List.length_nil];omega
  ·have ha:0 < anc g i:=(Xtx hy).2 ⟨hk,by omega⟩
   have hmet:(i:Int)∈met:=(hm i).2 ⟨i,y,rfl,him,hy,hk⟩
   have hle:=Yxw him hst.le ha
   obtain⟨j,hj⟩:=Int.eq_ofNat_of_zero_le (show 0<=anc g i by omega)
   refine⟨m',met',_,e1,e2,e3,.ref hy hk hmet ha e4,?_,?_⟩
   ·rw[hj] at ha hle ⊢
    exact .ref (by omega) (by omega) e5
   ·rw[List.flatMap_cons,Xbp]
    simp only[Tr.kids,List.flatMap_nil,List.length_append,List.length_cons,List.length_nil];omega
 | @step d0 i t a b c x hx h0 hb hc ih1 ih2 =>
  intro m d r met hd hd0 hl hv hst hp hm
  have him:¬ i < m:=fun e=>h0 ((hv i x hx).2 e)
  have hlt:=(Kr.1 hx).1
  obtain⟨hie,y,hy,hky,hst1⟩:i=m/\∃ y,g.l[m]?=some y/\kd g m=y.kids/\St18 g (m+1) (y.kids++(t++r)):=hst.step hg him
  subst hie
  have hset:(a.set i d0)[i]?=some d0:=by rw[List.getElem?_set];simp[hlt]
  have hv1:∀ (j:Nat) (z:Int),(a.set i d0)[j]?=some z->(0 < z↔j < i+1):=by
   intro j z hz
   rw[List.getElem?_set] at hz
   split at hz
   ·rename_i e;subst e
    simp[hlt] at hz;subst hz
    exact⟨fun _=>by omega,fun _=>by omega⟩
   ·rename_i e
    rw[hv j z hz];omega
  have hdd:=hdp i y d0 hy (hp i d0 (hc.keepE i d0 (hb.keepE i d0 hset (by omega)) (by omega)) (by omega))
  have hrc:=Xrz hy
  have hac:=Xr0 hy
  have hiN:=(Kr.1 hy).1
  rw[hky] at hb ih1
  by_cases hk:y.kids=[]
  ·rw[hk] at hst1 ih1 hrc
   obtain⟨m1,met1,q1,v1,s1,mo1,k1,n1,c1⟩:=ih1 (m:=i+1) (d:=d+1) (r:=t++r) (met:=met) (by omega) (by omega) (by simp[hl]) hv1 hst1 (fun j z hz hz0=>hp j z (hc.keepE j z hz hz0) hz0) (hm.skip hy hk)
   cases k1
   have ha:¬ 0 < anc g i:=fun ha=>((Xtx hy).1 ha).1 hk
   rw[if_neg ha] at hac
   obtain⟨m2,met2,q2,v2,s2,mo2,k2,n2,c2⟩:=ih2 (m:=m1) (d:=d) (r:=r) (met:=met) hd hd0 (by rw[hb.len];simp[hl]) v1 s1 hp mo1
   rw[hac] at n1
   have n1:=n1.nil_inv rfl
   refine⟨m2,met2,_,v2,s2,mo2,.leaf hy hk k2,.leaf (Xca hg hy) (n1 ▸ n2),?_⟩
   rw[List.flatMap_cons,Xbp]
   simp only[Tr.kids,List.flatMap_nil,List.length_append,List.length_cons,List.length_nil,List.nil_append] at c1 c2 hrc ⊢
   rw[hrc];omega
  ·obtain⟨m1,met1,q1,v1,s1,mo1,k1,n1,c1⟩:=ih1 (m:=i+1) (d:=d+1) (r:=t++r) (met:=met++[(i:Int)]) (by omega) (by omega) (by simp[hl]) hv1 hst1 (fun j z hz hz0=>hp j z (hc.keepE j z hz hz0) hz0) (hm.next hy hk)
   obtain⟨m2,met2,q2,v2,s2,mo2,k2,n2,c2⟩:=ih2 (m:=m1) (d:=d) (r:=r) (met:=met1) hd hd0 (by rw[hb.len];simp[hl]) v1 s1 hp mo1
   have hnm:(i:Int) ∉ met:=fun e=>by
    obtain⟨j,z,e1,e2,_⟩:=(hm i).1 e
    omega
   have hq1:q1≠[]:=fun e=>hk (List.eq_nil_of_length_eq_zero (by rw[<- k1.len,e];rfl))
   have hd24:d < 24:=by
    have h1:=hdd.1
    have h2:d0≠24:=fun e=>hk (hdd.2 e)
    omega
   refine⟨m2,met2,_,v2,s2,mo2,.node hy hk hnm hd24 k1 k2,?_,?_⟩
   ·by_cases ha:0 < anc g i
    ·rw[if_pos ha] at hac
     rw[Ym4 hiN ha]
     rw[hac] at n1
     exact .opn (Xca hg hy) hq1 n1 n2
    ·rw[if_neg ha] at hac
     rw[hac] at n1
     rw[Xe8 ha]
     exact .plain (Xca hg hy) hq1 n1 n2
   ·rw[List.flatMap_cons,Xbp]
    simp only[Tr.kids,List.length_append,List.length_cons]
    rw[hrc] at *
    simp only[List.length_append] at c1 c2 ⊢
    omega
theorem Yxx {g:Gr} (hg:Tdy g) (hdp:Xgj g):∃ (t:Tr) (met:List Int),EmW g 1 [0] [] [t] met/\NmW 0 [t] (X2x g g.l.length)/\(Xch t).length=1+(flat g).length:=by
 have h0:∀ (i:Nat) (x:Int),(List.replicate g.l.length (0:Int))[i]?=some x->(0 < x↔i < 0):=by
  intro i x hx
  rw[List.getElem?_replicate] at hx
  split at hx
  ·cases hx;simp
  ·cases hx
 obtain⟨m',met',q,e1,e2,e3,e4,e5,e6⟩:=Jih hg hdp hg.dep (m:=0) (d:=1) (r:=[]) (met:=[]) rfl (by omega) (by simp) h0 (St18.first hg) (fun _ _ h _=>h) (fun j=>by
  constructor
  ·intro h;simp at h
  ·rintro⟨i,y,_,h,_⟩;omega)
 have hm':m'=g.l.length:=by
  have:=e2.w.nil_inv
  have h2:=congrArg List.length this
  simp only[Xi2] at h2
  omega
 subst hm'
 have hl:=e4.len
 match q,hl with
 | [t],_ =>
  refine⟨t,met',e4,e5,?_⟩
  have hr:rest g g.l.length=[]:=by unfold rest;rw[List.drop_length];rfl
  have hr0:rest g 0=flat g:=by unfold rest flat;rw[List.drop_zero]
  rw[hr,hr0] at e6
  simpa using e6
def Wwf (t:Tr):List UInt8:=if t.k=0 then scB t.x else if t.k=1 then [91,93] else [123,125]
def stB (t:Tr):List UInt8:=if t.k=3 then 32::42::t.name.data.toList else if t.kids=[] then 32::Wwf t else if t.name=⟨#[]⟩ then [] else 32::38::t.name.data.toList
def Xbf (n:Nat):List UInt8:=List.replicate n 32
def Xar (k:Int) (keys:List Sc) (n:Nat):List (List UInt8):=if k=1 then List.replicate n [45] else keys.map fun x=>scB x++[58]
mutual
def lnT (n:Nat) (h:List UInt8):Tr->List (List UInt8)
 | .mk k nm x keys kids=>(Xbf n++(h++stB (.mk k nm x keys kids)))::lnK (n+2) (Xar k keys kids.length) kids
def lnK (n:Nat):List (List UInt8)->List Tr->List (List UInt8)
 | h::hs,t::l=>lnT n h t++lnK n hs l
 | _,_=>[]
end
theorem Xd9 (n:Nat) (h:List UInt8) (t:Tr):lnT n h t=(Xbf n++(h++stB t))::lnK (n+2) (Xar t.k t.keys t.kids.length) t.kids:=by
 cases t;rw[lnT];rfl
theorem Xbu (n:Nat) (h:List (List UInt8)):lnK n h []=[]:=by cases h <;> simp[lnK]
theorem Xct (n:Nat) (h:List UInt8) (hs:List (List UInt8)) (t:Tr) (l:List Tr):lnK n (h::hs) (t::l)=lnT n h t++lnK n hs l:=by rw[lnK]
def Xcy (t:Tr):List (List UInt8):=if t.kids=[] then [Wwf t] else (if t.name=⟨#[]⟩ then [] else [38::t.name.data.toList])++lnK 0 (Xar t.k t.keys t.kids.length) t.kids
def Xe9 (l:List (List UInt8)):List UInt8:=l.flatMap fun s=>s++[10]
def Xag (l:List (List UInt8)):Nat:=(l.map fun s=>s.length+1).sum
theorem Xih (l:List (List UInt8)):(Xe9 l).length=Xag l:=by
 induction l with
 | nil=>rfl
 | cons s l ih=>unfold Xe9 Xag at *;rw[List.flatMap_cons,List.length_append,ih];simp
theorem Xcu (l m:List (List UInt8)):Xag (l++m)=Xag l+Xag m:=by unfold Xag;simp
def Xea (g:Gr):Int:=Xg6 (fun i=>if 0 < anc g i then 1 else (((0::flat g).count (i:Int):Nat):Int)) g.l.length
noncomputable def Ji4 (g:Gr) (t:Tr):Int:=if Xea g > 200 then 71 else if Xag (Xcy t) > 8000 then 20 else 0
theorem Xgk {g:Gr} (hg:Tdy g) {i:Nat} {x:Nd} (hx:g.l[i]?=some x):(x.k=0/\x.kids=[]/\x.keys=[]/\prR Xas x.x=true)\/(x.k=1/\x.keys=[]/\isZ x.x=true)\/(x.k=2/\x.keys.length=x.kids.length/\x.keys.all (prR Xas)=true/\isZ x.x=true):=by
 have hr:=(Xjo hg.good.c).2.2 x (List.mem_of_getElem? hx)
 have hr0:=hr
 unfold Xa6 at hr
 split at hr
 ·rename_i h
  refine .inl ⟨h,?_,?_,Xnn hr0 h⟩
  all_goals (unfold Yns at hr;simp at hr;simp[hr])
 ·split at hr
  ·rename_i h
   refine .inr (.inl ⟨h,?_,Xnm hr0 h⟩)
   unfold Yfk at hr;simp at hr;simp[hr]
  ·split at hr
   ·rename_i h
    obtain⟨h1,h2⟩:=Xhj hr0 h
    refine .inr (.inr ⟨h,(Xgc hr0 h).1,h1,h2⟩)
   ·cases hr
def Jek (met:List Int) (i:Int):List Int:=if i∈met then met else met++[i]
def Xec (met:List Int):List (V × V):=met.map fun i=>(vi i,vb true)
theorem Xr1 (met:List Int) (i:Int):Xdz false [.i] (Xec met) (vi i)=some (if i∈met then some (vb true) else none):=Xlq (kv:=vi) (v:=vb true) Xl3 met i
theorem X1i:∀ (met:List Int) (i:Int),Xmx false [.i] (Xec met) (vi i) (vb true)=some (Xec (Jek met i))
 | [],i=>rfl
 | k::met,i=>by
  have ih:=X1i met i
  simp only[Xec,List.map_cons,Xmx,Xl3,Jek] at ih ⊢
  by_cases h:i=k
  ·simp[h]
  ·simp only[h,decide_false,ih,List.mem_cons,false_or]
   split <;> simp
theorem Xah (met:List Int):(Ch.map (Xec met)).refs=[]:=by
 simp only[Ch.refs]
 rw[List.flatMap_eq_nil_iff]
 intro e he
 obtain⟨a,_,rfl⟩:=List.mem_map.1 he
 rfl
theorem Ym5 (met:List Int) (j:Nat) (c:Ch):Yyj j c (.map (Xec met))=.map (Xec met):=by
 simp only[Yyj,Ch.map.injEq]
 simp only[Xec,List.map_map]
 rfl
def Yxy:A->A
 | .nil=>.d (.sl [])
 | a=>a
theorem Ym6 {H:Heap} {an:Anc} {a:A} {v:Value} (h:Xb0 H an a v):Xb0 H an (Yxy a) v:=by
 cases a <;> first|exact h|(obtain⟨q,rfl⟩:=h;exact Den.slE q 0)
theorem Wwg {S:Sx} {k:List MI} {s:St} (i:Nat) {cs:List A} (hc:Xak s.own i=.cells cs) (h:G S k ⟨s.fr,Xb1 s.own i (.cells (cs.map Yxy))⟩):G S k s:=by
 rintro Y a w ⟨H,an,F,ms,hs⟩
 refine h Y a w ⟨H,an,F,ms,hs.recast hc (by simp) fun p hsc=>?_⟩
 obtain⟨h0,b0,T,vs,e1,e2,e3,e4⟩:=hsc
 refine⟨h0,b0,T,vs,e1,e2,e3,?_⟩
 have:=Xal.map (R:=Xb0 H an) (f:=Yxy) (g:=id) (fun a b hab=>Ym6 hab) e4
 simpa using this
end Go.Fw.L07
