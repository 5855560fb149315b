/- Chapter 4,plain: a sign by definition,and as Go's library reads it. -/
import Derived.Lib.DecodeN
import Derived.Test.YtldjkoidjigjpaaGreatDoorLc
import Derived.Test.YtldjkoidjigjpaaGreatDoorL07L04Mini
import Derived.Test.YtldjkoidjigjpaaGreatDoorL07Kids
import Derived.Test.YtldjkoidjigjpaaGreatDoorL07O
set_option linter.all false
namespace Go.Fw.L07
open Go
def oneK (b0 : Nat) : Nat := if b0 >= 240 then 4 else if b0 >= 224 then 3 else if b0 >= 192 then 2 else 1
def oneV (b0 b1 b2 b3 : Nat) : Nat :=
 if b0 >= 240 then (((b0 - 240) * 64 + b1 % 64) * 64 + b2 % 64) * 64 + b3 % 64
 else if b0 >= 224 then ((b0 - 224) * 64 + b1 % 64) * 64 + b2 % 64
 else if b0 >= 192 then (b0 - 192) * 64 + b1 % 64 else b0
def signN (v : Nat) : Bool := decide (v <= 1114111 /\ (v < 55296 \/ v > 57343))
def bytesN (v k b0 b1 b2 b3 : Nat) : Bool :=
 if v < 128 then decide (k = 1 /\ b0 = v)
 else if v < 2048 then decide (k = 2 /\ b0 = 192 + v / 64 /\ b1 = 128 + v % 64)
 else if v < 65536 then decide (k = 3 /\ b0 = 224 + v / 4096 /\ b1 = 128 + v / 64 % 64 /\ b2 = 128 + v % 64)
 else decide (k = 4 /\ b0 = 240 + v / 262144 /\ b1 = 128 + v / 4096 % 64 /\ b2 = 128 + v / 64 % 64 /\ b3 = 128 + v % 64)
def oneN (n b0 b1 b2 b3 : Nat) : Nat × Nat :=
 if oneK b0 > n then (0,0)
 else if signN (oneV b0 b1 b2 b3) && bytesN (oneV b0 b1 b2 b3) (oneK b0) b0 b1 b2 b3 then (oneV b0 b1 b2 b3,oneK b0) else (0,0)
set_option maxHeartbeats 4000000 in
theorem oneN_ok {n b0 b1 b2 b3 : Nat} (hn : 1 <= n) (h0 : b0 < 256) (h1 : b1 < 256) (h2 : b2 < 256) (h3 : b3 < 256) :
  oneN n b0 b1 b2 b3 = if (Lib.decodeN n b0 b1 b2 b3).1 = 65533 /\ (Lib.decodeN n b0 b1 b2 b3).2 = 1 then (0,0) else Lib.decodeN n b0 b1 b2 b3 := by
 by_cases c1 : b0 < 128
 ·have e : Lib.decodeN n b0 b1 b2 b3 = (b0,1) := by unfold Lib.decodeN; rw [if_pos c1]
  have k : oneK b0 = 1 := by unfold oneK; rw [if_neg (by omega),if_neg (by omega),if_neg (by omega)]
  have v : oneV b0 b1 b2 b3 = b0 := by unfold oneV; rw [if_neg (by omega),if_neg (by omega),if_neg (by omega)]
  have s : signN b0 = true := decide_eq_true (by omega)
  have b : bytesN b0 1 b0 b1 b2 b3 = true := by unfold bytesN; rw [if_pos c1]; simp
  unfold oneN
  rw [e,k,v,s,b,if_neg (show ¬ 1 > n by omega)]
  have : ¬ b0 = 65533 := by omega
  simp [this]
 ·by_cases c2 : b0 < 192
  ·have e : Lib.decodeN n b0 b1 b2 b3 = (65533,1) := by
    unfold Lib.decodeN
    rw [if_neg c1,if_neg (by omega),if_neg (by omega),if_neg (by omega)]
   have k : oneK b0 = 1 := by unfold oneK; rw [if_neg (by omega),if_neg (by omega),if_neg (by omega)]
   have v : oneV b0 b1 b2 b3 = b0 := by unfold oneV; rw [if_neg (by omega),if_neg (by omega),if_neg (by omega)]
   have b : bytesN b0 1 b0 b1 b2 b3 = false := by unfold bytesN; rw [if_neg c1,if_pos (by omega)]; simp
   unfold oneN
   rw [e,k,v,b,if_neg (by omega)]
   simp
  ·by_cases c3 : b0 < 224
   ·have k : oneK b0 = 2 := by unfold oneK; rw [if_neg (by omega),if_neg (by omega),if_pos (by omega)]
    have v : oneV b0 b1 b2 b3 = (b0 - 192) * 64 + b1 % 64 := by unfold oneV; rw [if_neg (by omega),if_neg (by omega),if_pos (by omega)]
    unfold oneN
    rw [k,v]
    unfold Lib.decodeN signN bytesN
    grind
   ·by_cases c4 : b0 < 240
    ·have k : oneK b0 = 3 := by unfold oneK; rw [if_neg (by omega),if_pos (by omega)]
     have v : oneV b0 b1 b2 b3 = ((b0 - 224) * 64 + b1 % 64) * 64 + b2 % 64 := by unfold oneV; rw [if_neg (by omega),if_pos (by omega)]
     unfold oneN
     rw [k,v]
     unfold Lib.decodeN signN bytesN
     grind
    ·have k : oneK b0 = 4 := by unfold oneK; rw [if_pos (by omega)]
     have v : oneV b0 b1 b2 b3 = (((b0 - 240) * 64 + b1 % 64) * 64 + b2 % 64) * 64 + b3 % 64 := by unfold oneV; rw [if_pos (by omega)]
     unfold oneN
     rw [k,v]
     generalize hV : (((b0 - 240) * 64 + b1 % 64) * 64 + b2 % 64) * 64 + b3 % 64 = V
     by_cases hC : n >= 4 /\ b0 < 248 /\ b1 / 64 = 2 /\ b2 / 64 = 2 /\ b3 / 64 = 2 /\ 65536 <= V /\ V <= 1114111
     ·have e : Lib.decodeN n b0 b1 b2 b3 = (V,4) := by
       unfold Lib.decodeN
       rw [if_neg c1,if_neg (by omega),if_neg (by omega),if_pos (by omega),if_pos (by omega)]
       exact Prod.ext (by dsimp only; omega) rfl
      have g1 : signN V = true := decide_eq_true (by omega)
      have g2 : bytesN V 4 b0 b1 b2 b3 = true := by
       unfold bytesN
       rw [if_neg (by omega),if_neg (by omega),if_neg (by omega)]
       exact decide_eq_true (by omega)
      rw [e,g1,g2,if_neg (show ¬ 4 > n by omega)]
      have : ¬ V = 65533 := by omega
      simp
     ·have e : Lib.decodeN n b0 b1 b2 b3 = (65533,1) := by
       unfold Lib.decodeN
       rw [if_neg c1,if_neg (by omega),if_neg (by omega)]
       split
       ·rw [if_neg (by omega)]
       ·rfl
      rw [e]
      have : (if (65533,1).1 = 65533 /\ (65533,1).2 = 1 then ((0,0) : Nat × Nat) else (65533,1)) = (0,0) := by decide
      rw [this]
      by_cases hn4 : 4 > n
      ·rw [if_pos hn4]
      ·rw [if_neg hn4,if_neg]
       intro hb
       rw [Bool.and_eq_true] at hb
       obtain ⟨g1,g2⟩ := hb
       have g1 := of_decide_eq_true g1
       unfold bytesN at g2
       split at g2
       ·have := of_decide_eq_true g2; omega
       ·split at g2
        ·have := of_decide_eq_true g2; omega
        ·split at g2
         ·have := of_decide_eq_true g2; omega
         ·have := of_decide_eq_true g2; omega
end Go.Fw.L07
namespace Go.Fw.L07
open Go Go.Fw
open Go.Proofs.Tryz renaming prog -> QP
open Nat renaming reduceAdd -> Qa,reduceSub -> Qb,reduceMul -> Qc,reduceLeDiff -> Qd,reduceLT -> Qe,reduceEqDiff -> Qf
open Int renaming reduceToNat -> Qg,reduceLT -> Qh,reduceLE -> Qi,reduceGT -> Qj,reduceGE -> Qk,reduceEq -> Ql,reduceNe -> Qm,reduceBEq -> Qn,reduceBNe -> Qo,reduceAdd -> Qp,reduceSub -> Qq,reduceNeg -> Qr
open Go.Fw.V.one renaming injEq -> Qs
open Go.Fw.V.agg renaming injEq -> Qt
open Go.Fw.V.tup renaming injEq -> Qu
open Go.Fw.A.d renaming injEq -> Qv
open Go.Fw.D.bool renaming injEq -> Qw
open Go.Fw.D.int renaming injEq -> Qx
open Go.Fw.D.str renaming injEq -> Qy
open Go.Fw.D.sl renaming injEq -> Qz
open List.cons renaming injEq -> Za
set_option maxRecDepth 4000
variable {gp : Heap}
def byteN (s : ByteArray) (i : Nat) : Nat := (s.get! i).toNat
theorem byteN_lt (s : ByteArray) (i : Nat) : byteN s i < 256 := (s.get! i).toNat_lt
theorem at_byte {s : ByteArray} {p : Nat} (h : p < s.size) : s[p]? = some (s.get! p) := by
 rw [getElem?_pos s p h]
 congr 1
 unfold ByteArray.get!
 exact (getElem!_pos s.data p h).symm
theorem tmod_nat (a b : Nat) : Int.tmod (a : Int) (b : Int) = ((a % b : Nat) : Int) := rfl
theorem tdiv_nat (a b : Nat) : Int.tdiv (a : Int) (b : Int) = ((a / b : Nat) : Int) := rfl
theorem u8_of {n : Nat} (h : n < 256) : (UInt8.ofNat n).toNat = n := by simp; omega
theorem ik_byte (b : UInt8) : inK .i64 (b.toNat : Int) := by
 have := b.toNat_lt
 unfold inK; simp [IntKind.min,IntKind.max,IntKind.signed,IntKind.bits]; omega
def bytesL (v : Nat) : List UInt8 :=
 if v < 128 then [UInt8.ofNat v]
 else if v < 2048 then [UInt8.ofNat (192 + v / 64),UInt8.ofNat (128 + v % 64)]
 else if v < 65536 then [UInt8.ofNat (224 + v / 4096),UInt8.ofNat (128 + v / 64 % 64),UInt8.ofNat (128 + v % 64)]
 else [UInt8.ofNat (240 + v / 262144),UInt8.ofNat (128 + v / 4096 % 64),UInt8.ofNat (128 + v / 64 % 64),UInt8.ofNat (128 + v % 64)]
theorem bytes4 (v : Nat) (hv : v <= 1114111) : Does QP gp 183 [vi v] (vs ⟨(bytesL v).toArray⟩) := by
 refine f183_in ?_
 simp only [go_sem]
 have q1 : Int.tdiv (v : Int) 64 = ((v / 64 : Nat) : Int) := tdiv_nat v 64
 have q2 : Int.tdiv (v : Int) 4096 = ((v / 4096 : Nat) : Int) := tdiv_nat v 4096
 have q3 : Int.tdiv (v : Int) 262144 = ((v / 262144 : Nat) : Int) := tdiv_nat v 262144
 have m1 : Int.tmod (v : Int) 64 = ((v % 64 : Nat) : Int) := tmod_nat v 64
 have m2 : Int.tmod ((v / 64 : Nat) : Int) 64 = ((v / 64 % 64 : Nat) : Int) := tmod_nat (v / 64) 64
 have m3 : Int.tmod ((v / 4096 : Nat) : Int) 64 = ((v / 4096 % 64 : Nat) : Int) := tmod_nat (v / 4096) 64
 repeat' (first | refine Gx rfl ?_ | ((first | refine G_reg ?_ | refine G_regv ?_ | refine VO_chk ?_ | refine VO_go ?_ | refine VO_gx ?_ | refine G_cond ?_); simp only [q1,q2,q3,m1,m2,m3,go_sem]) | refine VO_end ?_ | refine Sh.intro ?_ | (refine And.intro (fun _ => ?_) (fun _ => ?_) <;> try (exfalso; omega)) | ((first | refine G_fin ?_ | refine G_ret rfl ?_); simp only [q1,q2,q3,m1,m2,m3,or_self,Qs,Qt,Qu,Qv,Qw,Qx,Qy,Qz,Za,go_sem]))
 all_goals repeat' (refine And.intro (by unfold inK; simp [IntKind.min,IntKind.max,IntKind.signed,IntKind.bits]; omega) ?_)
 ·refine ⟨[UInt8.ofNat v],⟨by simp,by simp [u8_of (show v < 256 by omega)]⟩,Sh.intro ?_⟩
  repeat' (first | refine Gx rfl ?_ | ((first | refine G_reg ?_ | refine G_regv ?_ | refine VO_chk ?_ | refine VO_go ?_ | refine VO_gx ?_ | refine G_cond ?_); simp only [go_sem]) | refine VO_end ?_ | refine Sh.intro ?_ | (refine And.intro (fun _ => ?_) (fun _ => ?_) <;> try (exfalso; omega)) | ((first | refine G_fin ?_ | refine G_ret rfl ?_); simp only [or_self,Qs,Qt,Qu,Qv,Qw,Qx,Qy,Qz,Za,go_sem]))
  simp [bytesL,show v < 128 by omega]
 ·refine ⟨[UInt8.ofNat (192 + v / 64),UInt8.ofNat (128 + v % 64)],⟨by simp,by simp only [List.map,u8_of (show 192 + v / 64 < 256 by omega),u8_of (show 128 + v % 64 < 256 by omega)]; simp⟩,Sh.intro ?_⟩
  repeat' (first | refine Gx rfl ?_ | ((first | refine G_reg ?_ | refine G_regv ?_ | refine VO_chk ?_ | refine VO_go ?_ | refine VO_gx ?_ | refine G_cond ?_); simp only [go_sem]) | refine VO_end ?_ | refine Sh.intro ?_ | (refine And.intro (fun _ => ?_) (fun _ => ?_) <;> try (exfalso; omega)) | ((first | refine G_fin ?_ | refine G_ret rfl ?_); simp only [or_self,Qs,Qt,Qu,Qv,Qw,Qx,Qy,Qz,Za,go_sem]))
  simp [bytesL,show ¬ v < 128 by omega,show v < 2048 by omega]
 ·refine ⟨[UInt8.ofNat (224 + v / 4096),UInt8.ofNat (128 + v / 64 % 64),UInt8.ofNat (128 + v % 64)],⟨by simp,by simp only [List.map,u8_of (show 224 + v / 4096 < 256 by omega),u8_of (show 128 + v / 64 % 64 < 256 by omega),u8_of (show 128 + v % 64 < 256 by omega)]; simp⟩,Sh.intro ?_⟩
  repeat' (first | refine Gx rfl ?_ | ((first | refine G_reg ?_ | refine G_regv ?_ | refine VO_chk ?_ | refine VO_go ?_ | refine VO_gx ?_ | refine G_cond ?_); simp only [go_sem]) | refine VO_end ?_ | refine Sh.intro ?_ | (refine And.intro (fun _ => ?_) (fun _ => ?_) <;> try (exfalso; omega)) | ((first | refine G_fin ?_ | refine G_ret rfl ?_); simp only [or_self,Qs,Qt,Qu,Qv,Qw,Qx,Qy,Qz,Za,go_sem]))
  simp [bytesL,show ¬ v < 128 by omega,show ¬ v < 2048 by omega,show v < 65536 by omega]
 ·refine ⟨[UInt8.ofNat (240 + v / 262144),UInt8.ofNat (128 + v / 4096 % 64),UInt8.ofNat (128 + v / 64 % 64),UInt8.ofNat (128 + v % 64)],⟨by simp,by simp only [List.map,u8_of (show 240 + v / 262144 < 256 by omega),u8_of (show 128 + v / 4096 % 64 < 256 by omega),u8_of (show 128 + v / 64 % 64 < 256 by omega),u8_of (show 128 + v % 64 < 256 by omega)]; simp⟩,Sh.intro ?_⟩
  repeat' (first | refine Gx rfl ?_ | ((first | refine G_reg ?_ | refine G_regv ?_ | refine VO_chk ?_ | refine VO_go ?_ | refine VO_gx ?_ | refine G_cond ?_); simp only [go_sem]) | refine VO_end ?_ | refine Sh.intro ?_ | (refine And.intro (fun _ => ?_) (fun _ => ?_) <;> try (exfalso; omega)) | ((first | refine G_fin ?_ | refine G_ret rfl ?_); simp only [or_self,Qs,Qt,Qu,Qv,Qw,Qx,Qy,Qz,Za,go_sem]))
  simp [bytesL,show ¬ v < 128 by omega,show ¬ v < 2048 by omega,show ¬ v < 65536 by omega]
theorem sign4 (v : Nat) : Does QP gp 182 [vi v] (vb (signN v)) := by
 refine f182_in ?_
 simp only [go_sem]
 repeat' (first | refine Gx rfl ?_ | ((first | refine G_reg ?_ | refine G_regv ?_ | refine VO_chk ?_ | refine VO_go ?_ | refine VO_gx ?_ | refine G_cond ?_); simp only [go_sem]) | refine VO_end ?_ | refine Sh.intro ?_ | (refine And.intro (fun _ => ?_) (fun _ => ?_) <;> try (exfalso; omega)) | ((first | refine G_fin ?_ | refine G_ret rfl ?_); simp only [or_self,Qs,Qt,Qu,Qv,Qw,Qx,Qy,Qz,Za,go_sem]))
 all_goals (unfold signN; first | (simp; omega) | grind | trace_state)
def accN (lead : Nat) (s : ByteArray) (p : Nat) : Nat -> Nat
 | 0 => lead
 | i + 1 => 64 * accN lead s p i + byteN s (p + (i + 1)) % 64
theorem accN_lt {lead : Nat} {s : ByteArray} {p : Nat} (hl : lead < 256) : ∀ i,accN lead s p i < 256 * 64 ^ i
 | 0 => by simpa [accN] using hl
 | i + 1 => by
  have := accN_lt (s := s) (p := p) hl i
  simp only [accN,Nat.pow_succ]
  omega
def leadN (b0 : Nat) : Nat := if b0 >= 240 then b0 - 240 else if b0 >= 224 then b0 - 224 else if b0 >= 192 then b0 - 192 else b0
abbrev oneS (s : ByteArray) (p : Nat) : Nat × Nat := oneN (s.size - p) (byteN s p) (byteN s (p + 1)) (byteN s (p + 2)) (byteN s (p + 3))
theorem oneV_acc (s : ByteArray) (p : Nat) : oneV (byteN s p) (byteN s (p + 1)) (byteN s (p + 2)) (byteN s (p + 3)) = accN (leadN (byteN s p)) s p (oneK (byteN s p) - 1) := by
 unfold oneV leadN oneK
 split
 ·simp [accN]; omega
 ·split
  ·simp [accN]; omega
  ·split
   ·simp [accN]; omega
   ·simp [accN]
theorem list_at (s : ByteArray) (p k : Nat) (h : p + k <= s.size) : (s.extract p (p + k)).data.toList = (List.range k).map fun i => s.get! (p + i) := by
 have h' : p + k <= s.data.size := h
 rw [ByteArray.data_extract,Array.toList_extract,List.extract_eq_take_drop,Nat.add_sub_cancel_left]
 apply List.ext_getElem?
 intro i
 rw [List.getElem?_take,List.getElem?_map]
 by_cases hi : i < k
 ·rw [if_pos hi,List.getElem?_drop,List.getElem?_range hi]
  have hlt : p + i < s.data.toList.length := by simp; omega
  rw [List.getElem?_eq_getElem hlt]
  simp [ByteArray.get!,getElem!_pos s.data (p + i) (by omega)]
 ·rw [if_neg hi,List.getElem?_eq_none (by simp; omega)]; rfl
theorem u8_eq {n : Nat} {b : UInt8} (h : n < 256) : UInt8.ofNat n = b ↔ b.toNat = n := by
 constructor
 ·rintro rfl; exact u8_of h
 ·intro e; rw [<- e]; simp
theorem bytes_eq (s : ByteArray) (p k v : Nat) (hk : 1 <= k /\ k <= 4) (h : p + k <= s.size) (hv : v <= 1114111) :
  decide ((⟨(bytesL v).toArray⟩ : ByteArray) = s.extract p (p + k)) = bytesN v k (byteN s p) (byteN s (p + 1)) (byteN s (p + 2)) (byteN s (p + 3)) := by
 have e : ((⟨(bytesL v).toArray⟩ : ByteArray) = s.extract p (p + k)) ↔ bytesL v = (List.range k).map fun i => s.get! (p + i) := by
  rw [<- list_at s p k h]
  constructor
  ·intro h; rw [<- h]
  ·intro h; apply ByteArray.ext; apply Array.ext'; simpa using h
 have : k = 1 \/ k = 2 \/ k = 3 \/ k = 4 := by omega
 have e2 : decide ((⟨(bytesL v).toArray⟩ : ByteArray) = s.extract p (p + k)) = decide (bytesL v = (List.range k).map fun i => s.get! (p + i)) := decide_eq_decide.2 e
 rw [e2]
 have r1 : ((List.range 1).map fun i => s.get! (p + i)) = [s.get! p] := rfl
 have r2 : ((List.range 2).map fun i => s.get! (p + i)) = [s.get! p,s.get! (p + 1)] := rfl
 have r3 : ((List.range 3).map fun i => s.get! (p + i)) = [s.get! p,s.get! (p + 1),s.get! (p + 2)] := rfl
 have r4 : ((List.range 4).map fun i => s.get! (p + i)) = [s.get! p,s.get! (p + 1),s.get! (p + 2),s.get! (p + 3)] := rfl
 unfold bytesN byteN
 by_cases c1 : v < 128
 ·have eb : bytesL v = [UInt8.ofNat v] := by unfold bytesL; rw [if_pos c1]
  rw [eb,if_pos c1,decide_eq_decide]
  have u := fun b => u8_eq (b := b) (show v < 256 by omega)
  rcases this with rfl | rfl | rfl | rfl <;> simp [r1,r2,r3,r4,u]
 ·rw [if_neg c1]
  by_cases c2 : v < 2048
  ·have eb : bytesL v = [UInt8.ofNat (192 + v / 64),UInt8.ofNat (128 + v % 64)] := by unfold bytesL; rw [if_neg c1,if_pos c2]
   rw [eb,if_pos c2,decide_eq_decide]
   have u := fun b => u8_eq (b := b) (show 192 + v / 64 < 256 by omega)
   have u2 := fun b => u8_eq (b := b) (show 128 + v % 64 < 256 by omega)
   rcases this with rfl | rfl | rfl | rfl <;> simp only [r1,r2,r3,r4,List.cons.injEq,u,u2,and_true,and_false,false_and,true_and,reduceCtorEq] <;> simp
  ·rw [if_neg c2]
   by_cases c3 : v < 65536
   ·have eb : bytesL v = [UInt8.ofNat (224 + v / 4096),UInt8.ofNat (128 + v / 64 % 64),UInt8.ofNat (128 + v % 64)] := by unfold bytesL; rw [if_neg c1,if_neg c2,if_pos c3]
    rw [eb,if_pos c3,decide_eq_decide]
    have u := fun b => u8_eq (b := b) (show 224 + v / 4096 < 256 by omega)
    have u2 := fun b => u8_eq (b := b) (show 128 + v / 64 % 64 < 256 by omega)
    have u3 := fun b => u8_eq (b := b) (show 128 + v % 64 < 256 by omega)
    rcases this with rfl | rfl | rfl | rfl <;> simp only [r1,r2,r3,r4,List.cons.injEq,u,u2,u3,and_true,and_false,false_and,true_and,reduceCtorEq] <;> simp
   ·have eb : bytesL v = [UInt8.ofNat (240 + v / 262144),UInt8.ofNat (128 + v / 4096 % 64),UInt8.ofNat (128 + v / 64 % 64),UInt8.ofNat (128 + v % 64)] := by unfold bytesL; rw [if_neg c1,if_neg c2,if_neg c3]
    rw [eb,if_neg c3,decide_eq_decide]
    have u := fun b => u8_eq (b := b) (show 240 + v / 262144 < 256 by omega)
    have u2 := fun b => u8_eq (b := b) (show 128 + v / 4096 % 64 < 256 by omega)
    have u3 := fun b => u8_eq (b := b) (show 128 + v / 64 % 64 < 256 by omega)
    have u4 := fun b => u8_eq (b := b) (show 128 + v % 64 < 256 by omega)
    rcases this with rfl | rfl | rfl | rfl <;> simp only [r1,r2,r3,r4,List.cons.injEq,u,u2,u3,u4,and_true,and_false,false_and,true_and,reduceCtorEq] <;> simp
theorem one_eq {s : ByteArray} {p k lead : Nat} (hk : oneK (byteN s p) = k) (hl : leadN (byteN s p) = lead) : oneS s p = if k > s.size - p then (0,0)
  else if signN (accN lead s p (k - 1)) && bytesN (accN lead s p (k - 1)) k (byteN s p) (byteN s (p + 1)) (byteN s (p + 2)) (byteN s (p + 3)) then (accN lead s p (k - 1),k) else (0,0) := by
 subst hk hl
 unfold oneS oneN
 rw [oneV_acc]
set_option maxHeartbeats 1000000 in
theorem one4 (s : ByteArray) (p : Nat) (hp : p < s.size) (hs : s.size < lenMax) : Does QP gp 171 [vs s,vi p] (.tup [vi (oneS s p).1,vi (oneS s p).2]) := by
 refine f171_in ?_
 simp only [go_sem]
 have hb0 := at_byte hp
 have hlt := byteN_lt s p
 have hbn : byteN s p = (s.get! p).toNat := rfl
 unfold lenMax at hs
 have k1 : ∀ a : Nat,a <= 256 -> inK .i64 ((s.get! p).toNat - a : Int) := fun a ha => by
  unfold inK; simp [IntKind.min,IntKind.max,IntKind.signed,IntKind.bits]; omega
 have k2 := k1 240 (by omega)
 have k3 := k1 224 (by omega)
 have k4 := k1 192 (by omega)
 have k5 : inK .i64 ((s.size : Int) - p) := by unfold inK; simp [IntKind.min,IntKind.max,IntKind.signed,IntKind.bits]; omega
 by_cases q1 : (s.get! p).toNat >= 240
 ·have d1 : decide (((s.get! p).toNat : Int) >= 240) = true := decide_eq_true (by omega)
  have hk : oneK (byteN s p) = 4 := by unfold oneK; rw [hbn]; rw [if_pos (by omega)]
  have hl : leadN (byteN s p) = (s.get! p).toNat - 240 := by unfold leadN; rw [hbn]; rw [if_pos (by omega)]
  have h1 := one_eq hk rfl
  have kl : inK .i64 ((leadN (byteN s p) : Nat) : Int) := by unfold inK; simp [IntKind.min,IntKind.max,IntKind.signed,IntKind.bits]; omega
  have hacc := fun i => accN_lt (s := s) (p := p) (show leadN (byteN s p) < 256 by omega) i
  have hle : ((s.get! p).toNat : Int) - 240 = ((leadN (byteN s p) : Nat) : Int) := by rw [hl]; omega
  by_cases hfit : 4 > s.size - p
  ·rw [if_pos hfit] at h1
   rw [h1]
   repeat' (first | refine Gx rfl ?_ | ((first | refine G_reg ?_ | refine G_regv ?_ | refine VO_chk ?_ | refine VO_go ?_ | refine VO_gx ?_ | refine G_cond ?_); simp only [d1,hle,go_sem]) | refine VO_end ?_ | refine Sh.intro ?_ | refine ⟨p,_,⟨rfl,hb0⟩,Sh.intro ?_⟩ | refine ⟨ik_byte _,?_⟩ | refine ⟨kl,?_⟩ | refine ⟨k2,?_⟩ | refine ⟨k3,?_⟩ | refine ⟨k4,?_⟩ | refine ⟨k5,?_⟩ | (refine And.intro (fun _ => ?_) (fun _ => ?_) <;> try (exfalso; omega)) | ((first | refine G_fin ?_ | refine G_ret rfl ?_); simp only [d1,hle,or_self,Qs,Qt,Qu,Qv,Qw,Qx,Qy,Qz,Za,go_sem]))
   all_goals first | (exfalso; omega) | rfl | trace_state
  ·rw [if_neg hfit] at h1
   repeat' (first | refine Gx rfl ?_ | ((first | refine G_reg ?_ | refine G_regv ?_ | refine VO_chk ?_ | refine VO_go ?_ | refine VO_gx ?_ | refine G_cond ?_); simp only [d1,hle,go_sem]) | refine VO_end ?_ | refine Sh.intro ?_ | refine ⟨p,_,⟨rfl,hb0⟩,Sh.intro ?_⟩ | refine ⟨ik_byte _,?_⟩ | refine ⟨kl,?_⟩ | refine ⟨k2,?_⟩ | refine ⟨k3,?_⟩ | refine ⟨k4,?_⟩ | refine ⟨k5,?_⟩ | (refine And.intro (fun _ => ?_) (fun _ => ?_) <;> try (exfalso; omega)) | ((first | refine G_fin ?_ | refine G_ret rfl ?_); simp only [d1,hle,or_self,Qs,Qt,Qu,Qv,Qw,Qx,Qy,Qz,Za,go_sem]))
   all_goals first | (exfalso; omega) | skip
   refine G_weak (fr 62 [(0,vs s),(1,vi p),(6,vi (accN (leadN (byteN s p)) s p (0 : Nat))),(7,vi 4),(8,.one (.d (.int .i64 ((0 : Nat) + 1))))]) (by (simp only [go_sem]; repeat' (first | refine And.intro ?_ ?_ | exact Or.inl rfl | exact Or.inr rfl | rfl))) ?_
   refine G_loop (fun mz sz => ∃ i : Nat,i <= 4 - 1 /\ mz = 4 - 1 - i /\ (0 <= i) /\ sz = ⟨fr 62 [(0,vs s),(1,vi p),(6,vi (accN (leadN (byteN s p)) s p i)),(7,vi 4),(8,.one (.d (.int .i64 (i + 1))))],[]⟩) (4 - 1) ⟨0,Nat.zero_le _,(Nat.sub_zero _).symm,?_,rfl⟩ ?_
   ·exact Nat.zero_le _
   rintro _ _ ⟨i,hi,rfl,-,rfl⟩
   simp only [go_sem]
   by_cases hil : i < 4 - 1
   ·have hb := at_byte (s := s) (p := p + (i + 1)) (by omega)
    have hv : 64 * ((accN (leadN (byteN s p)) s p i : Nat) : Int) + Int.tmod ((s.get! (p + (i + 1))).toNat : Int) 64 = ((accN (leadN (byteN s p)) s p (i + 1) : Nat) : Int) := by
     rw [show Int.tmod ((s.get! (p + (i + 1))).toNat : Int) 64 = (((s.get! (p + (i + 1))).toNat % 64 : Nat) : Int) from rfl]
     simp only [accN,byteN]; omega
    have ha := hacc i
    have hp4 : 64 ^ i <= 64 ^ 3 := Nat.pow_le_pow_right (by omega) (by omega)
    have ha' : accN (leadN (byteN s p)) s p i <= 256 * 64 ^ 3 := by omega
    have g1 : inK .i64 (64 * ((accN (leadN (byteN s p)) s p i : Nat) : Int)) := by unfold inK; simp [IntKind.min,IntKind.max,IntKind.signed,IntKind.bits]; omega
    have g2 : inK .i64 ((p : Int) + ((i : Int) + 1)) := by unfold inK; simp [IntKind.min,IntKind.max,IntKind.signed,IntKind.bits]; omega
    have ha2 := hacc (i + 1)
    have hp5 : 64 ^ (i + 1) <= 64 ^ 3 := Nat.pow_le_pow_right (by omega) (by omega)
    have g3 : inK .i64 ((accN (leadN (byteN s p)) s p (i + 1) : Nat) : Int) := by unfold inK; simp [IntKind.min,IntKind.max,IntKind.signed,IntKind.bits]; omega
    have g4 : inK .i64 ((i : Int) + 1 + 1) := by unfold inK; simp [IntKind.min,IntKind.max,IntKind.signed,IntKind.bits]; omega
    repeat' (first | refine Gx rfl ?_ | ((first | refine G_reg ?_ | refine G_regv ?_ | refine VO_chk ?_ | refine VO_go ?_ | refine VO_gx ?_ | refine G_cond ?_); simp only [hv,go_sem]) | refine VO_end ?_ | refine Sh.intro ?_ | refine ⟨p + (i + 1),_,⟨by omega,hb⟩,Sh.intro ?_⟩ | refine ⟨ik_byte _,?_⟩ | refine ⟨g1,?_⟩ | refine ⟨g2,?_⟩ | refine ⟨g3,?_⟩ | refine ⟨g4,?_⟩ | (refine And.intro (fun _ => ?_) (fun _ => ?_) <;> try (exfalso; omega)) | ((first | refine G_fin ?_ | refine G_ret rfl ?_); simp only [hv,or_self,Qs,Qt,Qu,Qv,Qw,Qx,Qy,Qz,Za,go_sem]))
    all_goals first | (exfalso; omega) | skip
    refine G_weak (fr 62 [(0,vs s),(1,vi p),(6,vi (accN (leadN (byteN s p)) s p (i + 1))),(7,vi 4),(8,.one (.d (.int .i64 ((i + 1) + 1))))]) (by (simp only [go_sem]; repeat' (first | refine And.intro ?_ ?_ | exact Or.inl rfl | exact Or.inr rfl | rfl))) ?_
    refine G_again ⟨4 - 1 - (i + 1),by omega,i + 1,by omega,rfl,?_,rfl⟩
    exact Nat.zero_le _
   ·obtain rfl : 4 - 1 = i := by omega
    have hs := sign4 (gp := gp) (accN (leadN (byteN s p)) s p (4 - 1))
    by_cases hsg : signN (accN (leadN (byteN s p)) s p (4 - 1)) = true
    ·rw [hsg] at hs h1
     have hvm : accN (leadN (byteN s p)) s p (4 - 1) <= 1114111 := (of_decide_eq_true hsg).1
     have hbs := bytes4 (gp := gp) _ hvm
     have hbe := bytes_eq s p 4 _ (by omega) (by omega) hvm
     have g5 : inK .i64 ((p : Int) + 4) := by unfold inK; simp [IntKind.min,IntKind.max,IntKind.signed,IntKind.bits]; omega
     rw [Bool.true_and] at h1
     rw [h1,<- hbe]
     repeat' (first | refine Gx rfl ?_ | ((first | refine G_reg ?_ | refine G_regv ?_ | refine VO_chk ?_ | refine VO_go ?_ | refine VO_gx ?_ | refine G_cond ?_); simp only [go_sem]) | refine VO_end ?_ | refine Sh.intro ?_ | refine ⟨_,hs,Sh.intro ?_⟩ | refine ⟨_,⟨hs,rfl⟩,Sh.intro ?_⟩ | refine ⟨_,hbs,Sh.intro ?_⟩ | refine ⟨_,⟨hbs,rfl⟩,Sh.intro ?_⟩ | refine ⟨g5,?_⟩ | refine ⟨p,p + 4,⟨rfl,by omega,by omega,by omega⟩,Sh.intro ?_⟩ | (refine And.intro (fun _ => ?_) (fun _ => ?_) <;> try (exfalso; omega)) | ((first | refine G_fin ?_ | refine G_ret rfl ?_); simp only [or_self,Qs,Qt,Qu,Qv,Qw,Qx,Qy,Qz,Za,go_sem]))
     all_goals first | (exfalso; omega) | skip
     all_goals (rename_i hx; simp at hx; simp [hx])
    ·have hsf : signN (accN (leadN (byteN s p)) s p (4 - 1)) = false := by simpa using hsg
     rw [hsf] at hs h1
     rw [Bool.false_and] at h1
     rw [h1]
     repeat' (first | refine Gx rfl ?_ | ((first | refine G_reg ?_ | refine G_regv ?_ | refine VO_chk ?_ | refine VO_go ?_ | refine VO_gx ?_ | refine G_cond ?_); simp only [go_sem]) | refine VO_end ?_ | refine Sh.intro ?_ | refine ⟨_,hs,Sh.intro ?_⟩ | refine ⟨_,⟨hs,rfl⟩,Sh.intro ?_⟩ | (refine And.intro (fun _ => ?_) (fun _ => ?_) <;> try (exfalso; omega)) | ((first | refine G_fin ?_ | refine G_ret rfl ?_); simp only [or_self,Qs,Qt,Qu,Qv,Qw,Qx,Qy,Qz,Za,go_sem]))
     all_goals first | (exfalso; omega) | rfl | trace_state
 ·by_cases q2 : (s.get! p).toNat >= 224
  ·have d1 : decide (((s.get! p).toNat : Int) >= 240) = false := decide_eq_false (by omega)
   have d2 : decide (((s.get! p).toNat : Int) >= 224) = true := decide_eq_true (by omega)
   have hk : oneK (byteN s p) = 3 := by unfold oneK; rw [hbn]; rw [if_neg (by omega),if_pos (by omega)]
   have hl : leadN (byteN s p) = (s.get! p).toNat - 224 := by unfold leadN; rw [hbn]; rw [if_neg (by omega),if_pos (by omega)]
   have h1 := one_eq hk rfl
   have kl : inK .i64 ((leadN (byteN s p) : Nat) : Int) := by unfold inK; simp [IntKind.min,IntKind.max,IntKind.signed,IntKind.bits]; omega
   have hacc := fun i => accN_lt (s := s) (p := p) (show leadN (byteN s p) < 256 by omega) i
   have hle : ((s.get! p).toNat : Int) - 224 = ((leadN (byteN s p) : Nat) : Int) := by rw [hl]; omega
   by_cases hfit : 3 > s.size - p
   ·rw [if_pos hfit] at h1
    rw [h1]
    repeat' (first | refine Gx rfl ?_ | ((first | refine G_reg ?_ | refine G_regv ?_ | refine VO_chk ?_ | refine VO_go ?_ | refine VO_gx ?_ | refine G_cond ?_); simp only [d1,d2,hle,go_sem]) | refine VO_end ?_ | refine Sh.intro ?_ | refine ⟨p,_,⟨rfl,hb0⟩,Sh.intro ?_⟩ | refine ⟨ik_byte _,?_⟩ | refine ⟨kl,?_⟩ | refine ⟨k2,?_⟩ | refine ⟨k3,?_⟩ | refine ⟨k4,?_⟩ | refine ⟨k5,?_⟩ | (refine And.intro (fun _ => ?_) (fun _ => ?_) <;> try (exfalso; omega)) | ((first | refine G_fin ?_ | refine G_ret rfl ?_); simp only [d1,d2,hle,or_self,Qs,Qt,Qu,Qv,Qw,Qx,Qy,Qz,Za,go_sem]))
    all_goals first | (exfalso; omega) | rfl | trace_state
   ·rw [if_neg hfit] at h1
    repeat' (first | refine Gx rfl ?_ | ((first | refine G_reg ?_ | refine G_regv ?_ | refine VO_chk ?_ | refine VO_go ?_ | refine VO_gx ?_ | refine G_cond ?_); simp only [d1,d2,hle,go_sem]) | refine VO_end ?_ | refine Sh.intro ?_ | refine ⟨p,_,⟨rfl,hb0⟩,Sh.intro ?_⟩ | refine ⟨ik_byte _,?_⟩ | refine ⟨kl,?_⟩ | refine ⟨k2,?_⟩ | refine ⟨k3,?_⟩ | refine ⟨k4,?_⟩ | refine ⟨k5,?_⟩ | (refine And.intro (fun _ => ?_) (fun _ => ?_) <;> try (exfalso; omega)) | ((first | refine G_fin ?_ | refine G_ret rfl ?_); simp only [d1,d2,hle,or_self,Qs,Qt,Qu,Qv,Qw,Qx,Qy,Qz,Za,go_sem]))
    all_goals first | (exfalso; omega) | skip
    refine G_weak (fr 62 [(0,vs s),(1,vi p),(6,vi (accN (leadN (byteN s p)) s p (0 : Nat))),(7,vi 3),(8,.one (.d (.int .i64 ((0 : Nat) + 1))))]) (by (simp only [go_sem]; repeat' (first | refine And.intro ?_ ?_ | exact Or.inl rfl | exact Or.inr rfl | rfl))) ?_
    refine G_loop (fun mz sz => ∃ i : Nat,i <= 3 - 1 /\ mz = 3 - 1 - i /\ (0 <= i) /\ sz = ⟨fr 62 [(0,vs s),(1,vi p),(6,vi (accN (leadN (byteN s p)) s p i)),(7,vi 3),(8,.one (.d (.int .i64 (i + 1))))],[]⟩) (3 - 1) ⟨0,Nat.zero_le _,(Nat.sub_zero _).symm,?_,rfl⟩ ?_
    ·exact Nat.zero_le _
    rintro _ _ ⟨i,hi,rfl,-,rfl⟩
    simp only [go_sem]
    by_cases hil : i < 3 - 1
    ·have hb := at_byte (s := s) (p := p + (i + 1)) (by omega)
     have hv : 64 * ((accN (leadN (byteN s p)) s p i : Nat) : Int) + Int.tmod ((s.get! (p + (i + 1))).toNat : Int) 64 = ((accN (leadN (byteN s p)) s p (i + 1) : Nat) : Int) := by
      rw [show Int.tmod ((s.get! (p + (i + 1))).toNat : Int) 64 = (((s.get! (p + (i + 1))).toNat % 64 : Nat) : Int) from rfl]
      simp only [accN,byteN]; omega
     have ha := hacc i
     have hp4 : 64 ^ i <= 64 ^ 3 := Nat.pow_le_pow_right (by omega) (by omega)
     have ha' : accN (leadN (byteN s p)) s p i <= 256 * 64 ^ 3 := by omega
     have g1 : inK .i64 (64 * ((accN (leadN (byteN s p)) s p i : Nat) : Int)) := by unfold inK; simp [IntKind.min,IntKind.max,IntKind.signed,IntKind.bits]; omega
     have g2 : inK .i64 ((p : Int) + ((i : Int) + 1)) := by unfold inK; simp [IntKind.min,IntKind.max,IntKind.signed,IntKind.bits]; omega
     have ha2 := hacc (i + 1)
     have hp5 : 64 ^ (i + 1) <= 64 ^ 3 := Nat.pow_le_pow_right (by omega) (by omega)
     have g3 : inK .i64 ((accN (leadN (byteN s p)) s p (i + 1) : Nat) : Int) := by unfold inK; simp [IntKind.min,IntKind.max,IntKind.signed,IntKind.bits]; omega
     have g4 : inK .i64 ((i : Int) + 1 + 1) := by unfold inK; simp [IntKind.min,IntKind.max,IntKind.signed,IntKind.bits]; omega
     repeat' (first | refine Gx rfl ?_ | ((first | refine G_reg ?_ | refine G_regv ?_ | refine VO_chk ?_ | refine VO_go ?_ | refine VO_gx ?_ | refine G_cond ?_); simp only [hv,go_sem]) | refine VO_end ?_ | refine Sh.intro ?_ | refine ⟨p + (i + 1),_,⟨by omega,hb⟩,Sh.intro ?_⟩ | refine ⟨ik_byte _,?_⟩ | refine ⟨g1,?_⟩ | refine ⟨g2,?_⟩ | refine ⟨g3,?_⟩ | refine ⟨g4,?_⟩ | (refine And.intro (fun _ => ?_) (fun _ => ?_) <;> try (exfalso; omega)) | ((first | refine G_fin ?_ | refine G_ret rfl ?_); simp only [hv,or_self,Qs,Qt,Qu,Qv,Qw,Qx,Qy,Qz,Za,go_sem]))
     all_goals first | (exfalso; omega) | skip
     refine G_weak (fr 62 [(0,vs s),(1,vi p),(6,vi (accN (leadN (byteN s p)) s p (i + 1))),(7,vi 3),(8,.one (.d (.int .i64 ((i + 1) + 1))))]) (by (simp only [go_sem]; repeat' (first | refine And.intro ?_ ?_ | exact Or.inl rfl | exact Or.inr rfl | rfl))) ?_
     refine G_again ⟨3 - 1 - (i + 1),by omega,i + 1,by omega,rfl,?_,rfl⟩
     exact Nat.zero_le _
    ·obtain rfl : 3 - 1 = i := by omega
     have hs := sign4 (gp := gp) (accN (leadN (byteN s p)) s p (3 - 1))
     by_cases hsg : signN (accN (leadN (byteN s p)) s p (3 - 1)) = true
     ·rw [hsg] at hs h1
      have hvm : accN (leadN (byteN s p)) s p (3 - 1) <= 1114111 := (of_decide_eq_true hsg).1
      have hbs := bytes4 (gp := gp) _ hvm
      have hbe := bytes_eq s p 3 _ (by omega) (by omega) hvm
      have g5 : inK .i64 ((p : Int) + 3) := by unfold inK; simp [IntKind.min,IntKind.max,IntKind.signed,IntKind.bits]; omega
      rw [Bool.true_and] at h1
      rw [h1,<- hbe]
      repeat' (first | refine Gx rfl ?_ | ((first | refine G_reg ?_ | refine G_regv ?_ | refine VO_chk ?_ | refine VO_go ?_ | refine VO_gx ?_ | refine G_cond ?_); simp only [go_sem]) | refine VO_end ?_ | refine Sh.intro ?_ | refine ⟨_,hs,Sh.intro ?_⟩ | refine ⟨_,⟨hs,rfl⟩,Sh.intro ?_⟩ | refine ⟨_,hbs,Sh.intro ?_⟩ | refine ⟨_,⟨hbs,rfl⟩,Sh.intro ?_⟩ | refine ⟨g5,?_⟩ | refine ⟨p,p + 3,⟨rfl,by omega,by omega,by omega⟩,Sh.intro ?_⟩ | (refine And.intro (fun _ => ?_) (fun _ => ?_) <;> try (exfalso; omega)) | ((first | refine G_fin ?_ | refine G_ret rfl ?_); simp only [or_self,Qs,Qt,Qu,Qv,Qw,Qx,Qy,Qz,Za,go_sem]))
      all_goals first | (exfalso; omega) | skip
      all_goals (rename_i hx; simp at hx; simp [hx])
     ·have hsf : signN (accN (leadN (byteN s p)) s p (3 - 1)) = false := by simpa using hsg
      rw [hsf] at hs h1
      rw [Bool.false_and] at h1
      rw [h1]
      repeat' (first | refine Gx rfl ?_ | ((first | refine G_reg ?_ | refine G_regv ?_ | refine VO_chk ?_ | refine VO_go ?_ | refine VO_gx ?_ | refine G_cond ?_); simp only [go_sem]) | refine VO_end ?_ | refine Sh.intro ?_ | refine ⟨_,hs,Sh.intro ?_⟩ | refine ⟨_,⟨hs,rfl⟩,Sh.intro ?_⟩ | (refine And.intro (fun _ => ?_) (fun _ => ?_) <;> try (exfalso; omega)) | ((first | refine G_fin ?_ | refine G_ret rfl ?_); simp only [or_self,Qs,Qt,Qu,Qv,Qw,Qx,Qy,Qz,Za,go_sem]))
      all_goals first | (exfalso; omega) | rfl | trace_state
  ·by_cases q3 : (s.get! p).toNat >= 192
   ·have d1 : decide (((s.get! p).toNat : Int) >= 240) = false := decide_eq_false (by omega)
    have d2 : decide (((s.get! p).toNat : Int) >= 224) = false := decide_eq_false (by omega)
    have d3 : decide (((s.get! p).toNat : Int) >= 192) = true := decide_eq_true (by omega)
    have hk : oneK (byteN s p) = 2 := by unfold oneK; rw [hbn]; rw [if_neg (by omega),if_neg (by omega),if_pos (by omega)]
    have hl : leadN (byteN s p) = (s.get! p).toNat - 192 := by unfold leadN; rw [hbn]; rw [if_neg (by omega),if_neg (by omega),if_pos (by omega)]
    have h1 := one_eq hk rfl
    have kl : inK .i64 ((leadN (byteN s p) : Nat) : Int) := by unfold inK; simp [IntKind.min,IntKind.max,IntKind.signed,IntKind.bits]; omega
    have hacc := fun i => accN_lt (s := s) (p := p) (show leadN (byteN s p) < 256 by omega) i
    have hle : ((s.get! p).toNat : Int) - 192 = ((leadN (byteN s p) : Nat) : Int) := by rw [hl]; omega
    by_cases hfit : 2 > s.size - p
    ·rw [if_pos hfit] at h1
     rw [h1]
     repeat' (first | refine Gx rfl ?_ | ((first | refine G_reg ?_ | refine G_regv ?_ | refine VO_chk ?_ | refine VO_go ?_ | refine VO_gx ?_ | refine G_cond ?_); simp only [d1,d2,d3,hle,go_sem]) | refine VO_end ?_ | refine Sh.intro ?_ | refine ⟨p,_,⟨rfl,hb0⟩,Sh.intro ?_⟩ | refine ⟨ik_byte _,?_⟩ | refine ⟨kl,?_⟩ | refine ⟨k2,?_⟩ | refine ⟨k3,?_⟩ | refine ⟨k4,?_⟩ | refine ⟨k5,?_⟩ | (refine And.intro (fun _ => ?_) (fun _ => ?_) <;> try (exfalso; omega)) | ((first | refine G_fin ?_ | refine G_ret rfl ?_); simp only [d1,d2,d3,hle,or_self,Qs,Qt,Qu,Qv,Qw,Qx,Qy,Qz,Za,go_sem]))
     all_goals first | (exfalso; omega) | rfl | trace_state
    ·rw [if_neg hfit] at h1
     repeat' (first | refine Gx rfl ?_ | ((first | refine G_reg ?_ | refine G_regv ?_ | refine VO_chk ?_ | refine VO_go ?_ | refine VO_gx ?_ | refine G_cond ?_); simp only [d1,d2,d3,hle,go_sem]) | refine VO_end ?_ | refine Sh.intro ?_ | refine ⟨p,_,⟨rfl,hb0⟩,Sh.intro ?_⟩ | refine ⟨ik_byte _,?_⟩ | refine ⟨kl,?_⟩ | refine ⟨k2,?_⟩ | refine ⟨k3,?_⟩ | refine ⟨k4,?_⟩ | refine ⟨k5,?_⟩ | (refine And.intro (fun _ => ?_) (fun _ => ?_) <;> try (exfalso; omega)) | ((first | refine G_fin ?_ | refine G_ret rfl ?_); simp only [d1,d2,d3,hle,or_self,Qs,Qt,Qu,Qv,Qw,Qx,Qy,Qz,Za,go_sem]))
     all_goals first | (exfalso; omega) | skip
     refine G_weak (fr 62 [(0,vs s),(1,vi p),(6,vi (accN (leadN (byteN s p)) s p (0 : Nat))),(7,vi 2),(8,.one (.d (.int .i64 ((0 : Nat) + 1))))]) (by (simp only [go_sem]; repeat' (first | refine And.intro ?_ ?_ | exact Or.inl rfl | exact Or.inr rfl | rfl))) ?_
     refine G_loop (fun mz sz => ∃ i : Nat,i <= 2 - 1 /\ mz = 2 - 1 - i /\ (0 <= i) /\ sz = ⟨fr 62 [(0,vs s),(1,vi p),(6,vi (accN (leadN (byteN s p)) s p i)),(7,vi 2),(8,.one (.d (.int .i64 (i + 1))))],[]⟩) (2 - 1) ⟨0,Nat.zero_le _,(Nat.sub_zero _).symm,?_,rfl⟩ ?_
     ·exact Nat.zero_le _
     rintro _ _ ⟨i,hi,rfl,-,rfl⟩
     simp only [go_sem]
     by_cases hil : i < 2 - 1
     ·have hb := at_byte (s := s) (p := p + (i + 1)) (by omega)
      have hv : 64 * ((accN (leadN (byteN s p)) s p i : Nat) : Int) + Int.tmod ((s.get! (p + (i + 1))).toNat : Int) 64 = ((accN (leadN (byteN s p)) s p (i + 1) : Nat) : Int) := by
       rw [show Int.tmod ((s.get! (p + (i + 1))).toNat : Int) 64 = (((s.get! (p + (i + 1))).toNat % 64 : Nat) : Int) from rfl]
       simp only [accN,byteN]; omega
      have ha := hacc i
      have hp4 : 64 ^ i <= 64 ^ 3 := Nat.pow_le_pow_right (by omega) (by omega)
      have ha' : accN (leadN (byteN s p)) s p i <= 256 * 64 ^ 3 := by omega
      have g1 : inK .i64 (64 * ((accN (leadN (byteN s p)) s p i : Nat) : Int)) := by unfold inK; simp [IntKind.min,IntKind.max,IntKind.signed,IntKind.bits]; omega
      have g2 : inK .i64 ((p : Int) + ((i : Int) + 1)) := by unfold inK; simp [IntKind.min,IntKind.max,IntKind.signed,IntKind.bits]; omega
      have ha2 := hacc (i + 1)
      have hp5 : 64 ^ (i + 1) <= 64 ^ 3 := Nat.pow_le_pow_right (by omega) (by omega)
      have g3 : inK .i64 ((accN (leadN (byteN s p)) s p (i + 1) : Nat) : Int) := by unfold inK; simp [IntKind.min,IntKind.max,IntKind.signed,IntKind.bits]; omega
      have g4 : inK .i64 ((i : Int) + 1 + 1) := by unfold inK; simp [IntKind.min,IntKind.max,IntKind.signed,IntKind.bits]; omega
      repeat' (first | refine Gx rfl ?_ | ((first | refine G_reg ?_ | refine G_regv ?_ | refine VO_chk ?_ | refine VO_go ?_ | refine VO_gx ?_ | refine G_cond ?_); simp only [hv,go_sem]) | refine VO_end ?_ | refine Sh.intro ?_ | refine ⟨p + (i + 1),_,⟨by omega,hb⟩,Sh.intro ?_⟩ | refine ⟨ik_byte _,?_⟩ | refine ⟨g1,?_⟩ | refine ⟨g2,?_⟩ | refine ⟨g3,?_⟩ | refine ⟨g4,?_⟩ | (refine And.intro (fun _ => ?_) (fun _ => ?_) <;> try (exfalso; omega)) | ((first | refine G_fin ?_ | refine G_ret rfl ?_); simp only [hv,or_self,Qs,Qt,Qu,Qv,Qw,Qx,Qy,Qz,Za,go_sem]))
      all_goals first | (exfalso; omega) | skip
      refine G_weak (fr 62 [(0,vs s),(1,vi p),(6,vi (accN (leadN (byteN s p)) s p (i + 1))),(7,vi 2),(8,.one (.d (.int .i64 ((i + 1) + 1))))]) (by (simp only [go_sem]; repeat' (first | refine And.intro ?_ ?_ | exact Or.inl rfl | exact Or.inr rfl | rfl))) ?_
      refine G_again ⟨2 - 1 - (i + 1),by omega,i + 1,by omega,rfl,?_,rfl⟩
      exact Nat.zero_le _
     ·obtain rfl : 2 - 1 = i := by omega
      have hs := sign4 (gp := gp) (accN (leadN (byteN s p)) s p (2 - 1))
      by_cases hsg : signN (accN (leadN (byteN s p)) s p (2 - 1)) = true
      ·rw [hsg] at hs h1
       have hvm : accN (leadN (byteN s p)) s p (2 - 1) <= 1114111 := (of_decide_eq_true hsg).1
       have hbs := bytes4 (gp := gp) _ hvm
       have hbe := bytes_eq s p 2 _ (by omega) (by omega) hvm
       have g5 : inK .i64 ((p : Int) + 2) := by unfold inK; simp [IntKind.min,IntKind.max,IntKind.signed,IntKind.bits]; omega
       rw [Bool.true_and] at h1
       rw [h1,<- hbe]
       repeat' (first | refine Gx rfl ?_ | ((first | refine G_reg ?_ | refine G_regv ?_ | refine VO_chk ?_ | refine VO_go ?_ | refine VO_gx ?_ | refine G_cond ?_); simp only [go_sem]) | refine VO_end ?_ | refine Sh.intro ?_ | refine ⟨_,hs,Sh.intro ?_⟩ | refine ⟨_,⟨hs,rfl⟩,Sh.intro ?_⟩ | refine ⟨_,hbs,Sh.intro ?_⟩ | refine ⟨_,⟨hbs,rfl⟩,Sh.intro ?_⟩ | refine ⟨g5,?_⟩ | refine ⟨p,p + 2,⟨rfl,by omega,by omega,by omega⟩,Sh.intro ?_⟩ | (refine And.intro (fun _ => ?_) (fun _ => ?_) <;> try (exfalso; omega)) | ((first | refine G_fin ?_ | refine G_ret rfl ?_); simp only [or_self,Qs,Qt,Qu,Qv,Qw,Qx,Qy,Qz,Za,go_sem]))
       all_goals first | (exfalso; omega) | skip
       all_goals (rename_i hx; simp at hx; simp [hx])
      ·have hsf : signN (accN (leadN (byteN s p)) s p (2 - 1)) = false := by simpa using hsg
       rw [hsf] at hs h1
       rw [Bool.false_and] at h1
       rw [h1]
       repeat' (first | refine Gx rfl ?_ | ((first | refine G_reg ?_ | refine G_regv ?_ | refine VO_chk ?_ | refine VO_go ?_ | refine VO_gx ?_ | refine G_cond ?_); simp only [go_sem]) | refine VO_end ?_ | refine Sh.intro ?_ | refine ⟨_,hs,Sh.intro ?_⟩ | refine ⟨_,⟨hs,rfl⟩,Sh.intro ?_⟩ | (refine And.intro (fun _ => ?_) (fun _ => ?_) <;> try (exfalso; omega)) | ((first | refine G_fin ?_ | refine G_ret rfl ?_); simp only [or_self,Qs,Qt,Qu,Qv,Qw,Qx,Qy,Qz,Za,go_sem]))
       all_goals first | (exfalso; omega) | rfl | trace_state
   ·have d1 : decide (((s.get! p).toNat : Int) >= 240) = false := decide_eq_false (by omega)
    have d2 : decide (((s.get! p).toNat : Int) >= 224) = false := decide_eq_false (by omega)
    have d3 : decide (((s.get! p).toNat : Int) >= 192) = false := decide_eq_false (by omega)
    have hk : oneK (byteN s p) = 1 := by unfold oneK; rw [hbn]; rw [if_neg (by omega),if_neg (by omega),if_neg (by omega)]
    have hl : leadN (byteN s p) = (s.get! p).toNat := by unfold leadN; rw [hbn]; rw [if_neg (by omega),if_neg (by omega),if_neg (by omega)]
    have hl0 : leadN (byteN s p) = byteN s p := hl
    have h1 := one_eq hk hl0
    have kl : inK .i64 ((leadN (byteN s p) : Nat) : Int) := by unfold inK; simp [IntKind.min,IntKind.max,IntKind.signed,IntKind.bits]; omega
    have hacc := fun i => accN_lt (s := s) (p := p) (show leadN (byteN s p) < 256 by omega) i
    have hle : ((s.get! p).toNat : Int) = ((leadN (byteN s p) : Nat) : Int) := by rw [hl]
    by_cases hfit : 1 > s.size - p
    ·rw [if_pos hfit] at h1
     rw [h1]
     repeat' (first | refine Gx rfl ?_ | ((first | refine G_reg ?_ | refine G_regv ?_ | refine VO_chk ?_ | refine VO_go ?_ | refine VO_gx ?_ | refine G_cond ?_); simp only [d1,d2,d3,go_sem]) | refine VO_end ?_ | refine Sh.intro ?_ | refine ⟨p,_,⟨rfl,hb0⟩,Sh.intro ?_⟩ | refine ⟨ik_byte _,?_⟩ | refine ⟨kl,?_⟩ | refine ⟨k2,?_⟩ | refine ⟨k3,?_⟩ | refine ⟨k4,?_⟩ | refine ⟨k5,?_⟩ | (refine And.intro (fun _ => ?_) (fun _ => ?_) <;> try (exfalso; omega)) | ((first | refine G_fin ?_ | refine G_ret rfl ?_); simp only [d1,d2,d3,or_self,Qs,Qt,Qu,Qv,Qw,Qx,Qy,Qz,Za,go_sem]))
     all_goals first | (exfalso; omega) | rfl | trace_state
    ·rw [if_neg hfit] at h1
     repeat' (first | refine Gx rfl ?_ | ((first | refine G_reg ?_ | refine G_regv ?_ | refine VO_chk ?_ | refine VO_go ?_ | refine VO_gx ?_ | refine G_cond ?_); simp only [d1,d2,d3,go_sem]) | refine VO_end ?_ | refine Sh.intro ?_ | refine ⟨p,_,⟨rfl,hb0⟩,Sh.intro ?_⟩ | refine ⟨ik_byte _,?_⟩ | refine ⟨kl,?_⟩ | refine ⟨k2,?_⟩ | refine ⟨k3,?_⟩ | refine ⟨k4,?_⟩ | refine ⟨k5,?_⟩ | (refine And.intro (fun _ => ?_) (fun _ => ?_) <;> try (exfalso; omega)) | ((first | refine G_fin ?_ | refine G_ret rfl ?_); simp only [d1,d2,d3,or_self,Qs,Qt,Qu,Qv,Qw,Qx,Qy,Qz,Za,go_sem]))
     all_goals first | (exfalso; omega) | skip
     refine G_weak (fr 62 [(0,vs s),(1,vi p),(6,vi (accN (byteN s p) s p (0 : Nat))),(7,vi 1),(8,.one (.d (.int .i64 ((0 : Nat) + 1))))]) (by (simp only [go_sem]; repeat' (first | refine And.intro ?_ ?_ | exact Or.inl rfl | exact Or.inr rfl | rfl))) ?_
     refine G_loop (fun mz sz => ∃ i : Nat,i <= 1 - 1 /\ mz = 1 - 1 - i /\ (0 <= i) /\ sz = ⟨fr 62 [(0,vs s),(1,vi p),(6,vi (accN (byteN s p) s p i)),(7,vi 1),(8,.one (.d (.int .i64 (i + 1))))],[]⟩) (1 - 1) ⟨0,Nat.zero_le _,(Nat.sub_zero _).symm,?_,rfl⟩ ?_
     ·exact Nat.zero_le _
     rintro _ _ ⟨i,hi,rfl,-,rfl⟩
     simp only [go_sem]
     by_cases hil : i < 1 - 1
     ·exact absurd hil (by omega)
     ·obtain rfl : 1 - 1 = i := by omega
      have hs := sign4 (gp := gp) (accN (byteN s p) s p (1 - 1))
      by_cases hsg : signN (accN (byteN s p) s p (1 - 1)) = true
      ·rw [hsg] at hs h1
       have hvm : accN (byteN s p) s p (1 - 1) <= 1114111 := (of_decide_eq_true hsg).1
       have hbs := bytes4 (gp := gp) _ hvm
       have hbe := bytes_eq s p 1 _ (by omega) (by omega) hvm
       have g5 : inK .i64 ((p : Int) + 1) := by unfold inK; simp [IntKind.min,IntKind.max,IntKind.signed,IntKind.bits]; omega
       rw [Bool.true_and] at h1
       rw [h1,<- hbe]
       repeat' (first | refine Gx rfl ?_ | ((first | refine G_reg ?_ | refine G_regv ?_ | refine VO_chk ?_ | refine VO_go ?_ | refine VO_gx ?_ | refine G_cond ?_); simp only [go_sem]) | refine VO_end ?_ | refine Sh.intro ?_ | refine ⟨_,hs,Sh.intro ?_⟩ | refine ⟨_,⟨hs,rfl⟩,Sh.intro ?_⟩ | refine ⟨_,hbs,Sh.intro ?_⟩ | refine ⟨_,⟨hbs,rfl⟩,Sh.intro ?_⟩ | refine ⟨g5,?_⟩ | refine ⟨p,p + 1,⟨rfl,by omega,by omega,by omega⟩,Sh.intro ?_⟩ | (refine And.intro (fun _ => ?_) (fun _ => ?_) <;> try (exfalso; omega)) | ((first | refine G_fin ?_ | refine G_ret rfl ?_); simp only [or_self,Qs,Qt,Qu,Qv,Qw,Qx,Qy,Qz,Za,go_sem]))
       all_goals first | (exfalso; omega) | skip
       all_goals (rename_i hx; simp at hx; simp [hx])
      ·have hsf : signN (accN (byteN s p) s p (1 - 1)) = false := by simpa using hsg
       rw [hsf] at hs h1
       rw [Bool.false_and] at h1
       rw [h1]
       repeat' (first | refine Gx rfl ?_ | ((first | refine G_reg ?_ | refine G_regv ?_ | refine VO_chk ?_ | refine VO_go ?_ | refine VO_gx ?_ | refine G_cond ?_); simp only [go_sem]) | refine VO_end ?_ | refine Sh.intro ?_ | refine ⟨_,hs,Sh.intro ?_⟩ | refine ⟨_,⟨hs,rfl⟩,Sh.intro ?_⟩ | (refine And.intro (fun _ => ?_) (fun _ => ?_) <;> try (exfalso; omega)) | ((first | refine G_fin ?_ | refine G_ret rfl ?_); simp only [or_self,Qs,Qt,Qu,Qv,Qw,Qx,Qy,Qz,Za,go_sem]))
       all_goals first | (exfalso; omega) | rfl | trace_state
end Go.Fw.L07
namespace Go.Fw.L07
open Go Go.Fw
open Go.Proofs.Tryz renaming prog -> QP
open Nat renaming reduceAdd -> Qa,reduceSub -> Qb,reduceMul -> Qc,reduceLeDiff -> Qd,reduceLT -> Qe,reduceEqDiff -> Qf
open Int renaming reduceToNat -> Qg,reduceLT -> Qh,reduceLE -> Qi,reduceGT -> Qj,reduceGE -> Qk,reduceEq -> Ql,reduceNe -> Qm,reduceBEq -> Qn,reduceBNe -> Qo,reduceAdd -> Qp,reduceSub -> Qq,reduceNeg -> Qr
open Go.Fw.V.one renaming injEq -> Qs
open Go.Fw.V.agg renaming injEq -> Qt
open Go.Fw.V.tup renaming injEq -> Qu
open Go.Fw.A.d renaming injEq -> Qv
open Go.Fw.D.bool renaming injEq -> Qw
open Go.Fw.D.int renaming injEq -> Qx
open Go.Fw.D.str renaming injEq -> Qy
open Go.Fw.D.sl renaming injEq -> Qz
open List.cons renaming injEq -> Za
set_option maxRecDepth 4000
variable {gp : Heap}
def signsF (s : ByteArray) : Nat -> Nat -> Option (List Int)
 | 0,_ => some []
 | f + 1,p => if p < s.size then (if (oneS s p).2 = 0 then none else (signsF s f (p + (oneS s p).2)).map (((oneS s p).1 : Int) :: ·)) else some []
theorem oneS_width (s : ByteArray) (p : Nat) (hp : p < s.size) : (oneS s p).2 <= s.size - p := by
 unfold oneS oneN
 split
 ·simp
 ·split
  ·simp; omega
  ·simp
theorem signs_end {s : ByteArray} {f p : Nat} (h : ¬ p < s.size) : signsF s f p = some [] := by
 cases f with
 | zero => rfl
 | succ f => simp only [signsF,if_neg h]
set_option maxHeartbeats 1000000 in
theorem signs4 (s : ByteArray) (hs : s.size <= 100000) : Does QP gp 151 [vs s] (.tup [.one (.d (.sl (ints ((signsF s s.size 0).getD [])))),vi (if (signsF s s.size 0).isSome then 0 else 40)]) := by
 refine f151_in ?_
 simp only [go_sem]
 repeat' (first | refine Gx rfl ?_ | ((first | refine G_reg ?_ | refine G_regv ?_ | refine VO_chk ?_ | refine VO_go ?_ | refine VO_gx ?_ | refine G_cond ?_); simp only [f151_r25,go_sem]) | refine VO_end ?_ | refine Sh.intro ?_ | refine And.intro (fun _ => ?_) (fun _ => ?_) | ((first | refine G_fin ?_ | refine G_ret rfl ?_); simp only [f151_r25,or_self,Qs,Qt,Qu,Qv,Qw,Qx,Qy,Qz,Za,go_sem]))
 refine G_row0 4 1 (by decide) rfl ?_
 simp only [go_sem]
 refine G_weak (fr 28 [(0,vs s),(4,.one (.own 0 0)),(5,vi (0 : Nat))]) (by (simp only [go_sem]; repeat' (first | refine And.intro ?_ ?_ | exact Or.inl rfl | exact Or.inr rfl | rfl))) ?_
 refine G_loop (fun mz sz => ∃ (p f : Nat) (out : List Int),mz = s.size - p /\ s.size - p <= f /\ (signsF s f p).map (out ++ ·) = signsF s s.size 0 /\ out.length <= p /\ p <= s.size /\ sz = ⟨fr 28 [(0,vs s),(4,.one (.own 0 out.length)),(5,vi p)],[.row 1 out.length (ints out)]⟩) s.size ⟨0,s.size,[],rfl,Nat.le_refl _,by simp,Nat.le_refl _,Nat.zero_le _,rfl⟩ ?_
 rintro _ _ ⟨p,f,out,rfl,hf,hr,ho,hps,rfl⟩
 simp only [go_sem]
 by_cases hp : p < s.size
 ·obtain ⟨f,rfl⟩ : ∃ g,f = g + 1 := ⟨f - 1,by omega⟩
  have c1 := one4 (gp := gp) s p hp (by unfold lenMax; omega)
  have hw := oneS_width s p hp
  simp only [signsF,if_pos hp] at hr
  have e1 : decide ((p : Int) < (s.size : Int)) = true := decide_eq_true (by omega)
  by_cases hz : (oneS s p).2 = 0
  ·rw [if_pos hz] at hr
   rw [<- hr]
   have e2 : (((oneS s p).2 : Int) == 0) = true := by rw [hz]; rfl
   repeat' (first | refine Gx rfl ?_ | ((first | refine G_reg ?_ | refine G_regv ?_ | refine VO_chk ?_ | refine VO_go ?_ | refine VO_gx ?_ | refine G_cond ?_); simp only [f151_r25,e1,e2,go_sem]) | refine VO_end ?_ | refine Sh.intro ?_ | refine ⟨_,c1,Sh.intro ?_⟩ | refine ⟨_,⟨c1,rfl⟩,Sh.intro ?_⟩ | refine And.intro (fun _ => ?_) (fun _ => ?_) | ((first | refine G_fin ?_ | refine G_ret rfl ?_); simp only [f151_r25,e1,e2,or_self,Qs,Qt,Qu,Qv,Qw,Qx,Qy,Qz,Za,go_sem]))
   all_goals simp
  ·rw [if_neg hz] at hr
   have e2 : (((oneS s p).2 : Int) == 0) = false := by simp; omega
   repeat' (first | refine Gx rfl ?_ | ((first | refine G_reg ?_ | refine G_regv ?_ | refine VO_chk ?_ | refine VO_go ?_ | refine VO_gx ?_ | refine G_cond ?_); simp only [f151_r25,e1,e2,go_sem]) | refine VO_end ?_ | refine Sh.intro ?_ | refine ⟨_,c1,Sh.intro ?_⟩ | refine ⟨_,⟨c1,rfl⟩,Sh.intro ?_⟩ | refine And.intro (fun _ => ?_) (fun _ => ?_) | ((first | refine G_fin ?_ | refine G_ret rfl ?_); simp only [f151_r25,e1,e2,or_self,Qs,Qt,Qu,Qv,Qw,Qx,Qy,Qz,Za,go_sem]))
   refine ⟨by first | omega | simp,by first | omega | (simp; omega),by first | (unfold lenMax; omega) | (simp [lenMax]; omega),?_⟩
   rw [show ints out ++ [[D.int .i64 ((oneS s p).1 : Int)]] = ints (out ++ [((oneS s p).1 : Int)]) from by simp]
   have g1 : inK .i64 ((p : Int) + ((oneS s p).2 : Int)) := by unfold inK; simp [IntKind.min,IntKind.max,IntKind.signed,IntKind.bits]; omega
   repeat' (first | refine Gx rfl ?_ | ((first | refine G_reg ?_ | refine G_regv ?_ | refine VO_chk ?_ | refine VO_go ?_ | refine VO_gx ?_ | refine G_cond ?_); simp only [f151_r25,go_sem]) | refine VO_end ?_ | refine Sh.intro ?_ | refine ⟨g1,?_⟩ | refine And.intro (fun _ => ?_) (fun _ => ?_) | ((first | refine G_fin ?_ | refine G_ret rfl ?_); simp only [f151_r25,or_self,Qs,Qt,Qu,Qv,Qw,Qx,Qy,Qz,Za,go_sem]))
   have hlen : (out ++ [((oneS s p).1 : Int)]).length = out.length + 1 := by simp
   refine G_weak (fr 28 [(0,vs s),(4,.one (.own 0 (out.length + 1))),(5,.one (.d (.int .i64 (p + (oneS s p).2))))]) (by (simp only [go_sem]; repeat' (first | refine And.intro ?_ ?_ | exact Or.inl rfl | exact Or.inr rfl | rfl))) ?_
   refine G_again ⟨s.size - (p + (oneS s p).2),by omega,p + (oneS s p).2,f,out ++ [((oneS s p).1 : Int)],rfl,by omega,?_,by simp; omega,by omega,by rw [hlen,Int.natCast_add]; rfl⟩
   rw [<- hr]
   cases signsF s f (p + (oneS s p).2) <;> simp
 ·have e1 : decide ((p : Int) < (s.size : Int)) = false := decide_eq_false (by omega)
  rw [signs_end hp] at hr
  rw [<- hr]
  repeat' (first | refine Gx rfl ?_ | ((first | refine G_reg ?_ | refine G_regv ?_ | refine VO_chk ?_ | refine VO_go ?_ | refine VO_gx ?_ | refine G_cond ?_); simp only [e1,go_sem]) | refine VO_end ?_ | refine Sh.intro ?_ | refine And.intro (fun _ => ?_) (fun _ => ?_) | ((first | refine G_fin ?_ | refine G_ret rfl ?_); simp only [e1,or_self,Qs,Qt,Qu,Qv,Qw,Qx,Qy,Qz,Za,go_sem]))
  refine G_freeze 0 ?_
  simp only [go_sem]
  repeat' (first | refine Gx rfl ?_ | ((first | refine G_reg ?_ | refine G_regv ?_ | refine VO_chk ?_ | refine VO_go ?_ | refine VO_gx ?_ | refine G_cond ?_); simp only [f151_r25,go_sem]) | refine VO_end ?_ | refine Sh.intro ?_ | refine And.intro (fun _ => ?_) (fun _ => ?_) | ((first | refine G_fin ?_ | refine G_ret rfl ?_); simp only [f151_r25,or_self,Qs,Qt,Qu,Qv,Qw,Qx,Qy,Qz,Za,go_sem]))
  all_goals simp
theorem signs_right (s : ByteArray) : ∀ f p : Nat,(signsF s f p).isSome = rightFrom s f p
 | 0,_ => rfl
 | f + 1,p => by
  simp only [signsF,rightFrom]
  by_cases hp : p < s.size
  ·rw [if_pos hp,if_pos hp]
   have h1 : oneS s p = if (Utf8.decode s p).1 = 65533 /\ (Utf8.decode s p).2 = 1 then (0,0) else Utf8.decode s p := by
    rw [Lib.decode_at]
    exact oneN_ok (by omega) (byteN_lt _ _) (byteN_lt _ _) (byteN_lt _ _) (byteN_lt _ _)
   have hw := Lib.decode_width_pos s p hp
   by_cases hd : (Utf8.decode s p).1 = 65533 /\ (Utf8.decode s p).2 = 1
   ·rw [if_pos hd] at h1
    rw [h1,if_pos rfl,if_pos hd]; rfl
   ·rw [if_neg hd] at h1
    rw [h1,if_neg (by omega),if_neg hd,Option.isSome_map]
    exact signs_right s f _
  ·rw [if_neg hp,if_neg hp]; rfl
theorem right4 (s : ByteArray) (hs : s.size <= 100000) : Does QP gp 129 [vs s] (vb (rightS s)) := by
 refine f129_in ?_
 simp only [go_sem]
 have c1 := signs4 (gp := gp) s hs
 have c2 := signs_right s s.size 0
 unfold rightS
 rw [<- c2]
 generalize signsF s s.size 0 = o at *
 repeat' (first | refine Gx rfl ?_ | ((first | refine G_reg ?_ | refine G_regv ?_ | refine VO_chk ?_ | refine VO_go ?_ | refine VO_gx ?_ | refine G_cond ?_); simp only [go_sem]) | refine VO_end ?_ | refine Sh.intro ?_ | refine ⟨_,c1,Sh.intro ?_⟩ | refine ⟨_,⟨c1,rfl⟩,Sh.intro ?_⟩ | refine And.intro (fun _ => ?_) (fun _ => ?_) | ((first | refine G_fin ?_ | refine G_ret rfl ?_); simp only [or_self,Qs,Qt,Qu,Qv,Qw,Qx,Qy,Qz,Za,go_sem]))
 all_goals (cases o <;> simp)
theorem right5 (x : Sc) (hs : x.s.size <= 100000) : Does QP gp 101 [x.v] (vb (prR rightS x)) := by
 refine f101_in ?_
 simp only [go_sem]
 repeat' (first | refine Gx rfl ?_ | ((first | refine G_reg ?_ | refine G_regv ?_ | refine VO_chk ?_ | refine VO_go ?_ | refine VO_gx ?_ | refine G_cond ?_); simp only [go_sem]) | refine VO_end ?_ | refine Sh.intro ?_ | refine ⟨_,right4 _ hs,Sh.intro ?_⟩ | refine ⟨_,⟨right4 _ hs,rfl⟩,Sh.intro ?_⟩ | refine And.intro (fun _ => ?_) (fun _ => ?_) | ((first | refine G_fin ?_ | refine G_ret rfl ?_); simp only [or_self,Qs,Qt,Qu,Qv,Qw,Qx,Qy,Qz,Za,go_sem]))
 all_goals (first | (unfold prR maxNum; grind) | (cases x; simp_all [prR,maxNum]; done) | trace_state)
set_option maxHeartbeats 1000000 in
theorem twice6 (l : List Sc) (hl : l.length <= 100) : Does QP gp 102 [.one (.d (.sl (scs l)))] (vb (!decide l.Nodup)) := by
 refine f102_in ?_
 simp only [go_sem]
 repeat' (first | refine Gx rfl ?_ | ((first | refine G_reg ?_ | refine G_regv ?_ | refine VO_chk ?_ | refine VO_go ?_ | refine VO_gx ?_ | refine G_cond ?_); simp only [go_sem]) | refine VO_end ?_ | refine Sh.intro ?_ | refine And.intro (fun _ => ?_) (fun _ => ?_) | ((first | refine G_fin ?_ | refine G_ret rfl ?_); simp only [or_self,Qs,Qt,Qu,Qv,Qw,Qx,Qy,Qz,Za,go_sem]))
 refine G_weak (fr 25 [(0,.one (.d (.sl (scs l)))),(3,vi (0 : Nat))]) (by (simp only [go_sem]; repeat' (first | refine And.intro ?_ ?_ | exact Or.inl rfl | exact Or.inr rfl | rfl))) ?_
 refine G_loop (fun mz sz => ∃ i : Nat,i <= l.length /\ mz = l.length - i /\ ((l.take i).Nodup) /\ sz = ⟨fr 25 [(0,.one (.d (.sl (scs l)))),(3,vi i)],[]⟩) (l.length) ⟨0,Nat.zero_le _,(Nat.sub_zero _).symm,?_,rfl⟩ ?_
 ·simp
 rintro _ _ ⟨i,hi,rfl,hz,rfl⟩
 simp only [go_sem]
 by_cases hil : i < l.length
 ·obtain ⟨x,hx⟩ := at_lt hil
  have e1 : decide ((i : Int) < (l.length : Int)) = true := decide_eq_true (by omega)
  repeat' (first | refine Gx rfl ?_ | ((first | refine G_reg ?_ | refine G_regv ?_ | refine VO_chk ?_ | refine VO_go ?_ | refine VO_gx ?_ | refine G_cond ?_); simp only [e1,go_sem]) | refine VO_end ?_ | refine Sh.intro ?_ | refine And.intro (fun _ => ?_) (fun _ => ?_) | ((first | refine G_fin ?_ | refine G_ret rfl ?_); simp only [e1,or_self,Qs,Qt,Qu,Qv,Qw,Qx,Qy,Qz,Za,go_sem]))
  refine G_weak (fr 25 [(0,.one (.d (.sl (scs l)))),(3,vi i),(4,vi (0 : Nat))]) (by (simp only [go_sem]; repeat' (first | refine And.intro ?_ ?_ | exact Or.inl rfl | exact Or.inr rfl | rfl))) ?_
  refine G_loop (fun mz sz => ∃ j : Nat,j <= i /\ mz = i - j /\ (x ∉ l.take j) /\ sz = ⟨fr 25 [(0,.one (.d (.sl (scs l)))),(3,vi i),(4,vi j)],[]⟩) (i) ⟨0,Nat.zero_le _,(Nat.sub_zero _).symm,?_,rfl⟩ ?_
  ·simp
  rintro _ _ ⟨j,hj,rfl,hn,rfl⟩
  simp only [go_sem]
  by_cases hji : j < i
  ·obtain ⟨y,hy⟩ := at_lt (l := l) (i := j) (by omega)
   have e2 : decide ((j : Int) < (i : Int)) = true := decide_eq_true (by omega)
   repeat' (first | refine Gx rfl ?_ | ((first | refine G_reg ?_ | refine G_regv ?_ | refine VO_chk ?_ | refine VO_go ?_ | refine VO_gx ?_ | refine G_cond ?_); simp only [e2,sc_eq,go_sem]) | refine VO_end ?_ | refine Sh.intro ?_ | refine ⟨_,⟨Int.natCast_nonneg _,(by first | exact map_at hx | (rw [Int.toNat_natCast]; exact map_at hx)),rfl⟩,Sh.intro ?_⟩ | refine ⟨_,⟨Int.natCast_nonneg _,(by first | exact map_at hy | (rw [Int.toNat_natCast]; exact map_at hy)),rfl⟩,Sh.intro ?_⟩ | refine And.intro (fun _ => ?_) (fun _ => ?_) | ((first | refine G_fin ?_ | refine G_ret rfl ?_); simp only [e2,sc_eq,or_self,Qs,Qt,Qu,Qv,Qw,Qx,Qy,Qz,Za,go_sem]))
   ·rename_i h
    have hxy : x = y := by simpa using h
    subst hxy
    have : ¬ l.Nodup := fun hnd => by
     have := List.pairwise_iff_getElem.1 hnd j i (by omega) hil hji
     rw [(List.getElem?_eq_some_iff.1 hx).2,(List.getElem?_eq_some_iff.1 hy).2] at this
     exact this rfl
    simp [this]
   ·rename_i h
    refine ⟨inK_nat hji (by unfold lenMax; omega),?_⟩
    refine G_weak (fr 25 [(0,.one (.d (.sl (scs l)))),(3,vi i),(4,vi (j + 1))]) (by (simp only [go_sem]; repeat' (first | refine And.intro ?_ ?_ | exact Or.inl rfl | exact Or.inr rfl | rfl))) ?_
    refine G_again ⟨i - (j + 1),by omega,j + 1,by omega,rfl,?_,rfl⟩
    rw [List.take_succ,hy]
    simp only [List.mem_append,not_or]
    exact ⟨hn,by simpa using h⟩
  ·obtain rfl : i = j := by omega
   have e2 : decide ((i : Int) < (i : Int)) = false := decide_eq_false (by omega)
   repeat' (first | refine Gx rfl ?_ | ((first | refine G_reg ?_ | refine G_regv ?_ | refine VO_chk ?_ | refine VO_go ?_ | refine VO_gx ?_ | refine G_cond ?_); simp only [e2,go_sem]) | refine VO_end ?_ | refine Sh.intro ?_ | refine And.intro (fun _ => ?_) (fun _ => ?_) | ((first | refine G_fin ?_ | refine G_ret rfl ?_); simp only [e2,or_self,Qs,Qt,Qu,Qv,Qw,Qx,Qy,Qz,Za,go_sem]))
   refine ⟨inK_nat hil (by unfold lenMax; omega),?_⟩
   refine G_weak (fr 25 [(0,.one (.d (.sl (scs l)))),(3,vi (i + 1))]) (by (simp only [go_sem]; repeat' (first | refine And.intro ?_ ?_ | exact Or.inl rfl | exact Or.inr rfl | rfl))) ?_
   refine G_again ⟨l.length - (i + 1),by omega,i + 1,by omega,rfl,?_,rfl⟩
   rw [List.take_succ,hx]
   rw [List.nodup_append]
   exact ⟨hz,by simp,fun a ha b hb e => by simp at hb; subst hb; subst e; exact hn ha⟩
 ·have e1 : decide ((i : Int) < (l.length : Int)) = false := decide_eq_false (by omega)
  repeat' (first | refine Gx rfl ?_ | ((first | refine G_reg ?_ | refine G_regv ?_ | refine VO_chk ?_ | refine VO_go ?_ | refine VO_gx ?_ | refine G_cond ?_); simp only [e1,go_sem]) | refine VO_end ?_ | refine Sh.intro ?_ | refine And.intro (fun _ => ?_) (fun _ => ?_) | ((first | refine G_fin ?_ | refine G_ret rfl ?_); simp only [e1,or_self,Qs,Qt,Qu,Qv,Qw,Qx,Qy,Qz,Za,go_sem]))
  rw [List.take_of_length_le (by omega)] at hz
  simp [hz]
def Sc.short (x : Sc) : Prop := x.s.size <= 100000
def Nd.short (x : Nd) : Prop := x.keys.length <= 12 /\ x.kids.length <= 12 /\ x.x.short /\ ∀ y ∈ x.keys,y.short
theorem node_kids {R : ByteArray -> Bool} {x : Nd} {n : Int} (h : nodeR R x n = true) : (∀ k ∈ x.kids,0 <= k /\ k < n) /\ ∀ y ∈ x.keys,prR R y = true := by
 unfold nodeR at h
 split at h
 ·unfold oneR at h
  simp at h
  rw [h.2.1,h.2.2]; simp
 ·split at h
  ·unfold seqR kidsIn at h
   simp at h
   refine ⟨fun k hk => ?_,by rw [h.2.1]; simp⟩
   have := h.2.2 k hk
   omega
  ·split at h
   ·unfold mapR kidsIn keysR at h
    simp at h
    refine ⟨fun k hk => ?_,fun y hy => h.2.2.1.1 y hy⟩
    have := h.2.2.2 k hk
    omega
   ·cases h
theorem len0 {α : Type} [DecidableEq α] (l : List α) : ((l.length : Int) == 0) = decide (l = []) := by
 cases l with
 | nil => simp
 | cons a l => simp; omega
theorem kids_in {l : List Int} {n : Int} (h : ∀ k ∈ l,0 <= k /\ k < n) : kidsIn l n = true := by
 unfold kidsIn
 simp
 intro k hk
 have := h k hk
 omega
set_option maxHeartbeats 2000000 in
theorem right7 (x : Nd) (n : Nat) (hs : x.short) (hn : n <= 1000) : Does QP gp 64 [x.v,vi n] (vb (nodeR rightS x n)) := by
 obtain ⟨h1,h2,h3,h4⟩ := hs
 refine f64_in ?_
 simp only [go_sem]
 repeat' (first | refine Gx rfl ?_ | ((first | refine G_reg ?_ | refine G_regv ?_ | refine VO_chk ?_ | refine VO_go ?_ | refine VO_gx ?_ | refine G_cond ?_); simp only [go_sem]) | refine VO_end ?_ | refine Sh.intro ?_ | refine And.intro (fun _ => ?_) (fun _ => ?_) | ((first | refine G_fin ?_ | refine G_ret rfl ?_); simp only [or_self,Qs,Qt,Qu,Qv,Qw,Qx,Qy,Qz,Za,go_sem]))
 refine G_weak (fr 94 [(1,vi n),(2,.one (.d (.bx x.ds))),(5,vi (0 : Nat))]) (by (simp only [go_sem]; repeat' (first | refine And.intro ?_ ?_ | exact Or.inl rfl | exact Or.inr rfl | rfl))) ?_
 refine G_loop (fun mz sz => ∃ i : Nat,i <= x.kids.length /\ mz = x.kids.length - i /\ (∀ k ∈ x.kids.take i,0 <= k /\ k < n) /\ sz = ⟨fr 94 [(1,vi n),(2,.one (.d (.bx x.ds))),(5,vi i)],[]⟩) (x.kids.length) ⟨0,Nat.zero_le _,(Nat.sub_zero _).symm,?_,rfl⟩ ?_
 ·simp
 rintro _ _ ⟨i,hi,rfl,hz,rfl⟩
 simp only [go_sem]
 by_cases hil : i < x.kids.length
 ·obtain ⟨k,hk⟩ := at_lt hil
  have e1 : decide ((i : Int) < (x.kids.length : Int)) = true := decide_eq_true (by omega)
  have bad : ¬ (0 <= k /\ k < n) -> false = nodeR rightS x n := fun hb => by
   cases hr : nodeR rightS x n with
   | false => rfl
   | true => exact absurd ((node_kids hr).1 k (List.mem_of_getElem? hk)) hb
  repeat' (first | refine Gx rfl ?_ | ((first | refine G_reg ?_ | refine G_regv ?_ | refine VO_chk ?_ | refine VO_go ?_ | refine VO_gx ?_ | refine G_cond ?_); simp only [e1,go_sem]) | refine VO_end ?_ | refine Sh.intro ?_ | refine ⟨_,⟨Int.natCast_nonneg _,(by first | exact map_at hk | (rw [Int.toNat_natCast]; exact map_at hk)),rfl⟩,Sh.intro ?_⟩ | (refine And.intro (fun _ => ?_) (fun _ => ?_) <;> try (exfalso; omega)) | ((first | refine G_fin ?_ | refine G_ret rfl ?_); simp only [e1,or_self,Qs,Qt,Qu,Qv,Qw,Qx,Qy,Qz,Za,go_sem]))
  ·exact bad (by omega)
  ·refine ⟨inK_nat hil (by unfold lenMax; omega),?_⟩
   refine G_weak (fr 94 [(1,vi n),(2,.one (.d (.bx x.ds))),(5,vi (i + 1))]) (by (simp only [go_sem]; repeat' (first | refine And.intro ?_ ?_ | exact Or.inl rfl | exact Or.inr rfl | rfl))) ?_
   refine G_again ⟨x.kids.length - (i + 1),by omega,i + 1,by omega,rfl,?_,rfl⟩
   intro k' hk'
   rw [List.take_succ,hk] at hk'
   rcases List.mem_append.1 hk' with hk' | hk'
   ·exact hz k' hk'
   ·simp at hk'; subst hk'; omega
  ·exact bad (by omega)
 ·have hkids : ∀ k ∈ x.kids,0 <= k /\ k < n := by rw [List.take_of_length_le (by omega)] at hz; exact hz
  have e1 : decide ((i : Int) < (x.kids.length : Int)) = false := decide_eq_false (by omega)
  repeat' (first | refine Gx rfl ?_ | ((first | refine G_reg ?_ | refine G_regv ?_ | refine VO_chk ?_ | refine VO_go ?_ | refine VO_gx ?_ | refine G_cond ?_); simp only [e1,go_sem]) | refine VO_end ?_ | refine Sh.intro ?_ | (refine And.intro (fun _ => ?_) (fun _ => ?_) <;> try (exfalso; omega)) | ((first | refine G_fin ?_ | refine G_ret rfl ?_); simp only [e1,or_self,Qs,Qt,Qu,Qv,Qw,Qx,Qy,Qz,Za,go_sem]))
  all_goals first | (exfalso; omega) | skip
  clear hz hi hil e1
  refine G_weak (fr 94 [(1,vi n),(2,.one (.d (.bx x.ds))),(6,vi (0 : Nat))]) (by (simp only [go_sem]; repeat' (first | refine And.intro ?_ ?_ | exact Or.inl rfl | exact Or.inr rfl | rfl))) ?_
  refine G_loop (fun mz sz => ∃ i : Nat,i <= x.keys.length /\ mz = x.keys.length - i /\ (∀ k ∈ x.keys.take i,prR rightS k = true) /\ sz = ⟨fr 94 [(1,vi n),(2,.one (.d (.bx x.ds))),(6,vi i)],[]⟩) (x.keys.length) ⟨0,Nat.zero_le _,(Nat.sub_zero _).symm,?_,rfl⟩ ?_
  ·simp
  rintro _ _ ⟨i,hi,rfl,hz,rfl⟩
  simp only [go_sem]
  by_cases hil : i < x.keys.length
  ·obtain ⟨k,hk⟩ := at_lt hil
   have e1 : decide ((i : Int) < (x.keys.length : Int)) = true := decide_eq_true (by omega)
   have c1 := right5 (gp := gp) k (h4 k (List.mem_of_getElem? hk))
   by_cases hb : prR rightS k = true
   ·rw [hb] at c1
    repeat' (first | refine Gx rfl ?_ | ((first | refine G_reg ?_ | refine G_regv ?_ | refine VO_chk ?_ | refine VO_go ?_ | refine VO_gx ?_ | refine G_cond ?_); simp only [e1,go_sem]) | refine VO_end ?_ | refine Sh.intro ?_ | refine ⟨_,c1,Sh.intro ?_⟩ | refine ⟨_,⟨c1,rfl⟩,Sh.intro ?_⟩ | refine ⟨_,⟨Int.natCast_nonneg _,(by first | exact map_at hk | (rw [Int.toNat_natCast]; exact map_at hk)),rfl⟩,Sh.intro ?_⟩ | (refine And.intro (fun _ => ?_) (fun _ => ?_) <;> try (exfalso; omega)) | ((first | refine G_fin ?_ | refine G_ret rfl ?_); simp only [e1,or_self,Qs,Qt,Qu,Qv,Qw,Qx,Qy,Qz,Za,go_sem]))
    refine ⟨inK_nat hil (by unfold lenMax; omega),?_⟩
    refine G_weak (fr 94 [(1,vi n),(2,.one (.d (.bx x.ds))),(6,vi (i + 1))]) (by (simp only [go_sem]; repeat' (first | refine And.intro ?_ ?_ | exact Or.inl rfl | exact Or.inr rfl | rfl))) ?_
    refine G_again ⟨x.keys.length - (i + 1),by omega,i + 1,by omega,rfl,?_,rfl⟩
    intro k' hk'
    rw [List.take_succ,hk] at hk'
    rcases List.mem_append.1 hk' with hk' | hk'
    ·exact hz k' hk'
    ·simp at hk'; subst hk'; exact hb
   ·have hbf : prR rightS k = false := by simpa using hb
    rw [hbf] at c1
    repeat' (first | refine Gx rfl ?_ | ((first | refine G_reg ?_ | refine G_regv ?_ | refine VO_chk ?_ | refine VO_go ?_ | refine VO_gx ?_ | refine G_cond ?_); simp only [e1,go_sem]) | refine VO_end ?_ | refine Sh.intro ?_ | refine ⟨_,c1,Sh.intro ?_⟩ | refine ⟨_,⟨c1,rfl⟩,Sh.intro ?_⟩ | refine ⟨_,⟨Int.natCast_nonneg _,(by first | exact map_at hk | (rw [Int.toNat_natCast]; exact map_at hk)),rfl⟩,Sh.intro ?_⟩ | (refine And.intro (fun _ => ?_) (fun _ => ?_) <;> try (exfalso; omega)) | ((first | refine G_fin ?_ | refine G_ret rfl ?_); simp only [e1,or_self,Qs,Qt,Qu,Qv,Qw,Qx,Qy,Qz,Za,go_sem]))
    cases hr : nodeR rightS x n with
    | false => rfl
    | true => rw [(node_kids hr).2 k (List.mem_of_getElem? hk)] at hbf; cases hbf
  ·have hkeys : ∀ k ∈ x.keys,prR rightS k = true := by rw [List.take_of_length_le (by omega)] at hz; exact hz
   have e1 : decide ((i : Int) < (x.keys.length : Int)) = false := decide_eq_false (by omega)
   have hki := kids_in hkids
   have c1 := right5 (gp := gp) x.x h3
   have c2 := twice6 (gp := gp) x.keys (by omega)
   have hall : x.keys.all (prR rightS) = true := List.all_eq_true.2 hkeys
   have hn0 : nodeR rightS x n = if x.k = 0 then (prR rightS x.x && (decide (x.keys = []) && decide (x.kids = []))) else if x.k = 1 then (decide (x.x = ⟨0,0,⟨#[]⟩⟩) && decide (x.keys = []))
     else if x.k = 2 then (decide (x.x = ⟨0,0,⟨#[]⟩⟩) && (decide (x.keys.length = x.kids.length) && decide x.keys.Nodup)) else false := by
    unfold nodeR oneR seqR mapR isZ keysR
    rw [hki,hall]
    simp
   rw [hn0]
   repeat' (first | refine Gx rfl ?_ | ((first | refine G_reg ?_ | refine G_regv ?_ | refine VO_chk ?_ | refine VO_go ?_ | refine VO_gx ?_ | refine G_cond ?_); simp only [e1,sc_zero,len0,go_sem]) | refine VO_end ?_ | refine Sh.intro ?_ | refine ⟨_,c1,Sh.intro ?_⟩ | refine ⟨_,⟨c1,rfl⟩,Sh.intro ?_⟩ | refine ⟨_,c2,Sh.intro ?_⟩ | refine ⟨_,⟨c2,rfl⟩,Sh.intro ?_⟩ | (refine And.intro (fun _ => ?_) (fun _ => ?_) <;> try (exfalso; omega)) | ((first | refine G_fin ?_ | refine G_ret rfl ?_); simp only [e1,sc_zero,len0,or_self,Qs,Qt,Qu,Qv,Qw,Qx,Qy,Qz,Za,go_sem]))
   all_goals first | (exfalso; omega) | skip
   all_goals first | (simp_all; done) | (simp_all; omega) | grind | trace_state
set_option maxHeartbeats 1000000 in
theorem check7 (g : Gr) (hs : ∀ x ∈ g.l,x.short) : Does QP gp 17 [g.v] (.tup [vi ((chk g).getD (0,0)).1,vi ((chk g).getD (0,0)).2]) := by
 refine f17_in ?_
 simp only [go_sem]
 by_cases h1 : g.l.length > 200
 ·have e : chk g = some (0,71) := by unfold chk checkR; rw [if_pos h1]
  rw [e]
  repeat' (first | refine Gx rfl ?_ | ((first | refine G_reg ?_ | refine G_regv ?_ | refine VO_chk ?_ | refine VO_go ?_ | refine VO_gx ?_ | refine G_cond ?_); simp only [go_sem]) | refine VO_end ?_ | refine Sh.intro ?_ | (refine And.intro (fun _ => ?_) (fun _ => ?_) <;> try (exfalso; omega)) | ((first | refine G_fin ?_ | refine G_ret rfl ?_); simp only [or_self,Qs,Qt,Qu,Qv,Qw,Qx,Qy,Qz,Za,go_sem]))
  all_goals first | (exfalso; omega) | simp
 ·by_cases h2 : 0 <= g.root /\ g.root < g.l.length
  ·have e : chk g = (g.l.findIdx? fun x => !nodeR rightS x g.l.length).map fun i => ((i : Int),70) := by unfold chk checkR; rw [if_neg h1,if_neg (fun h => h h2)]
   repeat' (first | refine Gx rfl ?_ | ((first | refine G_reg ?_ | refine G_regv ?_ | refine VO_chk ?_ | refine VO_go ?_ | refine VO_gx ?_ | refine G_cond ?_); simp only [go_sem]) | refine VO_end ?_ | refine Sh.intro ?_ | (refine And.intro (fun _ => ?_) (fun _ => ?_) <;> try (exfalso; omega)) | ((first | refine G_fin ?_ | refine G_ret rfl ?_); simp only [or_self,Qs,Qt,Qu,Qv,Qw,Qx,Qy,Qz,Za,go_sem]))
   all_goals first | (exfalso; omega) | skip
   refine G_weak (fr 38 [(1,.one (.d (.bx [.int .i64 g.root,.sl (nds g.l)]))),(4,vi (0 : Nat))]) (by (simp only [go_sem]; repeat' (first | refine And.intro ?_ ?_ | exact Or.inl rfl | exact Or.inr rfl | rfl))) ?_
   refine G_loop (fun mz sz => ∃ i : Nat,i <= g.l.length /\ mz = g.l.length - i /\ (∀ y ∈ g.l.take i,(!nodeR rightS y g.l.length) = false) /\ sz = ⟨fr 38 [(1,.one (.d (.bx [.int .i64 g.root,.sl (nds g.l)]))),(4,vi i)],[]⟩) (g.l.length) ⟨0,Nat.zero_le _,(Nat.sub_zero _).symm,?_,rfl⟩ ?_
   ·simp
   rintro _ _ ⟨i,hi,rfl,hz,rfl⟩
   simp only [go_sem]
   by_cases hil : i < g.l.length
   ·obtain ⟨x,hx⟩ := at_lt hil
    have c1 := right7 (gp := gp) x g.l.length (hs x (List.mem_of_getElem? hx)) (by omega)
    have e1 : decide ((i : Int) < (g.l.length : Int)) = true := decide_eq_true (by omega)
    by_cases hr : nodeR rightS x g.l.length = true
    ·rw [hr] at c1
     repeat' (first | refine Gx rfl ?_ | ((first | refine G_reg ?_ | refine G_regv ?_ | refine VO_chk ?_ | refine VO_go ?_ | refine VO_gx ?_ | refine G_cond ?_); simp only [e1,go_sem]) | refine VO_end ?_ | refine Sh.intro ?_ | refine ⟨_,c1,Sh.intro ?_⟩ | refine ⟨_,⟨c1,rfl⟩,Sh.intro ?_⟩ | refine ⟨_,⟨Int.natCast_nonneg _,(by first | exact map_at hx | (rw [Int.toNat_natCast]; exact map_at hx)),rfl⟩,Sh.intro ?_⟩ | (refine And.intro (fun _ => ?_) (fun _ => ?_) <;> try (exfalso; omega)) | ((first | refine G_fin ?_ | refine G_ret rfl ?_); simp only [e1,or_self,Qs,Qt,Qu,Qv,Qw,Qx,Qy,Qz,Za,go_sem]))
     refine ⟨inK_nat hil (by unfold lenMax; omega),?_⟩
     refine G_weak (fr 38 [(1,.one (.d (.bx [.int .i64 g.root,.sl (nds g.l)]))),(4,vi (i + 1))]) (by (simp only [go_sem]; repeat' (first | refine And.intro ?_ ?_ | exact Or.inl rfl | exact Or.inr rfl | rfl))) ?_
     refine G_again ⟨g.l.length - (i + 1),by omega,i + 1,by omega,rfl,?_,rfl⟩
     exact take_all hz hx (by rw [hr]; rfl)
    ·have hrf : nodeR rightS x g.l.length = false := by simpa using hr
     rw [hrf] at c1
     rw [e,find_at hz hx (by rw [hrf]; rfl)]
     repeat' (first | refine Gx rfl ?_ | ((first | refine G_reg ?_ | refine G_regv ?_ | refine VO_chk ?_ | refine VO_go ?_ | refine VO_gx ?_ | refine G_cond ?_); simp only [e1,go_sem]) | refine VO_end ?_ | refine Sh.intro ?_ | refine ⟨_,c1,Sh.intro ?_⟩ | refine ⟨_,⟨c1,rfl⟩,Sh.intro ?_⟩ | refine ⟨_,⟨Int.natCast_nonneg _,(by first | exact map_at hx | (rw [Int.toNat_natCast]; exact map_at hx)),rfl⟩,Sh.intro ?_⟩ | (refine And.intro (fun _ => ?_) (fun _ => ?_) <;> try (exfalso; omega)) | ((first | refine G_fin ?_ | refine G_ret rfl ?_); simp only [e1,or_self,Qs,Qt,Qu,Qv,Qw,Qx,Qy,Qz,Za,go_sem]))
     all_goals simp
   ·have e1 : decide ((i : Int) < (g.l.length : Int)) = false := decide_eq_false (by omega)
    rw [e,find_none (by rw [List.take_of_length_le (by omega)] at hz; exact hz)]
    repeat' (first | refine Gx rfl ?_ | ((first | refine G_reg ?_ | refine G_regv ?_ | refine VO_chk ?_ | refine VO_go ?_ | refine VO_gx ?_ | refine G_cond ?_); simp only [e1,go_sem]) | refine VO_end ?_ | refine Sh.intro ?_ | (refine And.intro (fun _ => ?_) (fun _ => ?_) <;> try (exfalso; omega)) | ((first | refine G_fin ?_ | refine G_ret rfl ?_); simp only [e1,or_self,Qs,Qt,Qu,Qv,Qw,Qx,Qy,Qz,Za,go_sem]))
    all_goals simp
  ·have e : chk g = some (-1,70) := by unfold chk checkR; rw [if_neg h1,if_pos h2]
   rw [e]
   repeat' (first | refine Gx rfl ?_ | ((first | refine G_reg ?_ | refine G_regv ?_ | refine VO_chk ?_ | refine VO_go ?_ | refine VO_gx ?_ | refine G_cond ?_); simp only [go_sem]) | refine VO_end ?_ | refine Sh.intro ?_ | (refine And.intro (fun _ => ?_) (fun _ => ?_) <;> try (exfalso; omega)) | ((first | refine G_fin ?_ | refine G_ret rfl ?_); simp only [or_self,Qs,Qt,Qu,Qv,Qw,Qx,Qy,Qz,Za,go_sem]))
   all_goals first | (exfalso; omega) | simp
theorem same7 (g h : Gr) (hg : g.l.length <= 1000) : Does QP gp 25 [g.v,h.v] (vb (decide (g = h))) := by
 refine f25_in ?_
 simp only [go_sem]
 have ne1 : g.root ≠ h.root -> false = decide (g = h) := fun hr => by
  have : g ≠ h := fun e => hr (by rw [e])
  simp [this]
 have ne2 : g.l ≠ h.l -> false = decide (g = h) := fun hr => by
  have : g ≠ h := fun e => hr (by rw [e])
  simp [this]
 repeat' (first | refine Gx rfl ?_ | ((first | refine G_reg ?_ | refine G_regv ?_ | refine VO_chk ?_ | refine VO_go ?_ | refine VO_gx ?_ | refine G_cond ?_); simp only [go_sem]) | refine VO_end ?_ | refine Sh.intro ?_ | (refine And.intro (fun _ => ?_) (fun _ => ?_) <;> try (exfalso; omega)) | ((first | refine G_fin ?_ | refine G_ret rfl ?_); simp only [or_self,Qs,Qt,Qu,Qv,Qw,Qx,Qy,Qz,Za,go_sem]))
 ·rename_i h1 h2
  exact ne2 (ne_len h2)
 ·rename_i h1 h2
  have hroot : g.root = h.root := by simpa using h1
  have hlen : g.l.length = h.l.length := by simp at h2; omega
  refine G_weak (fr 67 [(2,.one (.d (.bx [.int .i64 g.root,.sl (nds g.l)]))),(3,.one (.d (.bx [.int .i64 h.root,.sl (nds h.l)]))),(5,vi (0 : Nat))]) (by (simp only [go_sem]; repeat' (first | refine And.intro ?_ ?_ | exact Or.inl rfl | exact Or.inr rfl | rfl))) ?_
  refine G_loop (fun mz sz => ∃ i : Nat,i <= g.l.length /\ mz = g.l.length - i /\ (g.l.take i = h.l.take i) /\ sz = ⟨fr 67 [(2,.one (.d (.bx [.int .i64 g.root,.sl (nds g.l)]))),(3,.one (.d (.bx [.int .i64 h.root,.sl (nds h.l)]))),(5,vi i)],[]⟩) (g.l.length) ⟨0,Nat.zero_le _,(Nat.sub_zero _).symm,?_,rfl⟩ ?_
  ·simp
  rintro _ _ ⟨i,hi,rfl,hz,rfl⟩
  simp only [go_sem]
  by_cases hil : i < g.l.length
  ·obtain ⟨x,hx⟩ := at_lt hil
   obtain ⟨y,hy⟩ := at_lt (l := h.l) (i := i) (by omega)
   have e1 : decide ((i : Int) < (g.l.length : Int)) = true := decide_eq_true (by omega)
   have bad : x ≠ y -> false = decide (g = h) := fun hxy => ne2 (ne_at hx hy hxy)
   have c1 := scs_same (gp := gp) x.keys y.keys
   have c2 := ints_eq (gp := gp) x.kids y.kids
   repeat' (first | refine Gx rfl ?_ | ((first | refine G_reg ?_ | refine G_regv ?_ | refine VO_chk ?_ | refine VO_go ?_ | refine VO_gx ?_ | refine G_cond ?_); simp only [e1,sc_eq,go_sem]) | refine VO_end ?_ | refine Sh.intro ?_ | refine ⟨_,c1,Sh.intro ?_⟩ | refine ⟨_,⟨c1,rfl⟩,Sh.intro ?_⟩ | refine ⟨_,c2,Sh.intro ?_⟩ | refine ⟨_,⟨c2,rfl⟩,Sh.intro ?_⟩ | refine ⟨_,⟨Int.natCast_nonneg _,(by first | exact map_at hx | (rw [Int.toNat_natCast]; exact map_at hx)),rfl⟩,Sh.intro ?_⟩ | refine ⟨_,⟨Int.natCast_nonneg _,(by first | exact map_at hy | (rw [Int.toNat_natCast]; exact map_at hy)),rfl⟩,Sh.intro ?_⟩ | (refine And.intro (fun _ => ?_) (fun _ => ?_) <;> try (exfalso; omega)) | ((first | refine G_fin ?_ | refine G_ret rfl ?_); simp only [e1,sc_eq,or_self,Qs,Qt,Qu,Qv,Qw,Qx,Qy,Qz,Za,go_sem]))
   all_goals first | (exact bad (fun e => by subst e; simp_all; done)) | skip
   rename_i q1 q2 q3 q4
   have hxy : x = y := by
    cases x; cases y
    simp at q1 q2 q3 q4
    simp [q1,q2,q3,q4]
   refine ⟨inK_nat hil (by unfold lenMax; omega),?_⟩
   refine G_weak (fr 67 [(2,.one (.d (.bx [.int .i64 g.root,.sl (nds g.l)]))),(3,.one (.d (.bx [.int .i64 h.root,.sl (nds h.l)]))),(5,vi (i + 1))]) (by (simp only [go_sem]; repeat' (first | refine And.intro ?_ ?_ | exact Or.inl rfl | exact Or.inr rfl | rfl))) ?_
   refine G_drop 0 (by simp only [List.length_nil,List.length_cons]; decide) (by simp only [go_sem]) (by simp only [go_sem]) ?_
   simp only [go_sem]
   refine G_again ⟨g.l.length - (i + 1),by omega,i + 1,by omega,rfl,?_,rfl⟩
   exact take_eq hz hx hy hxy
  ·have e1 : decide ((i : Int) < (g.l.length : Int)) = false := decide_eq_false (by omega)
   have hl : g.l = h.l := by rw [List.take_of_length_le (by omega),List.take_of_length_le (by omega)] at hz; exact hz
   repeat' (first | refine Gx rfl ?_ | ((first | refine G_reg ?_ | refine G_regv ?_ | refine VO_chk ?_ | refine VO_go ?_ | refine VO_gx ?_ | refine G_cond ?_); simp only [e1,go_sem]) | refine VO_end ?_ | refine Sh.intro ?_ | (refine And.intro (fun _ => ?_) (fun _ => ?_) <;> try (exfalso; omega)) | ((first | refine G_fin ?_ | refine G_ret rfl ?_); simp only [e1,or_self,Qs,Qt,Qu,Qv,Qw,Qx,Qy,Qz,Za,go_sem]))
   rw [<- gr_eq]; simp [hroot,hl]
 ·rename_i h1
  exact ne1 (by simpa using h1)
end Go.Fw.L07
