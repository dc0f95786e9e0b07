/- Lemmas of this claim: GetInt, Reader, Names, Record, Record2, Judge, MkL, Entry, RawNames. Conditions: as named. -/
import Derived.Deep.RegionHeld3
import Derived.Sort.Walk0
import Derived.Deep.Slices
import Derived.Deep.Strs
import Derived.Lib.SmallJoins
import Derived.OpenShut
import Derived.ProofKit
import Derived.WalkKit
import Derived.Test.YtnbclgbicnpmnaaGreatRows
import Derived.Test.YtnbclgbicnpmnaaGreatA02
import Derived.Test.YtnbclgbicnpmnaaGreatA03
namespace Go.Proofs.YtnbclgbicnpmnaaGreat
open Go.RowKit Go.Sort
open List renaming getElem?_eq_getElem → Zz, mem_of_getElem? → Zy, getElem?_cons_zero → Zx, length_append → Zs, getElem?_eq_some_iff → Zr, length_take → Zp, length_cons → Zl, mem_append → Zj, not_mem_nil → Zh, mem_cons → Zg, getElem?_append_right → Zd, take_add_one → Za, length_drop → Z8
open Lib renaming hid → Yw
open Go renaming bodyPost_ret → Yt
open IntWalk renaming i64_in → Yq
open Nat renaming le_refl → Yo
open Ext renaming refl → Yl, alloc → Yk, drewN → Yj, drew → Yi, trans → Yh
set_option maxHeartbeats 40000000
set_option maxRecDepth 100000
set_option linter.all false
theorem Znw (k:Nat):(2:Nat) ^ (7 * k)=128 ^ k:=by rw [Nat.pow_mul]
theorem Zqa {n:Nat} (hn:n < 256):bits .and .u8 (n:Int) 127=((n % 128:Nat):Int):=by
 have h:=u8_and_nat n 127 hn (by omega)
 rw [show ((127:Nat):Int)=127 from rfl] at h
 rw [h]
 have:∀ y,y < 256→y &&& 127=y % 128:=by decide
 rw [this n hn]
theorem Zvb {acc k n:Nat} (ha:acc < 128 ^ k) (hk:k≤9) (hn:n < 256) (h9:k=9→n≤1) :
 bits .or .u64 (acc:Int) (IntKind.u64.wrap (IntKind.u64.wrap (bits .and .u8 (n:Int) 127) * 2 ^ (7 * k)))=((acc+n % 128 * 128 ^ k:Nat):Int):=by
 have hm:n % 128 < 128:=Nat.mod_lt _ (by omega)
 have hp:(128:Nat) ^ k≤128 ^ 9:=Nat.pow_le_pow_right (by omega) hk
 have hb:n % 128 * 128 ^ k < 18446744073709551616:=by
  by_cases h:k=9
  ·subst h
   have:=h9 rfl
   have:n % 128≤1:=by omega
   have:=Nat.mul_le_mul_right (128 ^ 9) this
   omega
  have h8:(128:Nat) ^ k≤128 ^ 8:=Nat.pow_le_pow_right (by omega) (by omega)
  have:=Nat.mul_le_mul (show n % 128≤127 by omega) h8
  omega
 have ha2:acc < 18446744073709551616:=by omega
 have e1:IntKind.u64.wrap (IntKind.u64.wrap (bits .and .u8 (n:Int) 127) * 2 ^ (7 * k))=((n % 128 * 128 ^ k:Nat):Int):=by
  have e0:((n % 128:Nat):Int) % 18446744073709551616=((n % 128:Nat):Int):=by omega
  have e2:((n % 128:Nat):Int) * 2 ^ (7 * k)=((n % 128 * 128 ^ k:Nat):Int):=by
   rw [← Znw k,Int.natCast_mul,Int.natCast_pow];rfl
  rw [Zqa hn,IntKind.wrap_u64,IntKind.wrap_u64,e0,e2]
  obtain ⟨q,hq⟩:∃ q,n % 128 * 128 ^ k=q:=⟨_,rfl⟩
  rw [hq] at hb ⊢
  omega
 rw [e1]
 have h:=u64_or_nat acc (n % 128 * 128 ^ k) ha2 hb
 rw [h]
 congr 1
 rw [← Znw,Nat.or_comm,← Nat.shiftLeft_eq,Nat.add_comm]
 exact (Nat.shiftLeft_add_eq_or_of_lt (by rw [Znw];exact ha) _).symm
theorem Pw (a:Nat) (ha:a < 9223372036854775808):bits .xor .i64 (a:Int) 0=(a:Int):=by
 show IntKind.i64.wrap ((BitVec.ofInt 64 (a:Int) ^^^ BitVec.ofInt 64 0).toNat:Int)=_
 have h1:BitVec.ofInt 64 0=0#64:=by decide
 rw [h1,BitVec.xor_zero,ofInt_u64 a (by omega)]
 simp [IntKind.wrap,IntKind.bits,IntKind.signed]
 omega
theorem Pu (a:Nat) (ha:a < 9223372036854775808):bits .xor .i64 (a:Int) (-1) = -1 - (a:Int):=by
 show IntKind.i64.wrap ((BitVec.ofInt 64 (a:Int) ^^^ BitVec.ofInt 64 (-1)).toNat:Int)=_
 have h1:BitVec.ofInt 64 (-1)=BitVec.allOnes 64:=by decide
 rw [h1,BitVec.xor_allOnes,BitVec.toNat_not,ofInt_u64 a (by omega)]
 simp [IntKind.wrap,IntKind.bits,IntKind.signed]
 omega
theorem Zw8 {z:Nat} (hz:z < 18446744073709551616):bits BinOp.xor IntKind.i64 (wrap64 ((z:Int) / 2)) (wrap64 (-wrap64 (bits BinOp.and IntKind.u64 (z:Int) 1)))=Zvv z:=by
 have e1:wrap64 ((z:Int) / 2)=((z / 2:Nat):Int):=by unfold wrap64;omega
 rw [and_one_u64 (z:Int) (by omega) (by omega),e1]
 unfold Zvv
 by_cases h:z % 2=0
 ·have e2:(z:Int) % 2=0:=by omega
  rw [e2,if_pos h]
  have e3:wrap64 (-wrap64 0)=0:=by simp [wrap64]
  rw [e3]
  exact Pw _ (by omega)
 have e2:(z:Int) % 2=1:=by omega
 rw [e2,if_neg h]
 have e3:wrap64 (-wrap64 1) = -1:=by simp [wrap64]
 rw [e3,Pu _ (by omega)]
 omega
def GetPost (s:ByteArray) (at_:Nat) (w:World) (e:Ending) (w':World):Prop :=
 w'=w∧((∃ v k,Pm (s.data.toList.drop at_)=some (v,k)∧e=.returned (.tuple #[.int .i64 v,.int .i64 ((at_+k:Nat):Int),.int .i64 0])) ∨
  (Pm (s.data.toList.drop at_)=none∧∃ c:Int,c≠0∧e=.returned (.tuple #[.int .i64 0,.int .i64 (at_:Int),.int .i64 c])))
def Zr7 (L:List UInt8) (acc k:Nat):Prop:=acc < 128 ^ k∧Pn 0 0 L=Pn k acc (L.drop k)
theorem Mo (s:ByteArray) (at_:Nat) (hat:at_≤s.size) (hs:s.size≤140737488355328) (w:World) :
 Calls Tryz.prog 168 #[.string s,.int .i64 (at_:Int)] w (GetPost s at_ w):=by
 have hd0:decide ((at_:Int) < 0)=false:=by simp
 have hd1:decide ((s.size:Int) < (at_:Int))=false:=by simp;omega
 have hd2:¬ ((s.size:Int) < (at_:Int)):=by omega
 obtain ⟨L,hL⟩:∃ L,s.data.toList.drop at_=L:=⟨_,rfl⟩
 have hLl:L.length=s.size - at_:=by rw [← hL,Z8];rfl
 have HL:=Yw hL
 clear hL
 go_enter Tryz.func168,Tryz.ntmps168
 go_wp2_with fail
 go_loopw [7,8] (fun x i wr=>∃ acc k:Nat,k≤9∧x=.int .u64 (acc:Int)∧i=.int .i64 (k:Int)∧Zr7 L acc k∧at_+k≤s.size∧wr=w) (fun _ i _=>(10 - intOf i).toNat)
 case atStart=>exact ⟨0,0,by omega,rfl,rfl,⟨by simp,by simp⟩,by omega,rfl⟩
 obtain ⟨acc,k,hk,rfl,rfl,hrel,hkl,rfl⟩:=hrel
 have Hrel:=Yw hrel
 clear hrel
 by_cases hlt:at_+k < s.size
 ·have hd3:decide ((s.size:Int)≤(at_:Int)+(k:Int))=false:=by simp;omega
  have hd4:¬ ((s.size:Int)≤(at_:Int)+(k:Int)):=by omega
  obtain ⟨c,hc⟩:∃ c,s.data.toList[at_+k]?=some c:=⟨_,Zz (by simpa using hlt)⟩
  have hlv:∀ h,(s[at_+k]'h).toNat=c.toNat:=fun h=>by
   have:s[at_+k]=c:=by
    obtain ⟨h1,h2⟩:=Zr.1 hc
    rw [← h2];simp [ByteArray.getElem_eq_getElem_data]
   rw [this]
  have hstep:L.drop k=c::L.drop (k+1):=by
   rw [← HL.out,List.drop_drop,List.drop_drop]
   rw [List.drop_eq_getElem_cons (by simpa using hlt)]
   congr 1
   obtain ⟨h1,h2⟩:=Zr.1 hc
   exact h2
  have hc256:=UInt8.toNat_lt c
  obtain ⟨n,hn⟩:∃ n,c.toNat=n:=⟨_,rfl⟩
  rw [hn] at hlv hc256
  have Hn:=Yw hn
  have Hstep:=Yw hstep
  have hget:Pn k acc (L.drop k)=if k=9∧1 < n then none else if 128≤n then Pn (k+1) (acc+n % 128 * 128 ^ k) (L.drop (k+1)) else if n=0∧0 < k then none else some (acc+n * 128 ^ k,k+1):=by
   rw [hstep,Pn,hn]
  have hI:Pm L=(Pn k acc (L.drop k)).map fun p=>(Zvv p.1,p.2):=by unfold Pm;rw [Hrel.out.2]
  rw [hget] at hI
  have HI:=Yw hI
  clear hc hstep hn hget hI
  by_cases hA:k=9∧1 < n
  ·obtain ⟨rfl,hn1⟩:=hA
   have Hno:=Yw (show Pm L=none by rw [HI.out,if_pos ⟨rfl,hn1⟩];rfl)
   clear HI
   go_wp2_with fail
   go_ret3
   exact ⟨rfl,.inr ⟨by rw [HL.out];exact Hno.out,4,by omega,rfl⟩⟩
  by_cases hB:128≤n
  ·have hk9:¬ k=9:=fun e=>hA ⟨e,by omega⟩
   have hk9':((k:Int) == 9)=false:=by simp;omega
   have hor:=Zvb (n:=n) Hrel.out.1 hk hc256 (fun e=>absurd e hk9)
   have hlt2:acc+n % 128 * 128 ^ k < 128 ^ (k+1):=by
    have h1:=Hrel.out.1
    have h2:=Nat.mul_le_mul_right (128 ^ k) (show n % 128≤127 by omega)
    rw [Nat.pow_succ];omega
   have hp:(128:Nat) ^ (k+1)≤128 ^ 9:=Nat.pow_le_pow_right (by omega) (by omega)
   have hrel2:Pn 0 0 L=Pn (k+1) (acc+n % 128 * 128 ^ k) (L.drop (k+1)):=by
    rw [Hrel.out.2,Hstep.out,Pn,Hn.out,if_neg hA,if_pos hB]
   obtain ⟨z,hz⟩:∃ z,acc+n % 128 * 128 ^ k=z:=⟨_,rfl⟩
   rw [hz] at hor hlt2 hrel2
   have Hend:=Yw (show Zr7 L z (k+1) from ⟨hlt2,hrel2⟩)
   clear hz hlt2 hrel2 hp hA HI
   go_wp2_with fail
   go_roundw
   case rel=>exact ⟨z,k+1,by omega,rfl,by go_num,Hend.out,by omega,trivial⟩
   case measure=>simp [intOf];omega
  by_cases hC:n=0∧0 < k
  ·obtain ⟨rfl,hk0⟩:=hC
   have Hno:=Yw (show Pm L=none by rw [HI.out,if_neg hA,if_neg hB,if_pos ⟨rfl,hk0⟩];rfl)
   clear HI hA
   go_wp2_with fail
   all_goals (go_ret3;exact ⟨rfl,.inr ⟨by rw [HL.out];exact Hno.out,4,by omega,rfl⟩⟩)
  have hor:=Zvb (n:=n) Hrel.out.1 hk hc256 (fun e=>by have:=fun h=>hA ⟨e,h⟩;omega)
  have hnm:n % 128=n:=by omega
  rw [hnm] at hor
  have hz64:acc+n * 128 ^ k < 18446744073709551616:=by
   have h1:=Hrel.out.1
   have hp:(128:Nat) ^ k≤128 ^ 9:=Nat.pow_le_pow_right (by omega) hk
   by_cases h:k=9
   ·have h2:n≤1:=by have:=fun h'=>hA ⟨h,h'⟩;omega
    subst h
    have:=Nat.mul_le_mul_right (128 ^ 9) h2
    omega
   have h8:(128:Nat) ^ k≤128 ^ 8:=Nat.pow_le_pow_right (by omega) (by omega)
   have:=Nat.mul_le_mul (show n≤127 by omega) h8
   omega
  have Hyes:=Yw (show Pm L=some (Zvv (acc+n * 128 ^ k),k+1) by rw [HI.out,if_neg hA,if_neg hB,if_neg hC];rfl)
  obtain ⟨z,hz⟩:∃ z,acc+n * 128 ^ k=z:=⟨_,rfl⟩
  rw [hz] at hor hz64 Hyes
  have hfin:=Zw8 hz64
  have hfin2:bits BinOp.xor IntKind.i64 ((z:Int) / 2) (wrap64 (-wrap64 (bits BinOp.and IntKind.u64 (z:Int) 1)))=Zvv z:=by
   rw [← hfin];congr 1;unfold wrap64;omega
  have Hfin:=Yw hfin
  have Hfin2:=Yw hfin2
  clear hfin hfin2
  clear hz HI hnm
  by_cases h0:n=0
  ·subst h0
   obtain rfl:k=0:=by have:=fun h=>hC ⟨rfl,h⟩;omega
   have hlv0:∀ h,(s[at_]'h).toNat=0:=fun h=>hlv h
   have hor3:bits .or .u64 (acc:Int) (IntKind.u64.wrap (IntKind.u64.wrap (bits .and .u8 0 127)))=(z:Int):=by simpa using hor
   clear hA hC hlv hor
   go_wp2_with fail
   go_ret3
   exact ⟨rfl,.inl ⟨_,_,by rw [HL.out];exact Hyes.out,by first|(rw [Hfin.out];rfl)|(rw [Hfin2.out];rfl)⟩⟩
  by_cases h9:k=9
  ·obtain rfl:n=1:=by have:=fun h=>hA ⟨h9,h⟩;omega
   subst h9
   have hor2:bits .or .u64 (acc:Int) (IntKind.u64.wrap (IntKind.u64.wrap (bits .and .u8 1 127) * 9223372036854775808))=(z:Int):=hor
   clear hA hC hor
   go_wp2_with fail
   go_ret3
   exact ⟨rfl,.inl ⟨_,_,by rw [HL.out];exact Hyes.out,by first|(rw [Hfin.out];rfl)|(rw [Hfin2.out];rfl)⟩⟩
  clear hA hC
  go_wp2_with fail
  go_ret3
  exact ⟨rfl,.inl ⟨_,_,by rw [HL.out];exact Hyes.out,by first|(rw [Hfin.out];rfl)|(rw [Hfin2.out];rfl)⟩⟩
 have hd3:decide ((s.size:Int)≤(at_:Int)+(k:Int))=true:=by simp;omega
 have hd4:((s.size:Int)≤(at_:Int)+(k:Int)):=by omega
 have Hno:=Yw (show Pm L=none by unfold Pm;rw [Hrel.out.2,List.drop_eq_nil_of_le (by omega)];rfl)
 go_wp2_with fail
 go_ret3
 exact ⟨rfl,.inr ⟨by rw [HL.out];exact Hno.out,5,by omega,rfl⟩⟩
theorem To {s:ByteArray} {t:Nat} {v:Int} {k:Nat} (hg:Pm (s.data.toList.drop t)=some (v,k)) (ht:t≤s.size) (hs:s.size≤140737488355328) (w:World) :
 Calls Tryz.prog 168 #[.string s,.int .i64 (t:Int)] w fun e w'=>e=.returned (.tuple #[.int .i64 v,.int .i64 ((t+k:Nat):Int),.int .i64 0])∧w=w':=by
 refine (Mo s t ht hs w).mono ?_
 rintro e w1 ⟨rfl,⟨v',k',h,rfl⟩ | ⟨h,_⟩⟩
 ·rw [hg] at h;simp only [Yd,Prod.mk.injEq] at h;obtain ⟨rfl,rfl⟩:=h;exact ⟨rfl,rfl⟩
 rw [hg] at h;simp at h
theorem Sw {s:ByteArray} {t:Nat} (hg:Pm (s.data.toList.drop t)=none) (ht:t≤s.size) (hs:s.size≤140737488355328) (w:World) :
 Calls Tryz.prog 168 #[.string s,.int .i64 (t:Int)] w fun e w'=>∃ c:Int,(c == 0)=false∧e=.returned (.tuple #[.int .i64 0,.int .i64 (t:Int),.int .i64 c])∧w=w':=by
 refine (Mo s t ht hs w).mono ?_
 rintro e w1 ⟨rfl,⟨v',k',h,rfl⟩ | ⟨_,c,hc,rfl⟩⟩
 ·rw [hg] at h;simp at h
 exact ⟨c,by simpa using hc,rfl,rfl⟩
def Jz (w:World) (b:Nat) (s:ByteArray) (t:Nat) (bad:Bool):Prop :=
 b < w.heap.size∧(∀ i,w.frozen? ⟨b,i,none⟩=false)∧w.cell? ⟨b,0,none⟩=some (.string s)∧w.cell? ⟨b,1,none⟩=some (.int .i64 (t:Int))∧w.cell? ⟨b,2,none⟩=some (.bool bad)
theorem Jz.chg {S:Nat→Prop} {w w':World} {b t:Nat} {s:ByteArray} {bad:Bool} (h:Jz w b s t bad) (c:Chg S w w') (hb:¬ S b):Jz w' b s t bad:=by
 obtain ⟨h1,h2,h3,h4,h5⟩:=h
 exact ⟨Nat.lt_of_lt_of_le h1 c.size,fun i=>(c.frozen (p:=⟨b,i,none⟩) h1 hb).trans (h2 i),(c.cell (p:=⟨b,0,none⟩) h1 hb).trans h3,(c.cell (p:=⟨b,1,none⟩) h1 hb).trans h4,(c.cell (p:=⟨b,2,none⟩) h1 hb).trans h5⟩
theorem Jz.ext {w w':World} {b t:Nat} {s:ByteArray} {bad:Bool} (h:Jz w b s t bad) (x:Ext w w'):Jz w' b s t bad:=h.chg (x.chg (fun _=>False)) (fun h=>h)
def Bd (b:Nat) (s:ByteArray) (t:Nat) (bad:Bool) (w:World) (e:Ending) (w':World):Prop :=
 e=.returned (.int .i64 (Ul s.data.toList t bad).1)∧Jz w' b s (Ul s.data.toList t bad).2.1 (Ul s.data.toList t bad).2.2∧Chg (· = b) w w'
theorem Vc (n lo hi:Int) (w:World):Calls Tryz.prog 154 #[.int .i64 n,.int .i64 lo,.int .i64 hi] w fun e w'=>e=.returned (.bool (decide (lo≤n) && decide (n≤hi)))∧w=w':=by
 by_cases h:lo≤n
 ·have hd:decide (lo≤n)=true:=by simpa using h
  go_enter Tryz.func154,Tryz.ntmps154
  go_wp2
  go_ret
  simp_all
 have hd:decide (lo≤n)=false:=by simpa using h
 go_enter Tryz.func154,Tryz.ntmps154
 go_wp2
 go_ret
 simp_all
theorem Jz.move {w:World} {b t t':Nat} {s:ByteArray} {bad:Bool} (h:Jz w b s t bad) {n:Int} (hn:n=(t':Int)):Jz (w.setCell ⟨b,1,none⟩ (.int .i64 n)) b s t' bad:=by
 subst hn
 obtain ⟨h1,h2,h3,h4,h5⟩:=h
 exact ⟨by simpa [World.setCell] using h1,fun i=>by go_simp,by go_simp,by go_simp,by go_simp⟩
theorem Jz.turn {w:World} {b t:Nat} {s:ByteArray} {bad:Bool} (h:Jz w b s t bad):Jz (w.setCell ⟨b,2,none⟩ (.bool true)) b s t true:=by
 obtain ⟨h1,h2,h3,h4,h5⟩:=h
 exact ⟨by simpa [World.setCell] using h1,fun i=>by go_simp,by go_simp,by go_simp,by go_simp⟩
theorem Jz.drew {w:World} {b t:Nat} {s:ByteArray} {bad:Bool} (h:Jz w b s t bad):Jz w.drew b s t bad:=h
theorem Qw (b:Nat) (s:ByteArray) (t:Nat) (bad:Bool) (ht:t≤s.size) (hs:s.size≤140737488355328) (w:World) (hr:Jz w b s t bad) :
 Calls Tryz.prog 133 #[.pointer (some ⟨b,0,none⟩)] w (Bd b s t bad w):=by
 have Hr:=Yw hr
 obtain ⟨hb,hf,h0,h1,h2⟩:=hr
 cases bad
 ·rcases hg:Pm (s.data.toList.drop t) with _ | ⟨v,k⟩
  ·have Hn:=Yw (show Ul s.data.toList t false=(0,t,true) by simp only [Ul,hg];rfl)
   have Hg:=Yw hg
   clear hg
   go_enter Tryz.func133,Tryz.ntmps133
   go_wp2_with fail
   go_region_held3 (fun w'=>w'.cell? ⟨b,0,none⟩=some (.string s)∧w'.cell? ⟨b,1,none⟩=some (.int .i64 (t:Int))∧w'.cell? ⟨b,2,none⟩=some (.bool false)) (go_keep)
    (first|(go_at_call 168;refine (Sw Hg.out ht hs _).mono ?_;rintro e w1 ⟨c,hc,rfl,rfl⟩))
   go_wp2_with fail
   go_ret
   refine ⟨by rw [Hn.out];rfl,?_,?_⟩
   ·rw [Hn.out];exact Hr.out.turn.drew
   exact ((Chg.refl (· = b) w).setCell (p:=⟨b,2,none⟩) (.inl rfl) _).drew
  have Hn:=Yw (show Ul s.data.toList t false=(v,t+k,false) by simp only [Ul,hg];rfl)
  have Hg:=Yw hg
  clear hg
  go_enter Tryz.func133,Tryz.ntmps133
  go_wp2_with fail
  go_region_held3 (fun w'=>w'.cell? ⟨b,0,none⟩=some (.string s)∧w'.cell? ⟨b,1,none⟩=some (.int .i64 (t:Int))∧w'.cell? ⟨b,2,none⟩=some (.bool false)) (go_keep)
   (first|(go_at_call 168;refine (To Hg.out ht hs _).mono ?_;rintro e w1 ⟨rfl,rfl⟩))
  go_wp2_with fail
  go_ret
  refine ⟨by rw [Hn.out];rfl,?_,?_⟩
  ·rw [Hn.out];exact (Hr.out.move (by simp)).drew
  exact ((Chg.refl (· = b) w).setCell (p:=⟨b,1,none⟩) (.inl rfl) _).drew
 go_enter Tryz.func133,Tryz.ntmps133
 go_wp2_with fail
 go_ret
 exact ⟨rfl,Hr.out,Chg.refl _ _⟩
def Ea (b:Nat) (s:ByteArray) (t:Nat) (bad:Bool) (w:World) (e:Ending) (w':World):Prop :=
 e=.returned (.string (bs (Vl s.data.toList t bad).1))∧Jz w' b s (Vl s.data.toList t bad).2.1 (Vl s.data.toList t bad).2.2∧Chg (· = b) w w'
theorem Dw (b:Nat) (s:ByteArray) (t:Nat) (bad:Bool) (ht:t≤s.size) (hs:s.size≤140737488355328) (w:World) (hr:Jz w b s t bad) :
 Calls Tryz.prog 132 #[.pointer (some ⟨b,0,none⟩)] w (Ea b s t bad w):=by
 have hsl:s.data.toList.length=s.size:=rfl
 obtain ⟨n,t1,b1,hp⟩:∃ n t1 b1,Ul s.data.toList t bad=(n,t1,b1):=⟨_,_,_,rfl⟩
 have hle:=Jq (s:=s.data.toList) (t:=t) (b:=bad) (by omega)
 have hbd:=Fq s.data.toList t bad
 rw [hp] at hle hbd
 simp only at hle hbd
 have hnp:Bd b s t bad w=fun e w'=>e=.returned (.int .i64 n)∧Jz w' b s t1 b1∧Chg (· = b) w w':=by unfold Bd;rw [hp]
 have Hp:=Yw hp
 have Hnum:=Yw (hnp ▸ Qw b s t bad ht hs w hr)
 have hws:IntKind.i64.wrap ((s.size:Int) - (t1:Int))=(s.size:Int) - (t1:Int):=Yq _ (by omega)
 clear hp hnp hr
 by_cases hb1:b1=true∨n < 0∨(s.size - t1:Nat) < n
 ·have Ht:=Yw (show Vl s.data.toList t bad=([],t1,true) by unfold Vl;rw [Hp.out];simp only;rw [hsl,if_pos hb1])
  have Hend:=Yw (show ∀ w' w2,Jz w' b s t1 b1→Chg (· = b) w w'→w2=(w'.setCell ⟨b,2,none⟩ (.bool true)).drew→Ea b s t bad w (.returned (.string ⟨#[]⟩)) w2 by
   rintro w' w2 h1 h2 rfl
   refine ⟨by rw [Ht.out];rfl,by rw [Ht.out];exact h1.turn.drew,(h2.setCell (p:=⟨b,2,none⟩) (.inl rfl) _).drew⟩)
  go_enter Tryz.func132,Tryz.ntmps132
  go_wp2_with fail
  refine Hnum.out.mono ?_
  rintro e w1 ⟨rfl,hr1,hc1⟩
  have HE:=Yw (Hend.out w1 _ hr1 hc1 rfl)
  obtain ⟨g1,g2,h0,h1,h2⟩:=hr1
  clear Hend Hnum hc1
  rcases b1 with _|_
  ·have hn:n < 0∨(s.size - t1:Nat) < n:=by simpa using hb1
   have hwf:(decide (0≤n) && decide (n≤(s.size:Int) - (t1:Int)))=false:=by rcases hn with h|h<;>simp<;>omega
   clear hb1
   go_wp2_with fail
   go_region_held3 (fun w'=>w'.cell? ⟨b,0,none⟩=some (.string s)∧w'.cell? ⟨b,1,none⟩=some (.int .i64 (t1:Int))∧w'.cell? ⟨b,2,none⟩=some (.bool false)) (go_keep)
    (first|(go_at_call 154;refine (Vc _ _ _ _).mono ?_;rintro e w2 ⟨rfl,rfl⟩;rw [hwf]))
   go_wp2_with fail
   go_ret
   exact HE.out
  clear hb1
  go_wp2_with fail
  go_region
  go_wp2_with fail
  go_ret
  exact HE.out
 have hb2:b1=false:=by simpa using fun h=>hb1 (.inl h)
 subst hb2
 have hn0:0≤n:=Int.not_lt.1 fun h=>hb1 (.inr (.inl h))
 have hn1:n≤(s.size - t1:Nat):=Int.not_lt.1 fun h=>hb1 (.inr (.inr h))
 have Ht:=Yw (show Vl s.data.toList t bad=((s.data.toList.drop t1).take n.toNat,t1+n.toNat,false) by unfold Vl;rw [Hp.out];simp only;rw [hsl,if_neg hb1])
 obtain ⟨m,rfl⟩:∃ m:Nat,n=(m:Int):=⟨n.toNat,by omega⟩
 have hm:t1+m≤s.size:=by omega
 have hex:s.extract t1 (t1+m)=bs ((s.data.toList.drop t1).take m):=by
  apply ByteArray.ext
  rw [ByteArray.data_extract]
  apply Array.ext'
  rw [Array.toList_extract]
  show List.extract s.data.toList t1 (t1+m)=(s.data.toList.drop t1).take m
  rw [List.extract_eq_take_drop]
  congr 1
  omega
 rw [Int.toNat_natCast] at Ht
 have Hex:=Yw hex
 have hwf:(decide (0≤(m:Int)) && decide ((m:Int)≤(s.size:Int) - (t1:Int)))=true:=by simp;omega
 clear hb1 hex
 go_enter Tryz.func132,Tryz.ntmps132
 go_wp2_with fail
 refine Hnum.out.mono ?_
 rintro e w1 ⟨rfl,hr1,hc1⟩
 have Hc1:=Yw hc1
 have Hr1:=Yw hr1
 obtain ⟨g1,g2,h0,h1,h2⟩:=hr1
 clear Hnum hc1
 go_wp2_with fail
 go_region_held3 (fun w'=>w'.cell? ⟨b,0,none⟩=some (.string s)∧w'.cell? ⟨b,1,none⟩=some (.int .i64 (t1:Int))∧w'.cell? ⟨b,2,none⟩=some (.bool false)) (go_keep)
  (first|(go_at_call 154;refine (Vc _ _ _ _).mono ?_;rintro e w2 ⟨rfl,rfl⟩;rw [hwf]))
 have hw3:wrap64 ((t1:Int)+(m:Int))=((t1+m:Nat):Int):=by unfold wrap64;omega
 have hw4:IntKind.i64.wrap (((t1+m:Nat):Int) - (m:Int))=(t1:Int):=by rw [Yq _ (by omega)];omega
 have q0:(0:Int)≤(t1:Int):=by omega
 have q1:(t1:Int)≤((t1+m:Nat):Int):=by omega
 have q2:((t1+m:Nat):Int)≤(s.size:Int):=by omega
 go_wp2_with fail
 go_region
 go_wp2_with fail
 go_ret
 refine ⟨?_,by rw [Ht.out];exact (Hr1.out.move (by simp)).drew.drew,((Hc1.out.setCell (p:=⟨b,1,none⟩) (.inl rfl) _).drew).drew⟩
 rw [Ht.out]
 show Ending.returned (.string (s.extract t1 (t1+m)))=_
 rw [Hex.out]
def Q8 (n:Nm):List Value:=[.string n.a,.string n.u,.string n.k]
def Xb:List Nm→List Value
 | []=>[]
 | n::r=>Q8 n++Xb r
theorem Ko:∀ l:List Nm,(Xb l).length=l.length * 3
 | []=>rfl
 | n::r=>by rw [Xb,Zs,Ko r];simp [Q8];omega
theorem Q1:∀ a b:List Nm,Xb (a++b)=Xb a++Xb b
 | [],_=>rfl
 | n::r,b=>by simp [Xb,Q1 r b]
theorem F6:∀ {l:List Nm} {j:Nat} {n:Nm},l[j]?=some n→(Xb l)[j * 3]?=some (.string n.a)∧(Xb l)[j * 3+1]?=some (.string n.u)∧(Xb l)[j * 3+2]?=some (.string n.k)
 | m::r,0,n,h=>by
  simp only [Zx,Yd] at h
  subst h
  simp [Xb,Q8]
 | m::r,j+1,n,h=>by
  obtain ⟨h1,h2,h3⟩:=F6 (l:=r) (j:=j) (n:=n) (by simpa using h)
  have hm:(Q8 m).length=3:=rfl
  have e:∀ k,(Xb (m::r))[(j+1) * 3+k]?=(Xb r)[j * 3+k]?:=fun k=>by
   rw [Xb,Zd (by omega),hm]
   congr 1;omega
  refine ⟨?_,?_,?_⟩
  ·have:=e 0;simp only [Nat.add_zero] at this;rw [this,h1]
  ·rw [e 1,h2]
  rw [e 2,h3]
theorem P2 (l:List Nm):∀ u∈Xb l,u.oneCell'=true:=by
 induction l with
 | nil=>simp [Xb]
 | cons n r ih =>
  intro u hu
  rw [Xb,Zj] at hu
  rcases hu with hu|hu
  ·simp only [Q8,Zg,Zh,or_false] at hu
   rcases hu with rfl|rfl|rfl<;>rfl
  exact ih u hu
def Wq (w:World) (S:Nat→Prop) (v:Value) (l:List Nm):Prop:=Rd w S 3 v l.length (Xb l)
theorem Wq.get {w:World} {S:Nat→Prop} {v:Value} {l:List Nm} (h:Wq w S v l) {j:Nat} (hj:j < l.length) :
 ∃ g o c,v=.slice (some ⟨g,o,none⟩) l.length c∧l.length≤c∧c≤maxLen∧S g∧g < w.heap.size∧∀ i n,l[i]?=some n→w.cell? ⟨g,o+i * 3,none⟩=some (.string n.a)∧w.cell? ⟨g,o+i * 3+1,none⟩=some (.string n.u)∧w.cell? ⟨g,o+i * 3+2,none⟩=some (.string n.k):=by
 obtain ⟨g,o,c,h1,h2,h3,h4,h5,h6⟩:=h.at_ hj
 refine ⟨g,o,c,h1,h2,h3,h4,h5,fun i n hi=>?_⟩
 obtain ⟨q1,q2,q3⟩:=F6 hi
 exact ⟨h6 _ _ q1,by rw [Nat.add_assoc];exact h6 _ _ q2,by rw [Nat.add_assoc];exact h6 _ _ q3⟩
theorem Wq.ext {w w':World} {S:Nat→Prop} {v:Value} {l:List Nm} (h:Wq w S v l) (x:Ext w w'):Wq w' S v l:=Rd.ext h x
theorem Wq.shape {w:World} {S:Nat→Prop} {v:Value} {l:List Nm} (h:Wq w S v l):∃ A c,v=.slice A l.length c:=by
 obtain ⟨_,A,c,h,_⟩:=h
 exact ⟨A,c,h⟩
def Mn (n:Nm):List UInt8:=n.k.data.toList
theorem Sh:∀ l:List Nm,srt l=true↔∀ i a b,l[i]?=some a→l[i+1]?=some b→Mn a < Mn b
 | []=>by simp [srt]
 | [x]=>by simp [srt]
 | x::y::r=>by
  rw [srt,Bool.and_eq_true,decide_eq_true_eq,Sh (y::r)]
  constructor
  ·rintro ⟨h1,h2⟩ i a b ha hb
   cases i with
   | zero=>simp at ha hb;subst ha hb;exact h1
   | succ i=>exact h2 i a b (by simpa using ha) (by simpa using hb)
  intro h
  exact ⟨h 0 x y rfl rfl,fun i a b ha hb=>h (i+1) a b (by simpa using ha) (by simpa using hb)⟩
theorem Tt {x s:ByteArray} (h:s.data.toList < x.data.toList):Op.bytesLess x.toList s.toList=false∧(x.toList == s.toList)=false:=by
 rw [Go.Proofs.bytesLess_eq,ByteArray.toList_eq,ByteArray.toList_eq]
 exact ⟨by simpa using List.le_of_lt h,by simp;intro e;rw [e] at h;exact List.lt_irrefl _ h⟩
theorem Mf {x s:ByteArray} (h:¬ s.data.toList < x.data.toList):(Op.bytesLess x.toList s.toList || x.toList == s.toList)=true:=by
 rw [Go.Proofs.bytesLess_eq,ByteArray.toList_eq,ByteArray.toList_eq]
 by_cases e:x.data.toList=s.data.toList
 ·simp [e]
 have:=Ua (List.not_lt.1 h) e
 simp [this]
theorem Zys {S:Nat→Prop} (v:Value) (l:List Nm) (w:World) (hn:Wq w S v l) :
 Calls Tryz.prog 155 #[v] w fun e w'=>e=.returned (.bool (srt l))∧Ext w w':=by
 obtain ⟨A,c,rfl⟩:=hn.shape
 have hlm:=hn.len
 unfold maxLen at hlm
 have Hn:=Yw hn
 clear hn
 go_enter Tryz.func155,Tryz.ntmps155
 go_wp2_with fail
 go_loopw [3] (fun o wr=>∃ i:Nat,1≤i∧o=.int .i64 (i:Int)∧(∀ j a b,j+1 < i→l[j]?=some a→l[j+1]?=some b→Mn a < Mn b)∧(i=1∨i≤l.length)∧Ext w wr) (fun o _=>l.length+1 - (intOf o).toNat)
 case atStart=>exact ⟨1,Yo _,rfl,fun j a b h=>by omega,.inl rfl,Yl _⟩
 obtain ⟨i,hi,rfl,hso,hil,hx⟩:=hrel
 have Hso:=Yw hso
 have Hx:=Yw hx
 clear hso hx
 by_cases hlt:i < l.length
 ·have hd:decide ((i:Int) < (l.length:Int))=true:=by simpa using hlt
  obtain ⟨g,o,c',hv,hc1,hc2,_,hg,hcell⟩:=(Hn.out.ext Hx.out).get (j:=i) hlt
  simp only [Ye,true_and] at hv
  obtain ⟨rfl,rfl⟩:=hv
  obtain ⟨a,ha⟩:∃ a,l[i - 1]?=some a:=⟨l[i - 1],by simp⟩
  obtain ⟨b,hb⟩:∃ b,l[i]?=some b:=⟨l[i],by simp [hlt]⟩
  have c1:=(hcell _ _ ha).2.2
  have c2:=(hcell _ _ hb).2.2
  obtain ⟨p,rfl⟩:∃ p,i=p+1:=⟨i - 1,by omega⟩
  simp only [Nat.add_sub_cancel] at ha c1
  have q0:(0:Int)≤(p:Int):=by omega
  have q1:(p:Int) < (l.length:Int):=by omega
  have q2:(0:Int)≤((p+1:Nat):Int):=by omega
  have q3:((p+1:Nat):Int) < (l.length:Int):=by omega
  have q4:IntKind.i64.wrap (((p+1:Nat):Int) - 1)=(p:Int):=by rw [Yq _ (by omega)];omega
  have q5:c≤9223372036854775807:=by unfold maxLen at hc2;omega
  have Ha:=Yw ha
  have Hb:=Yw hb
  clear hcell ha hb
  by_cases hk:Mn a < Mn b
  ·obtain ⟨f1,f2⟩:=Tt hk
   have Hk:=Yw hk
   clear hk
   go_wp2_with fail
   go_region
   go_wp2_with fail
   go_roundw
   case rel =>
    refine ⟨p+2,by omega,by go_num,fun j x y hj hx hy=>?_,by omega,Hx.out.drew⟩
    by_cases hj2:j=p
    ·subst hj2
     rw [Ha.out] at hx
     rw [Hb.out] at hy
     simp only [Yd] at hx hy
     subst hx hy
     exact Hk.out
    exact Hso.out j x y (by omega) hx hy
   case measure=>simp [intOf];omega
  have f1:=Mf hk
  have Hno:=Yw (show srt l=false from by
   rw [← Bool.not_eq_true,Sh]
   intro h
   exact hk (h p a b Ha.out Hb.out))
  clear hk
  go_wp2_with fail
  go_region
  go_wp2_with fail
  go_ret
  exact ⟨by rw [Hno.out];rfl,Hx.out.drew⟩
 have hd:decide ((i:Int) < (l.length:Int))=false:=by simp;omega
 have Hall:=Yw (show srt l=true from (Sh l).2 fun j a b ha hb=>Hso.out j a b (by have:=(Zr.1 hb).1;omega) ha hb)
 go_wp2_with fail
 go_ret
 exact ⟨by rw [Hall.out];rfl,Hx.out⟩
def Wf (st op:Int):Int:=if op=1 then (if st=0 then 1 else 0) else if op=4∨op=5∨op=6 then (if st=0 then 0 else -1) else 0
theorem I2 (op:Int):op=1∨op=4∨op=5∨op=6∨(op≠1∧op≠4∧op≠5∧op≠6):=by omega
theorem Zok (op:Int):op=1∨op=2∨op=3∨op=4∨op=5∨op=6∨op=7∨(op < 1∨7 < op):=by omega
theorem Mk (st ow dl op:Int) (nm:ByteArray) (w:World) :
 Calls Tryz.prog 103 #[.agg #[.int .i64 st,.int .i64 ow,.string nm,.int .i64 dl],.int .i64 op] w fun e w'=>e=.returned (.int .i64 (Wf st op))∧Ext w w':=by
 by_cases hs:st=0
 ·subst hs
  rcases I2 op with rfl|rfl|rfl|rfl|h
  ·have H:=Yw (show Wf 0 1=1 by simp [Wf])
   go_enter Tryz.func103,Tryz.ntmps103
   go_wp2
   go_ret
   exact ⟨by rw [H.out];rfl,(by repeat' first|exact Yl _|assumption|apply Yk|apply Yj|apply Yi|(refine Yh ?_ (by assumption)))⟩
  ·have H:=Yw (show Wf 0 4=0 by simp [Wf])
   go_enter Tryz.func103,Tryz.ntmps103
   go_wp2
   go_ret
   exact ⟨by rw [H.out];rfl,(by repeat' first|exact Yl _|assumption|apply Yk|apply Yj|apply Yi|(refine Yh ?_ (by assumption)))⟩
  ·have H:=Yw (show Wf 0 5=0 by simp [Wf])
   go_enter Tryz.func103,Tryz.ntmps103
   go_wp2
   go_ret
   exact ⟨by rw [H.out];rfl,(by repeat' first|exact Yl _|assumption|apply Yk|apply Yj|apply Yi|(refine Yh ?_ (by assumption)))⟩
  ·have H:=Yw (show Wf 0 6=0 by simp [Wf])
   go_enter Tryz.func103,Tryz.ntmps103
   go_wp2
   go_ret
   exact ⟨by rw [H.out];rfl,(by repeat' first|exact Yl _|assumption|apply Yk|apply Yj|apply Yi|(refine Yh ?_ (by assumption)))⟩
  have H:=Yw (show Wf 0 op=0 by simp [Wf,h.1,h.2.1,h.2.2.1,h.2.2.2])
  obtain ⟨h1,h2,h3,h4⟩:=h
  go_enter Tryz.func103,Tryz.ntmps103
  go_wp2
  go_ret
  exact ⟨by rw [H.out];rfl,(by repeat' first|exact Yl _|assumption|apply Yk|apply Yj|apply Yi|(refine Yh ?_ (by assumption)))⟩
 rcases I2 op with rfl|rfl|rfl|rfl|h
 ·have H:=Yw (show Wf st 1=0 by simp [Wf,hs])
  go_enter Tryz.func103,Tryz.ntmps103
  go_wp2
  go_ret
  exact ⟨by rw [H.out];rfl,(by repeat' first|exact Yl _|assumption|apply Yk|apply Yj|apply Yi|(refine Yh ?_ (by assumption)))⟩
 ·have H:=Yw (show Wf st 4 = -1 by simp [Wf,hs])
  go_enter Tryz.func103,Tryz.ntmps103
  go_wp2
  go_ret
  exact ⟨by rw [H.out];rfl,(by repeat' first|exact Yl _|assumption|apply Yk|apply Yj|apply Yi|(refine Yh ?_ (by assumption)))⟩
 ·have H:=Yw (show Wf st 5 = -1 by simp [Wf,hs])
  go_enter Tryz.func103,Tryz.ntmps103
  go_wp2
  go_ret
  exact ⟨by rw [H.out];rfl,(by repeat' first|exact Yl _|assumption|apply Yk|apply Yj|apply Yi|(refine Yh ?_ (by assumption)))⟩
 ·have H:=Yw (show Wf st 6 = -1 by simp [Wf,hs])
  go_enter Tryz.func103,Tryz.ntmps103
  go_wp2
  go_ret
  exact ⟨by rw [H.out];rfl,(by repeat' first|exact Yl _|assumption|apply Yk|apply Yj|apply Yi|(refine Yh ?_ (by assumption)))⟩
 have H:=Yw (show Wf st op=0 by simp [Wf,h.1,h.2.1,h.2.2.1,h.2.2.2])
 obtain ⟨h1,h2,h3,h4⟩:=h
 go_enter Tryz.func103,Tryz.ntmps103
 go_wp2
 go_ret
 exact ⟨by rw [H.out];rfl,(by repeat' first|exact Yl _|assumption|apply Yk|apply Yj|apply Yi|(refine Yh ?_ (by assumption)))⟩
def Oy (st op:Int):Int:=if op=1 then 1 else if op=2 then 2 else if op=4∨op=5∨op=6 then 0 else st
def Nh (ow op client:Int):Int:=if op=1 then client else if op=4∨op=5∨op=6 then 0 else ow
def N9 (nm:ByteArray) (op:Int) (name:ByteArray):ByteArray:=if op=1 then name else if op=4∨op=5∨op=6 then ⟨#[]⟩ else nm
def Nw (dl op deadline:Int):Int:=if op=1 then deadline else if op=2 then 0 else if op=3 then deadline else if op=4∨op=5∨op=6 then 0 else dl
theorem Ce (st ow dl op client deadline:Int) (nm name:ByteArray) (w:World) :
 Calls Tryz.prog 74 #[.agg #[.int .i64 st,.int .i64 ow,.string nm,.int .i64 dl],.int .i64 op,.int .i64 client,.string name,.int .i64 deadline] w fun e w' =>
  e=.returned (.agg #[.int .i64 (Oy st op),.int .i64 (Nh ow op client),.string (N9 nm op name),.int .i64 (Nw dl op deadline)])∧Ext w w':=by
 rcases Zok op with rfl|rfl|rfl|rfl|rfl|rfl|rfl|h
 ·go_enter Tryz.func74,Tryz.ntmps74
  go_wp2
  exact Yt (v:=.agg #[.int .i64 (Oy st 1),.int .i64 (Nh ow 1 client),.string (N9 nm 1 name),.int .i64 (Nw dl 1 deadline)]) (by simp [results,Tryz.results74,go_sem,Oy,Nh,N9,Nw]) rfl ⟨rfl,(by repeat' first|exact Yl _|assumption|apply Yk|apply Yj|apply Yi|(refine Yh ?_ (by assumption)))⟩
 ·go_enter Tryz.func74,Tryz.ntmps74
  go_wp2
  exact Yt (v:=.agg #[.int .i64 (Oy st 2),.int .i64 (Nh ow 2 client),.string (N9 nm 2 name),.int .i64 (Nw dl 2 deadline)]) (by simp [results,Tryz.results74,go_sem,Oy,Nh,N9,Nw]) rfl ⟨rfl,(by repeat' first|exact Yl _|assumption|apply Yk|apply Yj|apply Yi|(refine Yh ?_ (by assumption)))⟩
 ·go_enter Tryz.func74,Tryz.ntmps74
  go_wp2
  exact Yt (v:=.agg #[.int .i64 (Oy st 3),.int .i64 (Nh ow 3 client),.string (N9 nm 3 name),.int .i64 (Nw dl 3 deadline)]) (by simp [results,Tryz.results74,go_sem,Oy,Nh,N9,Nw]) rfl ⟨rfl,(by repeat' first|exact Yl _|assumption|apply Yk|apply Yj|apply Yi|(refine Yh ?_ (by assumption)))⟩
 ·go_enter Tryz.func74,Tryz.ntmps74
  go_wp2
  exact Yt (v:=.agg #[.int .i64 (Oy st 4),.int .i64 (Nh ow 4 client),.string (N9 nm 4 name),.int .i64 (Nw dl 4 deadline)]) (by simp [results,Tryz.results74,go_sem,Oy,Nh,N9,Nw]) rfl ⟨rfl,(by repeat' first|exact Yl _|assumption|apply Yk|apply Yj|apply Yi|(refine Yh ?_ (by assumption)))⟩
 ·go_enter Tryz.func74,Tryz.ntmps74
  go_wp2
  exact Yt (v:=.agg #[.int .i64 (Oy st 5),.int .i64 (Nh ow 5 client),.string (N9 nm 5 name),.int .i64 (Nw dl 5 deadline)]) (by simp [results,Tryz.results74,go_sem,Oy,Nh,N9,Nw]) rfl ⟨rfl,(by repeat' first|exact Yl _|assumption|apply Yk|apply Yj|apply Yi|(refine Yh ?_ (by assumption)))⟩
 ·go_enter Tryz.func74,Tryz.ntmps74
  go_wp2
  exact Yt (v:=.agg #[.int .i64 (Oy st 6),.int .i64 (Nh ow 6 client),.string (N9 nm 6 name),.int .i64 (Nw dl 6 deadline)]) (by simp [results,Tryz.results74,go_sem,Oy,Nh,N9,Nw]) rfl ⟨rfl,(by repeat' first|exact Yl _|assumption|apply Yk|apply Yj|apply Yi|(refine Yh ?_ (by assumption)))⟩
 ·go_enter Tryz.func74,Tryz.ntmps74
  go_wp2
  exact Yt (v:=.agg #[.int .i64 (Oy st 7),.int .i64 (Nh ow 7 client),.string (N9 nm 7 name),.int .i64 (Nw dl 7 deadline)]) (by simp [results,Tryz.results74,go_sem,Oy,Nh,N9,Nw]) rfl ⟨rfl,(by repeat' first|exact Yl _|assumption|apply Yk|apply Yj|apply Yi|(refine Yh ?_ (by assumption)))⟩
 have h1:¬ op=1:=by omega
 have h2:¬ op=2:=by omega
 have h3:¬ op=3:=by omega
 have h4:¬ op=4:=by omega
 have h5:¬ op=5:=by omega
 have h6:¬ op=6:=by omega
 go_enter Tryz.func74,Tryz.ntmps74
 go_wp2
 exact Yt (v:=.agg #[.int .i64 (Oy st op),.int .i64 (Nh ow op client),.string (N9 nm op name),.int .i64 (Nw dl op deadline)]) (by simp [results,Tryz.results74,go_sem,Oy,Nh,N9,Nw,h1,h2,h3,h4,h5,h6]) rfl ⟨rfl,(by repeat' first|exact Yl _|assumption|apply Yk|apply Yj|apply Yi|(refine Yh ?_ (by assumption)))⟩
def Zvn (st ow dl state client now:Int):Int :=
 if Aj st dl now=false then 23 else if ow=client then (if st=state then 0 else 26) else 25
def O8 (st ow dl op client now:Int):Int :=
 if op=1 then (if Aj st dl now=true then 24 else 0)
 else if op=2∨op=3∨op=4 then Zvn st ow dl 1 client now
 else if op=5 then Zvn st ow dl 2 client now
 else if op=6 then (if st=0 then 23 else if Aj st dl now=true then 26 else 0)
 else if op=7 then 0 else 1
theorem Zq0 (op:Int):op=1∨op=2∨op=3∨op=4∨op=5∨op=6∨op=7∨(op < 1∨7 < op):=by omega
theorem Zqs {st dl now:Int} (h:Aj st dl now=true):st=2∨st=1:=by
 simp [Aj] at h
 omega
theorem Zut (st ow dl op client now:Int) (nm:ByteArray) (w:World) :
 Calls Tryz.prog 102 #[.agg #[.int .i64 st,.int .i64 ow,.string nm,.int .i64 dl],.int .i64 op,.int .i64 client,.int .i64 now] w fun e w'=>e=.returned (.int .i64 (O8 st ow dl op client now))∧Ext w w':=by
 rcases Zq0 op with rfl|rfl|rfl|rfl|rfl|rfl|rfl|h
 case' inr.inr.inr.inr.inr.inr.inr =>
  have h1:¬ op=1:=by omega
  have h2:¬ op=2:=by omega
  have h3:¬ op=3:=by omega
  have h4:¬ op=4:=by omega
  have h5:¬ op=5:=by omega
  have h6:¬ op=6:=by omega
  have h7:¬ op=7:=by omega
  have hl:=True.intro
  rcases h with h|h
 case' inr.inr.inr.inr.inr.inr.inr.inr=>have h':¬ op < 1:=by omega
 case' inr.inr.inr.inr.inr.inl =>
  by_cases hs:st=0
  try subst hs
 all_goals try cases hl:Aj st dl now
 all_goals try (rcases Zqs hl with rfl|rfl<;>(by_cases ho:ow=client;try subst ho))
 all_goals
  go_enter Tryz.func102,Tryz.ntmps102
  go_wp2_with (go_at_call 104;refine (Ot _ _ _ _ _ _).mono ?_;rintro e w1 ⟨rfl,hy⟩;(first|(have hx:=hx.trans hy)|(have hx:=hy));have hc:=fun i=>hx.cell (p:=⟨w.heap.size,i,none⟩) (by first|(simp;done)|(simp;omega));have hz:=fun i=>hx.frozen (p:=⟨w.heap.size,i,none⟩) (by first|(simp;done)|(simp;omega));have hs:w.heap.size+1≤w1.heap.size:=by (have hs1:=hx.size;simp at hs1;omega))
  go_ret
  exact ⟨by simp [O8,Zvn, *],(by repeat' first|exact Yl _|assumption|apply Yk|apply Yj|apply Yi|(refine Yh ?_ (by assumption)))⟩
def Zoo (n:Nm):Bool:=decide (1≤n.a.size) && decide (n.a.size≤63)
structure Zos (cl client op ttl now:Int) (ns:List Nm):Prop where
 c0:0≤client
 c1:client < cl
 o0:1≤op
 o1:op≤7
 n0:0≤now
 n1:now≤1073741824
 t1:Vy op=true→1≤ttl∧ttl≤1073741824
 t0:Vy op=false→ttl=0
 l0:1≤ns.length
 l1:ns.length≤16
 q:op=7→ns.length≤1
 srt:srt ns=true
 good:ns.all Zoo=true
instance (cl client op ttl now:Int) (ns:List Nm):Decidable (Zos cl client op ttl now ns) :=
 decidable_of_iff (0≤client∧client < cl∧1≤op∧op≤7∧0≤now∧now≤1073741824∧(Vy op=true→1≤ttl∧ttl≤1073741824)∧(Vy op=false→ttl=0)∧1≤ns.length∧ns.length≤16∧(op=7→ns.length≤1)∧srt ns=true∧ns.all Zoo=true)
  ⟨fun ⟨a,b,c,d,e,f,g,h,i,j,k,l,m⟩=>⟨a,b,c,d,e,f,g,h,i,j,k,l,m⟩,fun ⟨a,b,c,d,e,f,g,h,i,j,k,l,m⟩=>⟨a,b,c,d,e,f,g,h,i,j,k,l,m⟩⟩
structure Zy1 where
 e:Int
 at_:Int
 nm:ByteArray
 rc:Rc
 tick:Int
def rcV (r:Rc):Value:=.agg #[.int .i64 r.st,.int .i64 r.ow,.string r.nm,.int .i64 r.dl]
def Qd (r:Zy1):Value:=.agg #[.int .i64 r.e,.int .i64 r.at_,.string r.nm,.int .i64 r.rc.st,.int .i64 r.rc.ow,.string r.rc.nm,.int .i64 r.rc.dl,.int .i64 r.tick]
def Zuz (cap op client now count:Int) (r:Rc):Int :=
 if O8 r.st r.ow r.dl op client now=0∧0 < Wf r.st op∧cap≤count then 7 else O8 r.st r.ow r.dl op client now
def Ew (op count:Int) (r:Rc):Int:=if 0 < Wf r.st op then count+1 else count
def Qj (cap op client now:Int):Nat→Int→List (Nm×Rc)→Option (Int×Nat×ByteArray)
 | _,_,[]=>none
 | i,count,p::l=>if Zuz cap op client now count p.2=0 then Qj cap op client now (i+1) (Ew op count p.2) l else some (Zuz cap op client now count p.2,i,p.1.a)
def Ky (cap op client ttl now count:Int) (ps:List (Nm×Rc)):Zy1 :=
 if Vy op=true∧1073741824 - now < ttl then ⟨8,-1,⟨#[]⟩,default,now⟩ else
 match Qj cap op client now 0 count ps with
 | some (e,i,n)=>⟨e,i,n,default,now⟩
 | none=>⟨0,-1,⟨#[]⟩,match ps with | []=>default|p::_=>if op=7∧Aj p.2.st p.2.dl now=true then p.2 else default,now⟩
theorem Dp {α:Type} {l:List α} {i:Nat} {x:α} (h:l[i]?=some x):l.drop i=x::l.drop (i+1):=by
 obtain ⟨hi,rfl⟩:=Zr.1 h
 exact List.drop_eq_getElem_cons hi
theorem take_at {α:Type} {l:List α} {i:Nat} {x:α} (h:l[i]?=some x):l.take (i+1)=l.take i++[x]:=by rw [Za,h];rfl
def J0 (op:Int) (count:Int) (ps:List (Nm×Rc)):Int:=ps.foldl (fun c p=>Ew op c p.2) count
theorem Zzp (op count:Int) (ps:List (Nm×Rc)):count≤J0 op count ps∧J0 op count ps≤count+ps.length:=by
 induction ps generalizing count with
 | nil=>simp [J0]
 | cons p ps ih =>
  have:=ih (Ew op count p.2)
  have e:J0 op count (p::ps)=J0 op (Ew op count p.2) ps:=rfl
  have hn:Ew op count p.2=count∨Ew op count p.2=count+1:=by unfold Ew;split<;>simp
  rw [e]
  simp only [Zl]
  omega
theorem Ph (op count:Int) (ps:List (Nm×Rc)) (p:Nm×Rc):J0 op count (ps++[p])=Ew op (J0 op count ps) p.2:=by simp [J0,List.foldl_append]
structure Qx (cap op client now count:Int) (ps:List (Nm×Rc)) (i:Nat) (c:Int):Prop where
 le:i≤ps.length
 cnt:c=J0 op count (ps.take i)
 go:Qj cap op client now 0 count ps=Qj cap op client now i c (ps.drop i)
theorem Qx.start (cap op client now count:Int) (ps:List (Nm×Rc)):Qx cap op client now count ps 0 count:=⟨Nat.zero_le _,rfl,rfl⟩
theorem Qx.bd {cap op client now count c:Int} {ps:List (Nm×Rc)} {i:Nat} (h:Qx cap op client now count ps i c):count≤c∧c≤count+i:=by
 have:=Zzp op count (ps.take i)
 rw [← h.cnt,Zp] at this
 omega
theorem Qx.next {cap op client now count c:Int} {ps:List (Nm×Rc)} {i:Nat} {p:Nm×Rc} (h:Qx cap op client now count ps i c) (hp:ps[i]?=some p) (h0:Zuz cap op client now c p.2=0) :
 Qx cap op client now count ps (i+1) (Ew op c p.2):=by
 have hi:=(Zr.1 hp).1
 refine ⟨hi,?_,?_⟩
 ·rw [take_at hp,Ph,← h.cnt]
 rw [h.go,Dp hp,Qj,if_pos h0]
theorem Qx.stop {cap op client now count c:Int} {ps:List (Nm×Rc)} {i:Nat} {p:Nm×Rc} (h:Qx cap op client now count ps i c) (hp:ps[i]?=some p) (h0:Zuz cap op client now c p.2≠0) :
 Qj cap op client now 0 count ps=some (Zuz cap op client now c p.2,i,p.1.a):=by
 rw [h.go,Dp hp,Qj,if_neg h0]
theorem Qx.done {cap op client now count c:Int} {ps:List (Nm×Rc)} (h:Qx cap op client now count ps ps.length c):Qj cap op client now 0 count ps=none:=by
 rw [h.go,List.drop_length,Qj]
section
def Behind (o:Option (List UInt8)) (n:Nm):Bool:=match o with|none=>true|some x=>decide (x < kb n.k)
def Uh (L:List Nm) (o:Option (List UInt8)):Nat:=L.countP (fun n=>!Behind o n)
theorem Ry (L:List Nm):Uh L none=0:=by unfold Uh Behind;simp
theorem behind_next {o:Option (List UInt8)} {m n:Nm} (hm:Behind o m=true) (hn:Behind o n=false):Behind (some (kb m.k)) n=false:=by
 cases o with
 | none=>simp [Behind] at hn
 | some x =>
  simp only [Behind,decide_eq_true_eq,decide_eq_false_iff_not] at hm hn ⊢
  intro h
  exact hn (List.lt_trans hm h)
theorem L0 {L:List Nm} {o:Option (List UInt8)} {m n:Nm} (hm:Behind o m=true) (hmin:Behind o n=true→¬ kb n.k < kb m.k) (hne:n.k≠m.k):Behind (some (kb m.k)) n=Behind o n:=by
 cases hb:Behind o n
 ·exact behind_next hm hb
 simp only [Behind,decide_eq_true_eq]
 rcases Zo7 hne with h|h
 ·exact absurd h (hmin hb)
 exact h
theorem Rb {L:List Nm} {o:Option (List UInt8)} {k:Nat} {m:Nm} (hk:L[k]?=some m) (hm:Behind o m=true) (hmin:∀ n∈L,Behind o n=true→¬ kb n.k < kb m.k) (huq:∀ i n,L[i]?=some n→n.k=m.k→i=k) :
 Uh L (some (kb m.k))=Uh L o+1:=by
 have hkl:=(Zr.1 hk).1
 have e:L=L.take k++m::L.drop (k+1):=by
  have:=Zr.1 hk
  obtain ⟨h1,h2⟩:=this
  rw [← h2];simp
 have a1:(L.take k).countP (fun n=>!Behind (some (kb m.k)) n)=(L.take k).countP (fun n=>!Behind o n):=by
  apply List.countP_congr
  intro n hn
  obtain ⟨i,hi,rfl⟩:=List.mem_iff_getElem.1 hn
  have hi':i < k:=by rw [Zp] at hi;omega
  have hin:L[i]?=some (L.take k)[i]:=by rw [List.getElem_take];exact Zz _
  rw [L0 (L:=L) hm (hmin _ (Zy hin)) (fun e=>by have:=huq _ _ hin e;omega)]
 have a2:(L.drop (k+1)).countP (fun n=>!Behind (some (kb m.k)) n)=(L.drop (k+1)).countP (fun n=>!Behind o n):=by
  apply List.countP_congr
  intro n hn
  obtain ⟨i,hi,rfl⟩:=List.mem_iff_getElem.1 hn
  have hin:L[k+1+i]?=some (L.drop (k+1))[i]:=by rw [List.getElem_drop];exact Zz _
  rw [L0 (L:=L) hm (hmin _ (Zy hin)) (fun e=>by have:=huq _ _ hin e;omega)]
 have b1:Behind (some (kb m.k)) m=false:=by simp [Behind,List.lt_irrefl]
 unfold Uh
 rw [e,List.countP_append,List.countP_append,a1,List.countP_cons,List.countP_cons,a2,b1,hm]
 simp
 omega
theorem Sq {L:List Nm} {o:Option (List UInt8)} (h:Uh L o < L.length):∃ (k:Nat) (m:Nm),L[k]?=some m∧Behind o m=true:=by
 refine Classical.byContradiction fun hn=>?_
 have:Uh L o=L.length:=by
  unfold Uh
  rw [List.countP_eq_length]
  intro n hm
  obtain ⟨k,hk⟩:=List.getElem?_of_mem hm
  cases hb:Behind o n
  ·rfl
  exact absurd ⟨k,n,hk,hb⟩ hn
 omega
def Sel (L:List Nm) (o:Option (List UInt8)) (i:Nat) (z:Int):Prop :=
 (z = -1∧∀ j n,j < i→L[j]?=some n→Behind o n=false) ∨
 ∃ (k:Nat) (m:Nm),z=(k:Int)∧k < i∧L[k]?=some m∧Behind o m=true∧(∀ j n,j < i→L[j]?=some n→Behind o n=true→¬ kb n.k < kb m.k)∧∀ j n,j < k→L[j]?=some n→n.k≠m.k
section
variable {L:List Nm} {o:Option (List UInt8)} {i:Nat} {z:Int} {n:Nm}
theorem Ms {m n:Nm} (h:n.k=m.k):Behind o n=Behind o m:=by cases o<;>simp [Behind,h]
theorem Sel.start (L:List Nm) (o:Option (List UInt8)):Sel L o 0 (-1):=.inl ⟨rfl,fun j n h=>by omega⟩
theorem Sel.skip (h:Sel L o i z) (hn:L[i]?=some n) (hb:Behind o n=false):Sel L o (i+1) z:=by
 rcases h with ⟨rfl,h⟩ | ⟨k,m,rfl,hk,hm,hb2,h1,h2⟩
 ·refine .inl ⟨rfl,fun j x hj hx=>?_⟩
  rcases (show j < i∨j=i by omega) with h3|rfl
  ·exact h j x h3 hx
  rw [hn] at hx;cases hx;exact hb
 refine .inr ⟨k,m,rfl,by omega,hm,hb2,fun j x hj hx hbx=>?_,h2⟩
 rcases (show j < i∨j=i by omega) with h3|rfl
 ·exact h1 j x h3 hx hbx
 rw [hn] at hx;cases hx;rw [hb] at hbx;cases hbx
theorem Sel.first (h:Sel L o i (-1)) (hn:L[i]?=some n) (hb:Behind o n=true):Sel L o (i+1) (i:Int):=by
 rcases h with ⟨_,h⟩ | ⟨k,m,e,_⟩
 ·refine .inr ⟨i,n,rfl,by omega,hn,hb,fun j x hj hx hbx=>?_,fun j x hj hx e=>?_⟩
  ·rcases (show j < i∨j=i by omega) with h3|rfl
   ·rw [h j x h3 hx] at hbx;cases hbx
   rw [hn] at hx;cases hx;exact List.lt_irrefl _
  have:=h j x hj hx
  rw [Ms e,hb] at this;cases this
 omega
theorem Sel.less {k:Nat} {m:Nm} (h:Sel L o i (k:Int)) (hm:L[k]?=some m) (hn:L[i]?=some n) (hb:Behind o n=true) (hl:kb n.k < kb m.k):Sel L o (i+1) (i:Int):=by
 rcases h with ⟨e,_⟩ | ⟨k',m',e,hk,hm',hb2,h1,h2⟩
 ·omega
 obtain rfl:k'=k:=by omega
 rw [hm] at hm';cases hm'
 refine .inr ⟨i,n,rfl,by omega,hn,hb,fun j x hj hx hbx hlt=>?_,fun j x hj hx e=>?_⟩
 ·rcases (show j < i∨j=i by omega) with h3|rfl
  ·exact h1 j x h3 hx hbx (List.lt_trans hlt hl)
  rw [hn] at hx;cases hx;exact List.lt_irrefl _ hlt
 exact h1 j x hj hx (by rw [Ms e];exact hb) (by rw [e];exact hl)
theorem Sel.keep {k:Nat} {m:Nm} (h:Sel L o i (k:Int)) (hm:L[k]?=some m) (hn:L[i]?=some n) (hl:¬ kb n.k < kb m.k):Sel L o (i+1) (k:Int):=by
 rcases h with ⟨e,_⟩ | ⟨k',m',e,hk,hm',hb2,h1,h2⟩
 ·omega
 obtain rfl:k'=k:=by omega
 rw [hm] at hm';cases hm'
 refine .inr ⟨k',m,rfl,by omega,hm,hb2,fun j x hj hx hbx=>?_,h2⟩
 rcases (show j < i∨j=i by omega) with h3|rfl
 ·exact h1 j x h3 hx hbx
 rw [hn] at hx;cases hx;exact hl
theorem Sel.at_ (h:Sel L o i z):z = -1∨∃ (k:Nat) (m:Nm),z=(k:Int)∧k < i∧L[k]?=some m:=by
 rcases h with ⟨e,_⟩ | ⟨k,m,e,hk,hm,_⟩
 ·exact .inl e
 exact .inr ⟨k,m,e,hk,hm⟩
theorem Sel.found (h:Sel L o L.length z) (hc:Uh L o < L.length):∃ (k:Nat) (m:Nm),z=(k:Int)∧k < L.length∧L[k]?=some m∧Behind o m=true∧(∀ x∈L,Behind o x=true→¬ kb x.k < kb m.k)∧∀ j x,j < k→L[j]?=some x→x.k≠m.k:=by
 rcases h with ⟨_,h⟩ | ⟨k,m,e,hk,hm,hb2,h1,h2⟩
 ·obtain ⟨k,m,hm,hb⟩:=Sq hc
  rw [h k m (Zr.1 hm).1 hm] at hb;cases hb
 refine ⟨k,m,e,hk,hm,hb2,fun x hx hbx=>?_,h2⟩
 obtain ⟨j,hj⟩:=List.getElem?_of_mem hx
 exact h1 j x (Zr.1 hj).1 hj hbx
def Rq (out:List Nm):Option (List UInt8):=out.getLast?.map fun n=>kb n.k
theorem Cg (out:List Nm) (m:Nm):Rq (out++[m])=some (kb m.k):=by simp [Rq]
theorem Zti {out:List Nm} {y:Nm} (h:out[out.length - 1]?=some y):Rq out=some (kb y.k):=by
 unfold Rq
 rw [List.getLast?_eq_getElem?,h];rfl
theorem Oi {a b:ByteArray} (h:kb a < kb b):Op.bytesLess a.toList b.toList=true:=by
 rw [Go.Proofs.bytesLess_eq,ByteArray.toList_eq,ByteArray.toList_eq];unfold kb at h;simpa using h
theorem Mz {a b:ByteArray} (h:¬ kb a < kb b):Op.bytesLess a.toList b.toList=false:=by
 rw [Go.Proofs.bytesLess_eq,ByteArray.toList_eq,ByteArray.toList_eq];unfold kb at h;simpa using h
theorem Zqp {x s:ByteArray} (h:kb s < kb x):Op.bytesLess x.toList s.toList=false∧(x.toList == s.toList)=false:=by
 unfold kb at h;exact Tt h
theorem Zsk {x s:ByteArray} (h:¬ kb s < kb x):(!Op.bytesLess x.toList s.toList && !(x.toList == s.toList))=false:=by
 unfold kb at h
 have:=Mf h
 cases h1:Op.bytesLess x.toList s.toList<;>cases h2:(x.toList == s.toList)<;>simp_all
end
end
def Ui (e:Ent) (v:Value):Value:=.agg #[.int .i64 e.cl,.int .i64 e.op,.int .i64 e.ttl,.int .i64 e.tick,v]
theorem Ue {e:Ent} (h:Jx e=true):0≤e.cl∧e.cl≤63∧1≤e.op∧e.op≤6∧(if Vy e.op then decide (1≤e.ttl) && decide (e.ttl≤1073741824) else e.ttl == 0)=true∧0≤e.tick∧e.tick≤1073741824∧1≤e.names.length∧e.names.length≤16:=by
 simp only [Jx,Bool.and_eq_true,decide_eq_true_eq] at h
 obtain ⟨⟨⟨⟨⟨⟨⟨⟨a1,a2⟩,a3⟩,a4⟩,a5⟩,a6⟩,a7⟩,a8⟩,a9⟩:=h
 exact ⟨a1,a2,a3,a4,a5,a6,a7,a8,a9⟩
theorem Ag {e:Ent} (h:Jx e=true):(e.op=1∧1≤e.ttl∧e.ttl≤1073741824)∨(e.op=3∧1≤e.ttl∧e.ttl≤1073741824)∨(e.op≠1∧e.op≠3∧e.ttl=0):=by
 obtain ⟨_,_,_,_,h5,_⟩:=Ue h
 by_cases h1:e.op=1
 ·simp [h1,Vy] at h5;exact .inl ⟨h1,h5⟩
 by_cases h3:e.op=3
 ·simp [h3,Vy] at h5;exact .inr (.inl ⟨h3,h5⟩)
 simp [h1,h3,Vy] at h5;exact .inr (.inr ⟨h1,h3,h5⟩)
theorem Mq {S:Nat→Prop} (e:Ent) (v:Value) (w:World) (hn:Wq w S v e.names) :
 Calls Tryz.prog 117 #[Ui e v] w fun x w'=>x=.returned (.int .i64 (V8 e))∧Ext w w':=by
 obtain ⟨A,c,rfl⟩:=hn.shape
 have hlm:=hn.len
 unfold maxLen at hlm
 cases hr:Jx e with
 | false =>
  have Hck:=Yw (show V8 e=3 by unfold V8;rw [hr];rfl)
  have Hr:=Yw hr
  obtain ⟨cl,op,ttl,tick,names⟩:=e
  simp only at hn hlm
  clear hn hr
  unfold Ui
  go_enter Tryz.func117,Tryz.ntmps117
  go_wp2_with (go_at_call 154;refine (Vc _ _ _ _).mono ?_;rintro e' w' ⟨rfl,rfl⟩)
  all_goals first
   | (go_ret;exact ⟨by rw [Hck.out];rfl,(by repeat' first|exact Yl _|assumption|apply Yk|apply Yj|apply Yi|(refine Yh ?_ (by assumption)))⟩)
   | (exfalso;have hf:=Hr.out;simp_all [Jx,Vy];done)
   | (exfalso;have hf:=Hr.out;simp_all [Jx,Vy];omega)
 | true =>
  obtain ⟨a1,a2,a3,a4,_,a6,a7,a8,a9⟩:=Ue hr
  have htm:=Ag hr
  have Hck:=Yw (show V8 e=if srt e.names then (if e.names.all En then 0 else 1) else 1 by unfold V8;rw [hr];cases srt e.names<;>simp)
  have Hn:=Yw hn
  obtain ⟨cl,op,ttl,tick,names⟩:=e
  simp only at a1 a2 a3 a4 a6 a7 a8 a9 htm Hn Hck hlm
  have c8:(1:Int)≤(names.length:Int):=by omega
  have c9:(names.length:Int)≤16:=by omega
  have Hx0:=Yw ((Yl w).alloc (.cells #[.int .i64 cl,.int .i64 op,.int .i64 ttl,.int .i64 tick,.slice A names.length c] 83))
  have k4:(w.alloc (.cells #[.int .i64 cl,.int .i64 op,.int .i64 ttl,.int .i64 tick,.slice A names.length c] 83)).cell? ⟨w.heap.size,4,none⟩=some (.slice A names.length c):=by go_simp
  have kl:w.heap.size < (w.alloc (.cells #[.int .i64 cl,.int .i64 op,.int .i64 ttl,.int .i64 tick,.slice A names.length c] 83)).heap.size:=by simp
  have Hk4:=Yw k4
  unfold Ui
  clear hn hr k4
  go_enter Tryz.func117,Tryz.ntmps117
  rcases htm with ⟨rfl,b1,b2⟩ | ⟨rfl,b1,b2⟩ | ⟨b1,b2,rfl⟩
  all_goals
   go_wp2_with (go_at_call 154;refine (Vc _ _ _ _).mono ?_;rintro e' w' ⟨rfl,rfl⟩)
   refine (Zys _ _ _ (Hn.out.ext Hx0.out)).mono ?_
   rintro x w2 ⟨rfl,hx2⟩
   have k4:=(hx2.cell (p:=⟨w.heap.size,4,none⟩) kl).trans Hk4.out
   have Hx2:=Yw (Hx0.out.trans hx2)
   cases hs:srt names with
   | false =>
    have Hs:=Yw hs
    clear hs hx2
    go_wp2_with fail
    go_ret
    exact ⟨by rw [Hck.out,Hs.out];rfl,Hx2.out⟩
   | true =>
    have Hs:=Yw hs
    have hb:w.heap.size < w2.heap.size:=Nat.lt_of_lt_of_le kl hx2.size
    clear hs hx2 Hx0 Hk4
    go_wp2_with fail
    go_loopw [62] (fun o wr=>∃ i:Nat,i≤names.length∧o=.int .i64 (i:Int)∧(∀ j n,j < i→names[j]?=some n→En n=true)∧Ext w wr) (fun o _=>names.length - (intOf o).toNat)
    case atStart=>exact ⟨0,by omega,rfl,fun j n h=>by omega,Hx2.out⟩
    obtain ⟨i,hil,rfl,hall,hx⟩:=hrel
    have Hall:=Yw hall
    have Hx:=Yw hx
    clear hall hx
    by_cases hlt:i < names.length
    ·have hd:decide ((i:Int) < (names.length:Int))=true:=by simpa using hlt
     obtain ⟨g,o,c',hv,hc1,hc2,_,hg,hcell⟩:=(Hn.out.ext Hx.out).get (j:=i) hlt
     simp only [Ye,true_and] at hv
     obtain ⟨rfl,rfl⟩:=hv
     obtain ⟨n,hnm⟩:∃ n,names[i]?=some n:=⟨names[i],by simp [hlt]⟩
     obtain ⟨c0,c1,c2⟩:=hcell _ _ hnm
     have q0:(0:Int)≤(i:Int):=by omega
     have q1:(i:Int) < (names.length:Int):=by omega
     have q5:c≤9223372036854775807:=by unfold maxLen at hc2;omega
     have Hnm:=Yw hnm
     clear hcell hnm
     cases hb:En n with
     | true =>
      have hw1:1≤n.a.size∧n.a.size≤63:=by simpa [En] using hb
      obtain ⟨hw1,hw2⟩:=hw1
      have hw3:(1:Int)≤(n.a.size:Int):=by omega
      have hw4:(n.a.size:Int)≤63:=by omega
      have Hb:=Yw hb
      clear hb
      go_wp2_with (go_at_call 154;refine (Vc _ _ _ _).mono ?_;rintro e' w' ⟨rfl,rfl⟩)
      go_roundw
      case rel =>
       refine ⟨i+1,by omega,by go_num,fun j m hj hm=>?_,Hx.out.alloc _⟩
       by_cases hji:j=i
       ·subst hji
        rw [Hnm.out] at hm
        simp only [Yd] at hm
        subst hm
        exact Hb.out
       exact Hall.out j m (by omega) hm
      case measure=>simp [intOf];omega
     | false =>
      have hw1:n.a.size < 1∨63 < n.a.size:=by simp [En] at hb;omega
      have Hno:=Yw (show names.all En=false by
       rw [← Bool.not_eq_true,List.all_eq_true]
       intro h
       have:=h n (Zy Hnm.out)
       rw [hb] at this;simp at this)
      clear hb
      have hw2:(decide ((1:Int)≤(n.a.size:Int)) && decide ((n.a.size:Int)≤63))=false:=by rcases hw1 with h|h<;>simp<;>omega
      go_wp2_with (go_at_call 154;refine (Vc _ _ _ _).mono ?_;rintro e' w' ⟨rfl,rfl⟩;rw [hw2])
      go_ret
      exact ⟨by rw [Hck.out,Hs.out,Hno.out];rfl,Hx.out.alloc _⟩
    have hd:decide ((i:Int) < (names.length:Int))=false:=by simp;omega
    have Hyes:=Yw (show names.all En=true from List.all_eq_true.2 fun n hn=>by
     obtain ⟨j,hj⟩:=List.getElem?_of_mem hn
     exact Hall.out j n (by have:=(Zr.1 hj).1;omega) hj)
    go_wp2_with fail
    go_ret
    exact ⟨by rw [Hck.out,Hs.out,Hyes.out];rfl,Hx.out⟩
open Go.ChangeShapes Go.WideShapes Go.ChangeAt Go.RowKit Go.Joins Go.Deep
theorem Ld (f:Nat→Option Value):∀ (l:List Nm) (o:Nat),(∀ i n,l[i]?=some n→f (o+i * 3)=some (.string n.a)∧f (o+i * 3+1)=some (.string n.u)∧f (o+i * 3+2)=some (.string n.k)) →
 ∀ j u,(Xb l)[j]?=some u→f (o+j)=some u
 | [],_,_,j,u,h=>by simp [Xb] at h
 | n::l,o,hf,j,u,h=>by
  obtain ⟨h0,h1,h2⟩:=hf 0 n rfl
  simp only [Nat.zero_mul,Nat.add_zero] at h0 h1 h2
  rw [Xb] at h
  match j,h with
  | 0,h=>simp [Q8] at h;subst h;exact h0
  | 1,h=>simp [Q8] at h;subst h;exact h1
  | 2,h=>simp [Q8] at h;subst h;exact h2
  | j+3,h =>
   have:=Ld f l (o+3) (fun i n' hi=>by
    have g:=hf (i+1) n' (by simpa using hi)
    rw [show o+(i+1) * 3=o+3+i * 3 by omega] at g
    exact g) j u (by rw [Zd (by simp [Q8])] at h;simpa [Q8] using h)
   rw [show o+(j+3)=o+3+j by omega];exact this
end Go.Proofs.YtnbclgbicnpmnaaGreat
