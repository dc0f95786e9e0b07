/- Lemmas of this claim: Kt, Or, EnA, Awake33, Law33h. Conditions: as named. -/
import Derived.Test.YtnbclgbicnpmnaaGreatA04
import Derived.Test.YtnbclgbicnpmnaaGreatA09
import Derived.Test.YtnbclgbicnpmnaaGreatA20
import Derived.Test.YtnbclgbicnpmnaaGreatA23
import Derived.Test.YtnbclgbicnpmnaaGreatA24
import Derived.Test.YtnbclgbicnpmnaaGreatA25
import Derived.Test.YtnbclgbicnpmnaaGreatA27
namespace Go.Proofs.YtnbclgbicnpmnaaGreat
open Go.RowKit Go.Sort
open List renaming getElem?_eq_getElem → Zz, mem_of_getElem? → Zy, getElem?_cons_zero → Zx, getElem?_cons_succ → Zw, setIfInBounds_toArray → Zv, set_cons_zero → Zu, set_cons_succ → Zt, length_append → Zs, getElem?_eq_some_iff → Zr, length_map → Zq, length_take → Zp, nil_append → Zo, length_cons → Zl, length_nil → Zk, mem_singleton → Zi, filterMap_cons → Z1, filterMap_nil → Z2, getElem?_toArray → Z3, drop_zero → Z5, length_drop → Z8, map_append → Z9
open Lib renaming hid → Yw
open Go renaming wpQuiet_step → Yv, wpQuiet_nil → Yu
open AllReadyH renaming cons → Ys, nil → Yr
open IntWalk renaming i64_in → Yq
open Nat renaming le_refl → Yo
open Ext renaming refl → Yl, trans → Yh
set_option maxHeartbeats 40000000
set_option maxRecDepth 100000
set_option linter.all false
structure Nt (w wx:World) (b:Nat) (v:Value) (l:List Rt):Prop where
 src:Src w.heap.size wx b
 ext:Ext w wx
 own:Own Zyb wx (b+1) v l
theorem Nt.next {w w1 w2:World} {b B:Nat} {v:Value} {l:List Rt} (h:Nt w w1 b v l) (hb:w.heap.size=b) (t:Wl w.heap.size B w1 w2) (hB:B=b:=by rfl):Nt w w2 b v l:=by
 subst hB
 exact ⟨t.src,h.ext.chg_new t.chg (fun i hi=>by omega),h.own.chg t.chg (fun k hk e=>by have:=(h.own.lt k hk).1;omega)⟩
theorem Nt.grow {w w1 w5:World} {b:Nat} {v:Value} {l l':List Rt} {o:Obj} {A:Option Addr} {n c:Nat} (h:Nt w w1 b v l) (hb:w.heap.size=b) (hg:Grew Zyb (w1.alloc o) (b+1) v l' A n c w5):Nt w w5 b (.slice A n c) l':=by
 have hlt:∀ k,v.ownBlock=some k→b+1≤k:=fun k hk=>(h.own.lt k hk).1
 exact ⟨(h.src.alloc o).chg hg.chg (fun e=>by have:=hlt b e;omega) (fun k hk e=>by have:=hlt k e;omega),(h.ext.alloc o).chg_new hg.chg (fun i hi=>by have:=hlt i hi;omega),hg.own⟩
theorem Au (w:World) (a b c:Int) (s:ByteArray) (t:TypeId) (g:Nat) (hg:w.heap.size=g):RdE Zyb (w.alloc (.cells #[.int .i64 a,.int .i64 b,.int .i64 c,.string s] t)) (fun _=>True) (.slice (some ⟨g,0,none⟩) 1 1) [⟨a,b,c,s⟩]:=by
 subst hg
 exact Qo w #[.int .i64 a,.int .i64 b,.int .i64 c,.string s] t 4 rfl
def Zyx (w:World) (e:Ending) (w':World):Prop:=∃ (v:Value) (l:List Rt),e=.returned v∧RdE Zyb w' (fun k=>w.heap.size≤k) v l∧l.length≤65∧Ext w w'
theorem Sn (a:Option Addr) (len cap:Nat) (w:World) (hrow:Gz w a len):Calls Tryz.prog 12 #[.slice a len cap] w (Zyx w):=by
 obtain ⟨b,hb⟩:∃ b,w.heap.size=b:=⟨_,rfl⟩
 have Hbw:=Yw hb
 have S0:=Yw (show Nt w (w.alloc (.cells #[.slice a len cap,.int .i64 0] 165)) b (.slice none 0 0) [] from ⟨by have:=Kj (cap:=cap) hrow (Yl w);rw [← hb];exact this,(Yl w).alloc _,Own.nil _ _ _⟩)
 clear hrow
 go_enter Tryz.func12,Tryz.ntmps12
 go_wp2_with fail
 refine (Nf _ _ _ _).mono ?_
 rintro e w0 ⟨rfl,rfl⟩
 obtain ⟨W0,hW0⟩:∃ W,w.alloc (.cells #[.slice a len cap,.int .i64 0] 165)=W:=⟨_,rfl⟩
 rw [hW0] at S0 ⊢
 rw [hb]
 clear hW0
 go_wp2_with fail
 go_loopw [4] (fun u wr=>∃ l:List Rt,l.length≤65∧Nt w wr b u l) (fun u _=>100 - sliceLen u)
 case atStart=>exact ⟨[],by simp,S0.out⟩
 clear S0
 obtain ⟨l,hl,hS⟩:=hrel
 obtain ⟨A,C,rfl,hlC,hC⟩:=hS.own.shape
 obtain ⟨m,hm⟩:∃ m,l.length=m:=⟨_,rfl⟩
 rw [hm] at hS hlC hl ⊢
 have Hm:=Yw hm
 have S1:=Yw hS
 clear hS hm
 unfold maxLen at hC
 go_wp2_with fail
 refine (Zw3 b _ _ S1.out.src).mono ?_
 rintro e w1 ⟨⟨q,rfl⟩,hs,hc⟩
 have S9:=Yw (S1.out.next Hbw.out ⟨hs,hc⟩)
 clear hs hc
 cases q with
 | false =>
  go_wp2_with fail
  go_ret
  exact ⟨_,l,rfl,by rw [← Hm.out];exact Rd.mono (show RdE Zyb w1 (fun k=>b+1≤k) (.slice A l.length C) l by have:=S9.out.own.rd;rw [Hm.out];exact this) fun k hk _=>by have:=Hbw.out;omega,by rw [Hm.out];exact hl,S9.out.ext⟩
 | true =>
  by_cases h60:m < 60
  ·have d1:decide ((m:Int) < 60)=true:=Yf (by omega)
   go_wp2_with fail
   refine (Xh b 8 (by omega) (by omega) _ _ S9.out.src).mono ?_
   rintro e w2 ⟨v,hv,rfl,h⟩
   have S2:=Yw (S9.out.next Hbw.out h)
   clear h
   by_cases hv0:v=0
   ·subst hv0
    go_wp2_with fail
    refine (Xh b 4 (by omega) (by omega) _ _ S2.out.src).mono ?_
    rintro e w3 ⟨v3,hv3,rfl,h⟩
    have S3:=Yw (S2.out.next Hbw.out h)
    clear h
    go_wp2_with fail
    refine (Az _ b _ S3.out.src).mono ?_
    rintro e w4 ⟨t,rfl,ht,h⟩
    have S4:=Yw (S3.out.next Hbw.out h)
    clear h
    go_wp2_with (at_builtin;refine Xx Zyb _ _ _ rfl rfl rfl rfl (S4.out.own.ext ((Yl _).alloc _)) rfl (Au _ 1 (v3:Int) 0 t _ _ rfl) (by rw [Hm.out];show _+1≤_;omega) (by show 40≤1000;omega) (by have:=S4.out.src.lt;simp;omega) ?_;intro A5 n5 c5 w5 hg5;have S5:=Yw (S4.out.grow Hbw.out hg5);have N5:=Yw hg5.len;clear hg5)
    go_roundw
    case rel=>exact ⟨_,by rw [Zs,Hm.out];show m+1≤65;omega,S5.out⟩
    case measure =>
     have e5:=N5.out
     rw [Zs,Hm.out] at e5
     simp only [Zl,Zk] at e5
     simp only [sliceLen]
     omega
   have f0:((v:Int) == 0)=false:=by simp;omega
   have f0n:(v == 0)=false:=by simp;omega
   have f0p:¬ (v:Int)=0:=by omega
   by_cases hv1:v=1
   ·subst hv1
    go_wp2_with fail
    refine (Xh b 4 (by omega) (by omega) _ _ S2.out.src).mono ?_
    rintro e w3 ⟨v3,hv3,rfl,h⟩
    have S3:=Yw (S2.out.next Hbw.out h)
    clear h
    go_wp2_with fail
    refine (Az _ b _ S3.out.src).mono ?_
    rintro e w4 ⟨t,rfl,ht,h⟩
    have S4:=Yw (S3.out.next Hbw.out h)
    clear h
    go_wp2_with (at_builtin;refine Xx Zyb _ _ _ rfl rfl rfl rfl (S4.out.own.ext ((Yl _).alloc _)) rfl (Au _ 1 (v3:Int) 0 t _ _ rfl) (by rw [Hm.out];show _+1≤_;omega) (by show 40≤1000;omega) (by have:=S4.out.src.lt;simp;omega) ?_;intro A5 n5 c5 w5 hg5;have S5:=Yw (S4.out.grow Hbw.out hg5);have N5:=Yw hg5.len;clear hg5)
    go_roundw
    case rel=>exact ⟨_,by rw [Zs,Hm.out];show m+1≤65;omega,S5.out⟩
    case measure =>
     have e5:=N5.out
     rw [Zs,Hm.out] at e5
     simp only [Zl,Zk] at e5
     simp only [sliceLen]
     omega
   have f1:((v:Int) == 1)=false:=by simp;omega
   have f1n:(v == 1)=false:=by simp;omega
   have f1p:¬ (v:Int)=1:=by omega
   by_cases hv2:v=2
   ·subst hv2
    go_wp2_with fail
    refine (Xh b 12 (by omega) (by omega) _ _ S2.out.src).mono ?_
    rintro e w3 ⟨v3,hv3,rfl,h⟩
    have S3:=Yw (S2.out.next Hbw.out h)
    clear h
    obtain ⟨t3,ht3⟩:∃ t:Int,(v3:Int) - 1=t:=⟨_,rfl⟩
    have r3:IntKind.i64.wrap ((v3:Int) - 1)=t3:=by rw [Yq _ (by omega)];exact ht3
    go_wp2_with (at_builtin;refine Xx Zyb _ _ _ rfl rfl rfl rfl (S3.out.own.ext ((Yl _).alloc _)) rfl (Au _ 3 0 t3 ⟨#[]⟩ _ _ rfl) (by rw [Hm.out];show _+1≤_;omega) (by show 40≤1000;omega) (by have:=S3.out.src.lt;simp;omega) ?_;intro A5 n5 c5 w5 hg5;have S5:=Yw (S3.out.grow Hbw.out hg5);have N5:=Yw hg5.len;clear hg5)
    go_roundw
    case rel=>exact ⟨_,by rw [Zs,Hm.out];show m+1≤65;omega,S5.out⟩
    case measure =>
     have e5:=N5.out
     rw [Zs,Hm.out] at e5
     simp only [Zl,Zk] at e5
     simp only [sliceLen]
     omega
   have f2:((v:Int) == 2)=false:=by simp;omega
   have f2n:(v == 2)=false:=by simp;omega
   have f2p:¬ (v:Int)=2:=by omega
   by_cases hv3:v=3
   ·subst hv3
    go_wp2_with fail
    refine (Xh b 4 (by omega) (by omega) _ _ S2.out.src).mono ?_
    rintro e w3 ⟨v3,hv3,rfl,h⟩
    have S3:=Yw (S2.out.next Hbw.out h)
    clear h
    obtain ⟨t3,ht3⟩:∃ t:Int,1+(v3:Int)=t:=⟨_,rfl⟩
    have r3:IntKind.i64.wrap (1+(v3:Int))=t3:=by rw [Yq _ (by omega)];exact ht3
    go_wp2_with fail
    refine (Xh b 7 (by omega) (by omega) _ _ S3.out.src).mono ?_
    rintro e w4 ⟨v4,hv4,rfl,h⟩
    have S4:=Yw (S3.out.next Hbw.out h)
    clear h
    obtain ⟨t4,ht4⟩:∃ t:Int,(v4:Int) - 1=t:=⟨_,rfl⟩
    have r4:IntKind.i64.wrap ((v4:Int) - 1)=t4:=by rw [Yq _ (by omega)];exact ht4
    go_wp2_with fail
    refine (Xh b 2 (by omega) (by omega) _ _ S4.out.src).mono ?_
    rintro e w6 ⟨v6,hv6,rfl,h⟩
    have S6:=Yw (S4.out.next Hbw.out h)
    clear h
    obtain ⟨t6,ht6⟩:∃ t:Int,1073741824 * (v6:Int)=t:=⟨_,rfl⟩
    have r6:IntKind.i64.wrap (1073741824 * (v6:Int))=t6:=by rw [Yq _ (by omega)];exact ht6
    go_wp2_with (at_builtin;refine Xx Zyb _ _ _ rfl rfl rfl rfl (S6.out.own.ext ((Yl _).alloc _)) rfl (Au _ t3 t4 t6 ⟨#[81,85,69,82,89,32,97]⟩ _ _ rfl) (by rw [Hm.out];show _+1≤_;omega) (by show 40≤1000;omega) (by have:=S6.out.src.lt;simp;omega) ?_;intro A5 n5 c5 w5 hg5;have S5:=Yw (S6.out.grow Hbw.out hg5);have N5:=Yw hg5.len;clear hg5)
    go_roundw
    case rel=>exact ⟨_,by rw [Zs,Hm.out];show m+1≤65;omega,S5.out⟩
    case measure =>
     have e5:=N5.out
     rw [Zs,Hm.out] at e5
     simp only [Zl,Zk] at e5
     simp only [sliceLen]
     omega
   have f3:((v:Int) == 3)=false:=by simp;omega
   have f3n:(v == 3)=false:=by simp;omega
   have f3p:¬ (v:Int)=3:=by omega
   clear hv0 hv1 hv2 hv3
   go_wp2_with fail
   refine (Xh b 4 (by omega) (by omega) _ _ S2.out.src).mono ?_
   rintro e w3 ⟨v3,hv3,rfl,h⟩
   have S3:=Yw (S2.out.next Hbw.out h)
   clear h
   go_wp2_with fail
   refine (Xh b 6 (by omega) (by omega) _ _ S3.out.src).mono ?_
   rintro e w4 ⟨v4,hv4,rfl,h⟩
   have S4:=Yw (S3.out.next Hbw.out h)
   clear h
   obtain ⟨k0,hk0⟩:∃ k,1+v4=k:=⟨_,rfl⟩
   have r4:IntKind.i64.wrap (1+(v4:Int))=(k0:Int):=by rw [Yq _ (by omega)];omega
   have hk1:1≤k0:=by omega
   have hk6:k0≤6:=by omega
   clear hk0 hv4
   go_wp2_with fail
   go_loopw [6,4] (fun o u wx=>∃ (k:Nat) (l2:List Rt),o=.int .i64 (k:Int)∧l2.length+k=m+k0∧Nt w wx b u l2) (fun o _ _=>(intOf o).toNat)
   case atStart=>exact ⟨k0,l,rfl,by rw [Hm.out],S4.out⟩
   rename World=>wi
   obtain ⟨k,l2,rfl,hk,hS⟩:=hrel
   obtain ⟨A2,C2,rfl,hlC2,hC2⟩:=hS.own.shape
   obtain ⟨m2,hm2⟩:∃ m,l2.length=m:=⟨_,rfl⟩
   rw [hm2] at hS hlC2 hk ⊢
   have Hm2:=Yw hm2
   have S7:=Yw hS
   clear hS hm2
   unfold maxLen at hC2
   by_cases hk2:0 < k
   ·have d2:decide ((0:Int) < (k:Int))=true:=Yf (by omega)
    obtain ⟨p,hp⟩:∃ p,k - 1=p:=⟨_,rfl⟩
    have r2:IntKind.i64.wrap ((k:Int) - 1)=(p:Int):=by rw [Yq _ (by omega)];omega
    go_wp2_with (at_builtin;refine Xx Zyb _ _ _ rfl rfl rfl rfl (S7.out.own.ext ((Yl _).alloc _)) rfl (Au _ 2 (v3:Int) 0 ⟨#[]⟩ _ _ rfl) (by rw [Hm2.out];show _+1≤_;omega) (by show 40≤1000;omega) (by have:=S7.out.src.lt;simp;omega) ?_;intro A5 n5 c5 w5 hg5;have S5:=Yw (S7.out.grow Hbw.out hg5);clear hg5)
    go_roundw
    case rel=>exact ⟨p,_,rfl,by rw [Zs,Hm2.out];show m2+1+p=_;omega,S5.out⟩
    case measure=>(simp [intOf];omega)
   obtain rfl:k=0:=by omega
   go_wp2_with fail
   go_roundw
   case rel=>exact ⟨l2,by rw [Hm2.out];omega,S7.out⟩
   case measure =>
    simp only [sliceLen]
    omega
  have d1:decide ((m:Int) < 60)=false:=Yg (by omega)
  go_wp2_with fail
  go_ret
  exact ⟨_,l,rfl,by rw [← Hm.out];exact Rd.mono (show RdE Zyb w1 (fun k=>b+1≤k) (.slice A l.length C) l by have:=S9.out.own.rd;rw [Hm.out];exact this) fun k hk _=>by have:=Hbw.out;omega,by rw [Hm.out];exact hl,S9.out.ext⟩
theorem Zz2 {S:Nat→Prop} (v:Value) (os:List Opn) (w:World) (ho:OpsAt w S v os) (hn:os.length≤610000000000):Calls Tryz.prog 54 #[v] w (Cq os w):=by
 obtain ⟨A,C,rfl⟩:=ho.shape
 obtain ⟨n,hnn⟩:∃ n,os.length=n:=⟨_,rfl⟩
 have Hnn:=Yw hnn
 have Ho:=Yw ho
 rw [hnn] at hn ⊢
 obtain ⟨B,hB⟩:∃ B,w.heap.size=B:=⟨_,rfl⟩
 have HB:=Yw hB
 clear hnn ho hB
 go_enter Tryz.func54,Tryz.ntmps54
 go_wp2_with fail
 go_loopw [10,3] (fun o u wr=>∃ (i:Nat) (out:List Nat),i≤n∧o=.int .i64 (i:Int)∧Own K9 wr B u out∧out.length≤i∧Bo os i out∧Ext w wr) (fun o _ _=>n - (intOf o).toNat)
 case atStart=>exact ⟨0,[],by omega,rfl,Own.nil _ _ _,by simp,⟨List.Pairwise.nil,fun j=>by simp⟩,Yl _⟩
 obtain ⟨i,out,hi,rfl,hown,hol,hpre,hx⟩:=hrel
 obtain ⟨Ao,Co,rfl,hlC,hCm⟩:=hown.shape
 obtain ⟨m,hm⟩:∃ m,out.length=m:=⟨_,rfl⟩
 rw [hm] at hown hol hlC ⊢
 have Hm:=Yw hm
 have Hown:=Yw hown
 have Hpre:=Yw hpre
 have Hx:=Yw hx
 have hBw:B≤wr.heap.size:=by rw [← HB.out];exact hx.size
 unfold maxLen at hCm
 clear hm hown hpre hx
 by_cases hin:i < n
 ·have hd_i:decide ((i:Int) < (n:Int))=true:=Yf (by omega)
  have i0_i:(0:Int)≤(i:Int):=by omega
  have i1_i:(i:Int) < (n:Int):=by omega
  obtain ⟨o,hoi⟩:∃ o,os[i]?=some o:=⟨os[i]'(by rw [Hnn.out];exact hin),Zz _⟩
  obtain ⟨g,p,c,hv,hc1,hc2,_,hA,hN⟩:=(Ho.out.ext Hx.out).get hoi
  rw [Hnn.out] at hv
  simp only [Ye] at hv
  obtain ⟨rfl,-,rfl⟩:=hv
  unfold maxLen at hc2
  have HA:=Yw hA
  obtain ⟨nA,nC,hnv⟩:=hN.shape
  have hone:o.nv.oneCell'=true:=by rw [hnv];rfl
  have hNd:=(Ii wr o).dec
  have hXa:=(Yl wr).alloc (opO o)
  have Hdo:=Yw (show Jj os i=o.dec from Jy hoi)
  clear hN hnv hA
  by_cases hdec:o.dec = -1
  ·have hdq:(o.dec == -1)=true:=by simp [hdec]
   have Hd:=Yw (show Pt os i=false by simp [Pt,Jy hoi,hdec])
   have Hoi:=Yw hoi
   clear hoi hdec
   go_wp2_with (first|(refine Vg HA.out rfl ?_)|(refine Vn rfl rfl rfl hone ?_))
   go_roundw
   case rel=>exact ⟨i+1,out,by omega,by go_num,by rw [← Hm.out];have:=Hown.out;rw [← Hm.out] at this;exact this.ext hXa,by rw [Hm.out];omega,Hpre.out.skip Hd.out,Hx.out.alloc _⟩
   case measure=>(simp [intOf];omega)
  have hdq:(o.dec == -1)=false:=by simp [hdec]
  have Hd:=Yw (show Pt os i=true by simp [Pt,Jy hoi,hdec])
  have Hoi:=Yw hoi
  clear hoi hdec
  go_wp2_with (first|(refine Vg HA.out rfl ?_)|(refine Vn rfl rfl rfl hone ?_))
  obtain ⟨bo,hbo⟩:∃ x,wr.heap.size=x:=⟨_,rfl⟩
  obtain ⟨W1,hW1⟩:∃ W,wr.alloc (opO o)=W:=⟨_,rfl⟩
  have hlt1:bo < W1.heap.size:=by rw [← hW1,← hbo];simp
  rw [hW1,hbo] at hNd
  rw [hW1] at hXa
  rw [hW1,hbo]
  have HXa:=Yw hXa
  clear hXa
  go_loopw [6] (fun o2 wx=>∃ k:Nat,k≤m∧o2=.int .i64 (k:Int)∧(∀ q j,k≤q→out[q]?=some j→o.dec < Jj os j)∧Ext W1 wx) (fun o2 _=>(intOf o2).toNat)
  case atStart=>exact ⟨m,by omega,rfl,fun q j h1 h2=>by have:=(Zr.1 h2).1;rw [Hm.out] at this;omega,Yl _⟩
  rename World=>wx
  obtain ⟨k,hk,rfl,hhi,hxk⟩:=hrel
  have Hhi:=Yw hhi
  have Xk:=Yw hxk
  have hdx:=(hxk.cell (p:=⟨bo,0+13,none⟩) hlt1).trans hNd
  clear hhi hxk
  rw [Nat.zero_add] at hdx
  have md:=lat hdx
  by_cases hk0:0 < k
  ·have e1:decide ((0:Int) < (k:Int))=true:=Yf (by omega)
   have e1n:decide (0 < k)=true:=Yf hk0
   obtain ⟨k1,hk1⟩:∃ x,k - 1=x:=⟨_,rfl⟩
   have r1:IntKind.i64.wrap ((k:Int) - 1)=(k1:Int):=by rw [Yq _ (by omega)];omega
   have i1:(0:Int)≤(k1:Int):=by omega
   have i2:(k1:Int) < (m:Int):=by omega
   have i3:k1 < m:=by omega
   obtain ⟨j,hj⟩:∃ x,out[k1]?=some x:=⟨out[k1]'(by rw [Hm.out];exact i3),Zz _⟩
   have hX1:Ext wr wx:=HXa.out.trans Xk.out
   obtain ⟨go,Co',hvo,hbo',hgo,_,_⟩:=(Hown.out.ext hX1).some_ (by rw [Hm.out];omega)
   rw [Hm.out] at hvo
   simp only [Ye,true_and] at hvo
   obtain ⟨rfl,rfl⟩:=hvo
   have cj:wx.cell? ⟨go,k1,none⟩=some (.int .i64 (j:Int)):=(Hown.out.ext hX1).at_ (Zqt hj)
   have mj:=lat cj
   have hjm:=(Hpre.out.mem j).1 (Zy hj)
   obtain ⟨oj,hoj⟩:∃ o,os[j]?=some o:=⟨os[j]'(by rw [Hnn.out];omega),Zz _⟩
   obtain ⟨g2,p2,c2,hv2,_,_,_,hA2,_⟩:=(Ho.out.ext (Hx.out.trans hX1)).get hoj
   rw [Hnn.out] at hv2
   simp only [Ye,Yd,Addr.mk.injEq,true_and,and_true] at hv2
   obtain ⟨⟨rfl,rfl⟩,rfl⟩:=hv2
   have cd:=hA2.dec
   have m3:=lat cd
   have j1:(0:Int)≤(j:Int):=by omega
   have j2:(j:Int) < (n:Int):=by omega
   have j3:j < n:=by omega
   have Hdj:=Yw (show Jj os j=oj.dec from Jy hoj)
   have Hj:=Yw hj
   clear hj hoj hA2 cj cd hdx hjm
   cases hcmp:decide (o.dec < oj.dec)
   ·have hge:¬ o.dec < oj.dec:=by simpa using hcmp
    have Hge:=Yw (show oj.dec≤o.dec by omega)
    clear hge
    go_upto_region 7 with fail
    have hun:=Yb
    refine Y0 (by kernel_rfl) (by kernel_rfl) ?_
    repeat ((with_reducible refine Yv ?_);intro K hK;go_simp;(with_reducible refine hK _ ?_);clear hK K)
    (with_reducible refine Yu ?_)
    intro w9 hy9
    clear hun
    try simp only [Yc]
    have Y9:=Yw (HXa.out.trans (Xk.out.trans hy9))
    clear hy9
    have O9:=Yw (Hown.out.ext Y9.out)
    have hB9:=Y9.out.size
    have R9:=Yw (show RdE K9 w9 (fun q=>B≤q∧q < w9.heap.size) (.slice (some ⟨go,0,none⟩) m Co) out from Rd.mono O9.out.rd fun q hq hl=>⟨hq,hl⟩)
    have T9:=Yw (show RdE K9 w9 (fun q=>B≤q∧q < w9.heap.size) (.slice (some ⟨go,0,none⟩) k Co) (out.take k) from RdE.take (by have:=R9.out;exact this) rfl (by rw [Hm.out];omega))
    have Tl9:=Yw (show (out.take k).length=k by rw [Zp,Hm.out];omega)
    have s0:(0:Int)≤(k:Int):=by omega
    have s1:(k:Int)≤(m:Int):=by omega
    have s2:(k:Int)≤(Co:Int):=by omega
    have s3:k≤Co:=by omega
    have s4:k≤m:=by omega
    by_cases hCk:Co=k
    ·have c1:∀ x y:Option Addr,(if Co=k then x else y)=x:=fun x y=>if_pos hCk
     have D9:=Yw (show RdE K9 w9 (fun q=>B≤q∧q < w9.heap.size) (.slice (some ⟨go,0,none⟩) (m - k) (Co - k)) (out.drop k) from RdE.drop (by have:=R9.out;exact this) rfl (by rw [Hm.out];omega) (by rw [Hm.out]) (fun h=>by omega) (by omega) (by unfold maxLen;omega))
     clear hCk
     go_wp2_with (first
      | (at_builtin;refine Wy K9 _ _ _ rfl rfl rfl rfl (Own.nil K9 _ w9.heap.size) rfl T9.out (by rw [Tl9.out];show 0+_≤maxLen;unfold maxLen;omega) (by rw [Tl9.out];show (0+_) * 8≤_;omega) (Yo _) ?_;intro A4 n4 c4 w4 hg4;have G4:=Yw hg4;have X4:=Yw (hg4.ext w9 (Yl _) (Yo _));have L4:=Yw (show n4=k by rw [hg4.len,Zo];exact Tl9.out);clear hg4)
      | (at_builtin;refine Wy K9 _ _ _ rfl rfl rfl rfl (G4.out.own.ext ((Yl _).alloc _)) rfl (Fv w4 i _ _ rfl) (by rw [← G4.out.len,L4.out];show _+1≤maxLen;unfold maxLen;omega) (by rw [← G4.out.len,L4.out];show (_+1) * 8≤_;omega) (by have:=X4.out.size;simp;omega) ?_;intro A5 n5 c5 w5 hg5;have G5:=Yw hg5;have X5:=Yw (hg5.ext w9 (X4.out.alloc _) (Yo _));have L5:=Yw (show n5=k+1 by rw [hg5.len,Zs,← G4.out.len,L4.out];rfl);clear hg5)
      | (at_builtin;refine Wy K9 _ _ _ rfl rfl rfl rfl G5.out.own rfl (RdE.ext D9.out X5.out) (by rw [← G5.out.len,L5.out,Z8,Hm.out];unfold maxLen;omega) (by rw [← G5.out.len,L5.out,Z8,Hm.out];show (_+_) * 8≤_;omega) X5.out.size ?_;intro A6 n6 c6 w6 hg6;have G6:=Yw hg6;have X6:=Yw (hg6.ext w9 X5.out (Yo _));have L6:=Yw (show n6=m+1 by rw [hg6.len,Zs,← G5.out.len,L5.out,Z8,Hm.out];omega);clear hg6))
     go_roundw
     case rel=>exact ⟨i+1,_,by omega,by go_num,by have h9:=G6.out.own;rw [Zo] at h9;exact h9.base (by omega),by rw [← Zo (out.take k)];have:=G6.out.len;rw [L6.out] at this;omega,Hpre.out.put Hd.out (by rw [Hm.out];omega) (fun q x h1 h2=>by rw [Hdo.out];exact Hhi.out q x h1 h2) (fun x _ h2=>by rw [hk1] at h2;rw [Hj.out] at h2;cases h2;rw [Hdj.out,Hdo.out];exact Hge.out),(Hx.out.trans Y9.out).trans X6.out⟩
     case measure=>(simp [intOf];omega)
    have c1:∀ x y:Option Addr,(if Co=k then x else y)=y:=fun x y=>if_neg hCk
    have D9:=Yw (show RdE K9 w9 (fun q=>B≤q∧q < w9.heap.size) (.slice (some ⟨go,k,none⟩) (m - k) (Co - k)) (out.drop k) from RdE.drop (by have:=R9.out;exact this) rfl (by rw [Hm.out];omega) (by rw [Hm.out]) (fun h=>by rw [Nat.zero_add]) (by omega) (by unfold maxLen;omega))
    clear hCk
    go_wp2_with (first
     | (at_builtin;refine Wy K9 _ _ _ rfl rfl rfl rfl (Own.nil K9 _ w9.heap.size) rfl T9.out (by rw [Tl9.out];show 0+_≤maxLen;unfold maxLen;omega) (by rw [Tl9.out];show (0+_) * 8≤_;omega) (Yo _) ?_;intro A4 n4 c4 w4 hg4;have G4:=Yw hg4;have X4:=Yw (hg4.ext w9 (Yl _) (Yo _));have L4:=Yw (show n4=k by rw [hg4.len,Zo];exact Tl9.out);clear hg4)
     | (at_builtin;refine Wy K9 _ _ _ rfl rfl rfl rfl (G4.out.own.ext ((Yl _).alloc _)) rfl (Fv w4 i _ _ rfl) (by rw [← G4.out.len,L4.out];show _+1≤maxLen;unfold maxLen;omega) (by rw [← G4.out.len,L4.out];show (_+1) * 8≤_;omega) (by have:=X4.out.size;simp;omega) ?_;intro A5 n5 c5 w5 hg5;have G5:=Yw hg5;have X5:=Yw (hg5.ext w9 (X4.out.alloc _) (Yo _));have L5:=Yw (show n5=k+1 by rw [hg5.len,Zs,← G4.out.len,L4.out];rfl);clear hg5)
     | (at_builtin;refine Wy K9 _ _ _ rfl rfl rfl rfl G5.out.own rfl (RdE.ext D9.out X5.out) (by rw [← G5.out.len,L5.out,Z8,Hm.out];unfold maxLen;omega) (by rw [← G5.out.len,L5.out,Z8,Hm.out];show (_+_) * 8≤_;omega) X5.out.size ?_;intro A6 n6 c6 w6 hg6;have G6:=Yw hg6;have X6:=Yw (hg6.ext w9 X5.out (Yo _));have L6:=Yw (show n6=m+1 by rw [hg6.len,Zs,← G5.out.len,L5.out,Z8,Hm.out];omega);clear hg6))
    go_roundw
    case rel=>exact ⟨i+1,_,by omega,by go_num,by have h9:=G6.out.own;rw [Zo] at h9;exact h9.base (by omega),by rw [← Zo (out.take k)];have:=G6.out.len;rw [L6.out] at this;omega,Hpre.out.put Hd.out (by rw [Hm.out];omega) (fun q x h1 h2=>by rw [Hdo.out];exact Hhi.out q x h1 h2) (fun x _ h2=>by rw [hk1] at h2;rw [Hj.out] at h2;cases h2;rw [Hdj.out,Hdo.out];exact Hge.out),(Hx.out.trans Y9.out).trans X6.out⟩
    case measure=>(simp [intOf];omega)
   have hlt:o.dec < oj.dec:=by simpa using hcmp
   have Hlt:=Yw hlt
   clear hlt
   go_upto_region 7 with fail
   have hun:=Yb
   refine Y0 (by kernel_rfl) (by kernel_rfl) ?_
   repeat ((with_reducible refine Yv ?_);intro K hK;go_simp;(with_reducible refine hK _ ?_);clear hK K)
   (with_reducible refine Yu ?_)
   intro w9 hy9
   clear hun
   try simp only [Yc]
   go_wp2_with fail
   go_roundw
   case rel =>
    refine ⟨k1,by omega,rfl,fun q x h1 h2=>?_,Xk.out.trans hy9⟩
    rcases (show k≤q∨q=k1 by omega) with h3|rfl
    ·exact Hhi.out q x h3 h2
    rw [Hj.out] at h2;cases h2;rw [Hdj.out];exact Hlt.out
   case measure=>(simp [intOf];omega)
  have e1:decide ((0:Int) < (k:Int))=false:=Yg (by omega)
  have e1n:decide (0 < k)=false:=Yg hk0
  have Hk0:=Yw (show k=0 by omega)
  clear hk0
  go_upto_region 7 with fail
  have hA0:(Ao=none∧Hid (m=0)∧Hid (Co=0))∨∃ g,Ao=some ⟨g,0,none⟩:=by
   rcases Hown.out.2 with ⟨h1,h2⟩ | ⟨g,c,_,h1,_⟩
   ·simp only [Ye] at h1;exact .inl ⟨h1.1,Yw (by rw [← Hm.out];exact h2),Yw h1.2.2⟩
   simp only [Ye] at h1;exact .inr ⟨g,h1.1⟩
  rcases hA0 with ⟨rfl,Hm0,HC0⟩ | ⟨go,rfl⟩
  ·have hun:=Yb
   refine Y0 (by kernel_rfl) (by kernel_rfl) ?_
   repeat ((with_reducible refine Yv ?_);intro K hK;go_simp;(with_reducible refine hK _ ?_);clear hK K)
   (with_reducible refine Yu ?_)
   intro w9 hy9
   clear hun
   try simp only [Yc]
   have Y9:=Yw (HXa.out.trans (Xk.out.trans hy9))
   clear hy9
   have O9:=Yw (Hown.out.ext Y9.out)
   have hB9:=Y9.out.size
   have R9:=Yw (show RdE K9 w9 (fun q=>B≤q∧q < w9.heap.size) (.slice none m Co) out from Rd.mono O9.out.rd fun q hq hl=>⟨hq,hl⟩)
   have T9:=Yw (show RdE K9 w9 (fun q=>B≤q∧q < w9.heap.size) (.slice none k Co) (out.take k) from RdE.take (by have:=R9.out;exact this) rfl (by rw [Hm.out];omega))
   have Tl9:=Yw (show (out.take k).length=k by rw [Zp,Hm.out];omega)
   have s0:(0:Int)≤(k:Int):=by omega
   have s1:(k:Int)≤(m:Int):=by omega
   have s2:(k:Int)≤(Co:Int):=by omega
   have s3:k≤Co:=by omega
   have s4:k≤m:=by omega
   have D9:=Yw (show RdE K9 w9 (fun q=>B≤q∧q < w9.heap.size) (.slice none (m - k) (Co - k)) (out.drop k) from by have h1:=Hk0.out;have h2:=R9.out;rw [show m - k=m by omega,show Co - k=Co by omega,h1,Z5];exact h2)
   go_wp2_with (first
    | (at_builtin;refine Wy K9 _ _ _ rfl rfl rfl rfl (Own.nil K9 _ w9.heap.size) rfl T9.out (by rw [Tl9.out];show 0+_≤maxLen;unfold maxLen;omega) (by rw [Tl9.out];show (0+_) * 8≤_;omega) (Yo _) ?_;intro A4 n4 c4 w4 hg4;have G4:=Yw hg4;have X4:=Yw (hg4.ext w9 (Yl _) (Yo _));have L4:=Yw (show n4=k by rw [hg4.len,Zo];exact Tl9.out);clear hg4)
    | (at_builtin;refine Wy K9 _ _ _ rfl rfl rfl rfl (G4.out.own.ext ((Yl _).alloc _)) rfl (Fv w4 i _ _ rfl) (by rw [← G4.out.len,L4.out];show _+1≤maxLen;unfold maxLen;omega) (by rw [← G4.out.len,L4.out];show (_+1) * 8≤_;omega) (by have:=X4.out.size;simp;omega) ?_;intro A5 n5 c5 w5 hg5;have G5:=Yw hg5;have X5:=Yw (hg5.ext w9 (X4.out.alloc _) (Yo _));have L5:=Yw (show n5=k+1 by rw [hg5.len,Zs,← G4.out.len,L4.out];rfl);clear hg5)
    | (at_builtin;refine Wy K9 _ _ _ rfl rfl rfl rfl G5.out.own rfl (RdE.ext D9.out X5.out) (by rw [← G5.out.len,L5.out,Z8,Hm.out];unfold maxLen;omega) (by rw [← G5.out.len,L5.out,Z8,Hm.out];show (_+_) * 8≤_;omega) X5.out.size ?_;intro A6 n6 c6 w6 hg6;have G6:=Yw hg6;have X6:=Yw (hg6.ext w9 X5.out (Yo _));have L6:=Yw (show n6=m+1 by rw [hg6.len,Zs,← G5.out.len,L5.out,Z8,Hm.out];omega);clear hg6))
   go_roundw
   case rel=>exact ⟨i+1,_,by omega,by go_num,by have h9:=G6.out.own;rw [Zo] at h9;exact h9.base (by omega),by rw [← Zo (out.take k)];have:=G6.out.len;rw [L6.out] at this;omega,Hpre.out.put Hd.out (by rw [Hm.out];omega) (fun q x h1 h2=>by rw [Hdo.out];exact Hhi.out q x h1 h2) (fun x h1 _=>absurd h1 (by have:=Hk0.out;omega)),(Hx.out.trans Y9.out).trans X6.out⟩
   case measure=>(simp [intOf];omega)
  have hun:=Yb
  refine Y0 (by kernel_rfl) (by kernel_rfl) ?_
  repeat ((with_reducible refine Yv ?_);intro K hK;go_simp;(with_reducible refine hK _ ?_);clear hK K)
  (with_reducible refine Yu ?_)
  intro w9 hy9
  clear hun
  try simp only [Yc]
  have Y9:=Yw (HXa.out.trans (Xk.out.trans hy9))
  clear hy9
  have O9:=Yw (Hown.out.ext Y9.out)
  have hB9:=Y9.out.size
  have R9:=Yw (show RdE K9 w9 (fun q=>B≤q∧q < w9.heap.size) (.slice (some ⟨go,0,none⟩) m Co) out from Rd.mono O9.out.rd fun q hq hl=>⟨hq,hl⟩)
  have T9:=Yw (show RdE K9 w9 (fun q=>B≤q∧q < w9.heap.size) (.slice (some ⟨go,0,none⟩) k Co) (out.take k) from RdE.take (by have:=R9.out;exact this) rfl (by rw [Hm.out];omega))
  have Tl9:=Yw (show (out.take k).length=k by rw [Zp,Hm.out];omega)
  have s0:(0:Int)≤(k:Int):=by omega
  have s1:(k:Int)≤(m:Int):=by omega
  have s2:(k:Int)≤(Co:Int):=by omega
  have s3:k≤Co:=by omega
  have s4:k≤m:=by omega
  by_cases hCk:Co=k
  ·have c1:∀ x y:Option Addr,(if Co=k then x else y)=x:=fun x y=>if_pos hCk
   have D9:=Yw (show RdE K9 w9 (fun q=>B≤q∧q < w9.heap.size) (.slice (some ⟨go,0,none⟩) (m - k) (Co - k)) (out.drop k) from RdE.drop (by have:=R9.out;exact this) rfl (by rw [Hm.out];omega) (by rw [Hm.out]) (fun h=>by omega) (by omega) (by unfold maxLen;omega))
   clear hCk
   go_wp2_with (first
    | (at_builtin;refine Wy K9 _ _ _ rfl rfl rfl rfl (Own.nil K9 _ w9.heap.size) rfl T9.out (by rw [Tl9.out];show 0+_≤maxLen;unfold maxLen;omega) (by rw [Tl9.out];show (0+_) * 8≤_;omega) (Yo _) ?_;intro A4 n4 c4 w4 hg4;have G4:=Yw hg4;have X4:=Yw (hg4.ext w9 (Yl _) (Yo _));have L4:=Yw (show n4=k by rw [hg4.len,Zo];exact Tl9.out);clear hg4)
    | (at_builtin;refine Wy K9 _ _ _ rfl rfl rfl rfl (G4.out.own.ext ((Yl _).alloc _)) rfl (Fv w4 i _ _ rfl) (by rw [← G4.out.len,L4.out];show _+1≤maxLen;unfold maxLen;omega) (by rw [← G4.out.len,L4.out];show (_+1) * 8≤_;omega) (by have:=X4.out.size;simp;omega) ?_;intro A5 n5 c5 w5 hg5;have G5:=Yw hg5;have X5:=Yw (hg5.ext w9 (X4.out.alloc _) (Yo _));have L5:=Yw (show n5=k+1 by rw [hg5.len,Zs,← G4.out.len,L4.out];rfl);clear hg5)
    | (at_builtin;refine Wy K9 _ _ _ rfl rfl rfl rfl G5.out.own rfl (RdE.ext D9.out X5.out) (by rw [← G5.out.len,L5.out,Z8,Hm.out];unfold maxLen;omega) (by rw [← G5.out.len,L5.out,Z8,Hm.out];show (_+_) * 8≤_;omega) X5.out.size ?_;intro A6 n6 c6 w6 hg6;have G6:=Yw hg6;have X6:=Yw (hg6.ext w9 X5.out (Yo _));have L6:=Yw (show n6=m+1 by rw [hg6.len,Zs,← G5.out.len,L5.out,Z8,Hm.out];omega);clear hg6))
   go_roundw
   case rel=>exact ⟨i+1,_,by omega,by go_num,by have h9:=G6.out.own;rw [Zo] at h9;exact h9.base (by omega),by rw [← Zo (out.take k)];have:=G6.out.len;rw [L6.out] at this;omega,Hpre.out.put Hd.out (by rw [Hm.out];omega) (fun q x h1 h2=>by rw [Hdo.out];exact Hhi.out q x h1 h2) (fun x h1 _=>absurd h1 (by have:=Hk0.out;omega)),(Hx.out.trans Y9.out).trans X6.out⟩
   case measure=>(simp [intOf];omega)
  have c1:∀ x y:Option Addr,(if Co=k then x else y)=y:=fun x y=>if_neg hCk
  have D9:=Yw (show RdE K9 w9 (fun q=>B≤q∧q < w9.heap.size) (.slice (some ⟨go,k,none⟩) (m - k) (Co - k)) (out.drop k) from RdE.drop (by have:=R9.out;exact this) rfl (by rw [Hm.out];omega) (by rw [Hm.out]) (fun h=>by rw [Nat.zero_add]) (by omega) (by unfold maxLen;omega))
  clear hCk
  go_wp2_with (first
   | (at_builtin;refine Wy K9 _ _ _ rfl rfl rfl rfl (Own.nil K9 _ w9.heap.size) rfl T9.out (by rw [Tl9.out];show 0+_≤maxLen;unfold maxLen;omega) (by rw [Tl9.out];show (0+_) * 8≤_;omega) (Yo _) ?_;intro A4 n4 c4 w4 hg4;have G4:=Yw hg4;have X4:=Yw (hg4.ext w9 (Yl _) (Yo _));have L4:=Yw (show n4=k by rw [hg4.len,Zo];exact Tl9.out);clear hg4)
   | (at_builtin;refine Wy K9 _ _ _ rfl rfl rfl rfl (G4.out.own.ext ((Yl _).alloc _)) rfl (Fv w4 i _ _ rfl) (by rw [← G4.out.len,L4.out];show _+1≤maxLen;unfold maxLen;omega) (by rw [← G4.out.len,L4.out];show (_+1) * 8≤_;omega) (by have:=X4.out.size;simp;omega) ?_;intro A5 n5 c5 w5 hg5;have G5:=Yw hg5;have X5:=Yw (hg5.ext w9 (X4.out.alloc _) (Yo _));have L5:=Yw (show n5=k+1 by rw [hg5.len,Zs,← G4.out.len,L4.out];rfl);clear hg5)
   | (at_builtin;refine Wy K9 _ _ _ rfl rfl rfl rfl G5.out.own rfl (RdE.ext D9.out X5.out) (by rw [← G5.out.len,L5.out,Z8,Hm.out];unfold maxLen;omega) (by rw [← G5.out.len,L5.out,Z8,Hm.out];show (_+_) * 8≤_;omega) X5.out.size ?_;intro A6 n6 c6 w6 hg6;have G6:=Yw hg6;have X6:=Yw (hg6.ext w9 X5.out (Yo _));have L6:=Yw (show n6=m+1 by rw [hg6.len,Zs,← G5.out.len,L5.out,Z8,Hm.out];omega);clear hg6))
  go_roundw
  case rel=>exact ⟨i+1,_,by omega,by go_num,by have h9:=G6.out.own;rw [Zo] at h9;exact h9.base (by omega),by rw [← Zo (out.take k)];have:=G6.out.len;rw [L6.out] at this;omega,Hpre.out.put Hd.out (by rw [Hm.out];omega) (fun q x h1 h2=>by rw [Hdo.out];exact Hhi.out q x h1 h2) (fun x h1 _=>absurd h1 (by have:=Hk0.out;omega)),(Hx.out.trans Y9.out).trans X6.out⟩
  case measure=>(simp [intOf];omega)
 have hd_i:decide ((i:Int) < (n:Int))=false:=Yg (by omega)
 obtain rfl:i=n:=by omega
 go_wp2_with fail
 go_ret
 have hp:=Hpre.out
 have hres:out=Ds os:=by rw [← Hnn.out] at hp;exact hp.done
 refine ⟨_,rfl,?_,Hx.out⟩
 have h9:=Hown.out.rd
 rw [HB.out]
 unfold O7
 rw [← hres,Hm.out]
 have h8:Rd wr (fun k=>B≤k) 1 (.slice Ao m Co) out.length (out.map Zy5):=h9
 rwa [Hm.out] at h8
theorem Ei {S:Nat→Prop} (v:Value) (os:List Opn) (w:World) (ho:OpsAt w S v os) (hn:os.length≤610000000000) (hns:∀ o∈os,o.ns.length * 48≤140737488351232):Calls Tryz.prog 16 #[v] w (Dl os w):=by
 obtain ⟨A,C,rfl⟩:=ho.shape
 obtain ⟨n,hnn⟩:∃ n,os.length=n:=⟨_,rfl⟩
 have Hnn:=Yw hnn
 have Ho:=Yw ho
 have Hns:=Yw hns
 rw [hnn] at hn ⊢
 clear hnn ho hns
 go_enter Tryz.func16,Tryz.ntmps16
 go_wp2_with fail
 refine (Zz2 _ os _ (by have:=Ho.out;rwa [Hnn.out] at this) (by rw [Hnn.out];omega)).mono ?_
 rintro e w1 ⟨rv,rfl,hrow,hx1⟩
 obtain ⟨m,hm⟩:∃ m,(Ds os).length=m:=⟨_,rfl⟩
 obtain ⟨Ar,Cr,rfl,hlr,hcr⟩:∃ Ar Cr,rv=.slice Ar m Cr∧m≤Cr∧Cr≤maxLen:=by
  obtain ⟨_,Ar,Cr,h1,h2,h3,_⟩:=hrow
  rw [hm] at h1 h2
  exact ⟨Ar,Cr,h1,h2,h3⟩
 have Hm:=Yw hm
 have Hrow:=Yw hrow
 have Hx1:=Yw hx1
 have hmn:m≤n:=by
  rw [← hm,← Hnn.out]
  exact Ij os
 unfold maxLen at hcr
 clear hrow hx1 hm
 go_wp2_with fail
 go_loopw [12,3] (fun o u wr=>∃ (i:Nat) (ps:List Zty),i≤m∧o=.int .i64 (i:Int)∧Ztz w1 wr u ps∧ps.length≤i∧ps.map (fun p=>p.1.1)=Ee os ((Ds os).take i)) (fun o _ _=>m - (intOf o).toNat)
 case atStart=>exact ⟨0,[],by omega,rfl,⟨Own.nil _ _ _,by simp,Yl _⟩,by simp,by simp [Ee]⟩
 rename World=>wr
 obtain ⟨i,ps,hi,rfl,hS,hpl,hps⟩:=hrel
 obtain ⟨Ao,Co,rfl,hlC,hCm⟩:=hS.own.shape
 obtain ⟨k,hk⟩:∃ k,ps.length=k:=⟨_,rfl⟩
 rw [hk] at hS hpl hlC ⊢
 have Hk:=Yw hk
 have S0:=Yw hS
 have Hps:=Yw hps
 unfold maxLen at hCm
 clear hk hS hps
 by_cases him:i < m
 ·have hd_i:decide ((i:Int) < (m:Int))=true:=Yf (by omega)
  have i0_i:(0:Int)≤(i:Int):=by omega
  have i1_i:(i:Int) < (m:Int):=by omega
  obtain ⟨j,hj⟩:∃ j,(Ds os)[i]?=some j:=⟨(Ds os)[i]'(by rw [Hm.out];exact him),Zz _⟩
  obtain ⟨gr,pr,cr,hvr,_,hgr,cj⟩:=Tb (Rd.ext Hrow.out S0.out.ext) hj
  rw [Hm.out] at hvr
  simp only [Ye,true_and] at hvr
  obtain ⟨rfl,rfl⟩:=hvr
  have hjn:j < n:=by rw [← Hnn.out];exact Bh ((Fm os).mem j |>.1 (Zy hj))
  obtain ⟨o,hoj⟩:∃ o,os[j]?=some o:=⟨os[j]'(by rw [Hnn.out];exact hjn),Zz _⟩
  obtain ⟨g,p,c,hv,hc1,hc2,_,hA,hN⟩:=(Ho.out.ext (Hx1.out.trans S0.out.ext)).get hoj
  rw [Hnn.out] at hv
  simp only [Ye,true_and] at hv
  obtain ⟨rfl,rfl⟩:=hv
  unfold maxLen at hc2
  have HA:=Yw hA
  obtain ⟨nA,nC,hnv⟩:=hN.shape
  have hone:o.nv.oneCell'=true:=by rw [hnv];rfl
  have HN:=Yw hN
  have hns16:=Hns.out o (Zy hoj)
  have Hj:=Yw hj
  have Hoj:=Yw hoj
  have j0:(0:Int)≤(j:Int):=by omega
  have j1:(j:Int) < (n:Int):=by omega
  clear hj hoj hN hnv hA
  go_upto_region 7 with (first|(refine Vg HA.out rfl ?_)|(refine Vn rfl rfl rfl hone ?_))
  have hOp:=Ii wr o
  have hXa:=(Yl wr).alloc (opO o)
  obtain ⟨bo,hbo⟩:∃ x,wr.heap.size=x:=⟨_,rfl⟩
  obtain ⟨W1,hW1⟩:∃ W,wr.alloc (opO o)=W:=⟨_,rfl⟩
  rw [hW1,hbo] at hOp
  rw [hW1] at hXa
  rw [hW1,hbo]
  have S1:=Yw (S0.out.up hXa)
  have N1:=Yw (Rd.ext HN.out hXa)
  have f0:=hOp.2 0 (by omega)
  have f1:=hOp.2 1 (by omega)
  have f2:=hOp.2 2 (by omega)
  have f3:=hOp.2 3 (by omega)
  have f4:=hOp.2 4 (by omega)
  have f15:=hOp.2 15 (by omega)
  have f22:=hOp.2 22 (by omega)
  simp only [opC,Nat.zero_add,Zx,Zw] at f0 f1 f2 f3 f4 f15 f22
  have HO:=Yw hOp
  have hob:=hOp.1
  have Hbo:=Yw hbo
  clear hXa hOp hW1 hbo cj HA hone
  cases h1:(o.bad.e == 0)
  ·have hno:=Yw (show Jr o=none by unfold Jr;rw [h1];rfl)
   go_wp2_with fail
   go_roundw
   case rel=>exact ⟨i+1,ps,by omega,by go_num,by have:=S1.out;exact this,by rw [Hk.out];omega,Uv Hps.out Hj.out Hoj.out hno.out⟩
   case measure=>(simp [intOf];omega)
  cases h2:(o.res.e == 0)
  ·have hno:=Yw (show Jr o=none by unfold Jr;rw [h1,h2];rfl)
   go_wp2_with fail
   go_roundw
   case rel=>exact ⟨i+1,ps,by omega,by go_num,by have:=S1.out;exact this,by rw [Hk.out];omega,Uv Hps.out Hj.out Hoj.out hno.out⟩
   case measure=>(simp [intOf];omega)
  cases h3:(o.op == 7)
  rotate_left
  ·have hno:=Yw (show Jr o=none by unfold Jr;rw [h1,h2,h3];rfl)
   go_wp2_with fail
   go_roundw
   case rel=>exact ⟨i+1,ps,by omega,by go_num,by have:=S1.out;exact this,by rw [Hk.out];omega,Uv Hps.out Hj.out Hoj.out hno.out⟩
   case measure=>(simp [intOf];omega)
  have hyes:=Yw (show Jr o=some ⟨o.cl,o.op,o.ttl,o.res.tick,o.ns⟩ by unfold Jr;rw [h1,h2,h3];rfl)
  go_upto_region 8 with fail
  have hns0:o.ns.length≤3000000000000:=by omega
  refine wp_region_held_drew (S:=fun w'=>OpF w' bo o) (by kernel_rfl) (HO.out.ext (Yl _).drew).f (fun hHeld=>?_)
  have Sd:=Yw (S1.out.up (Yl W1).drew)
  have Od:=Yw (HO.out.ext (Yl W1).drew)
  have Nd:=Yw (Rd.ext N1.out (Yl W1).drew)
  obtain ⟨Wd,hWd⟩:∃ V,W1.drew=V:=⟨_,rfl⟩
  rw [hWd] at Sd Od Nd hHeld
  rw [hWd]
  clear hWd S1 HO N1 f0 f1 f2 f3 f4 f15 f22 hob
  refine Xw [0,1,2,3,4,5,6,7,8,9,10,11] 5 (by rfl) (by kernel_rfl) (by kernel_rfl) (fun _ _ d _ _ h=>by cases d<;>exact h) hHeld ?_
  simp only [Z1,Z2,Z3,Zw,Zx]
  repeat (refine Xu (v:=?_) (by kernel_rfl) ?_ ?_;rotate_left;(focus ((intro wT hST;obtain ⟨h0,h1,h2,h3,h22⟩:=hST;go_simp);(first|done|(with_reducible rfl))));(try simp only [Act.put,Zv,Zu,Zt]))
  refine Xt ?_
  clear hHeld
  refine wpAnyH_ready (rs:=[12]) (by kernel_rfl) (by simp) ?_;refine Ys (o:=_) rfl (fun K hK=>?_) Yr
  refine Bn nmE (Operand.const (Value.slice none 0 0)) (.tmp 46) 49 (by rfl) (by rfl) (by rfl) (by rfl) (Own.nil nmE _ Wd.heap.size) (by rfl) Nd.out (by show 0+_≤maxLen;unfold maxLen;omega) (by show (0+_) * 48≤_;omega) (Yo _) ?_
  intro A5 n5 c5 w5 hg5
  have X5:=Yw (hg5.ext Wd (Yl _) (Yo _))
  have S5:=Yw (Sd.out.up X5.out)
  have O5:=Yw (Od.out.ext X5.out)
  have N5:=Yw (show Wq w5 (fun q=>w1.heap.size≤q∧(Value.slice Ao k Co).ownBlock≠some q) (.slice A5 n5 c5) o.ns from by
   have h7:=hg5.own.rd
   rw [Zo] at h7
   have h8:=hg5.len
   rw [Zo] at h8
   subst h8
   exact Rd.mono h7 fun q hq _=>⟨by have:=Sd.out.ext.size;omega,fun e=>by have:=(Sd.out.own.lt q e).2;omega⟩)
  clear hg5
  refine hK.out _ _ O5.out.f (fun hHeld=>?_)
  clear hK K Sd Od Nd X5
  try simp only [Act.put,Zv,Zu,Zt]
  refine Xw [13] 3 (by rfl) (by kernel_rfl) (by kernel_rfl) (fun _ _ d _ _ h=>by cases d<;>exact h) hHeld ?_
  simp only [Z1,Z2,Z3,Zw,Zx]
  repeat (refine Xu (v:=?_) (by kernel_rfl) ?_ ?_;rotate_left;(focus ((intro wT hST;obtain ⟨h0,h1,h2,h3,h22⟩:=hST;go_simp);(first|done|(with_reducible rfl))));(try simp only [Act.put,Zv,Zu,Zt]))
  refine Xt ?_
  clear hHeld
  refine wpAnyH_ready (rs:=[14]) (by kernel_rfl) (by simp) ?_;refine Ys (o:=_) rfl (fun K hK=>?_) Yr
  go_simp
  refine hK.out _ _ (O5.out.ext ((Yl _).alloc _)).f (fun hHeld=>?_)
  clear hHeld hK K
  try simp only [Act.put,Zv,Zu,Zt]
  refine wpAnyH_ready (rs:=[15]) (by kernel_rfl) (by simp) ?_;refine Ys (o:=_) rfl (fun K hK=>?_) Yr
  refine Bn Zox (.tmp 35) (.tmp 49) 43 (by rfl) (by rfl) (by rfl) (by rfl) (S5.out.own.ext ((Yl _).alloc _)) (by rfl) (Zwh w5 o.cl o.op o.ttl o.res.tick o.ns A5 n5 c5 _ rfl) (by rw [Hk.out];show k+1≤maxLen;unfold maxLen;omega) (by rw [Hk.out];show (k+1) * 56≤_;omega) (by have:=S5.out.ext.size;simp;omega) ?_
  intro A6 n6 c6 w6 hg6
  have S6:=Yw (S5.out.more N5.out hg6)
  have O6:=Yw ((O5.out.ext ((Yl _).alloc _)).chg hg6.chg (fun e=>by have:=(S0.out.own.lt bo e).2;have:=Hbo.out;omega))
  clear hg6
  refine hK.out _ _ O6.out.f (fun hHeld=>?_)
  clear hK K
  try simp only [Act.put,Zv,Zu,Zt]
  refine Xw [16] 0 (by rfl) (by kernel_rfl) (by kernel_rfl) (fun _ _ d _ _ h=>by cases d<;>exact h) hHeld ?_
  simp only [Z1,Z2,Z3,Zw,Zx]
  repeat (refine Xu (v:=?_) (by kernel_rfl) ?_ ?_;rotate_left;(focus ((intro wT hST;obtain ⟨h0,h1,h2,h3,h22⟩:=hST;go_simp);(first|done|(with_reducible rfl))));(try simp only [Act.put,Zv,Zu,Zt]))
  refine Xt ?_
  clear hHeld
  refine wpAnyH_done (by kernel_rfl) ?_ _
  go_wp2_with fail
  go_roundw
  case rel=>exact ⟨i+1,_,by omega,by go_num,S6.out,by rw [Zs,Hk.out];show k+1≤_;omega,by rw [Z9];exact Pf Hps.out Hj.out Hoj.out hyes.out⟩
  case measure=>(simp [intOf];omega)
 have hd_i:decide ((i:Int) < (m:Int))=false:=Yg (by omega)
 obtain rfl:i=m:=by omega
 go_wp2_with fail
 go_ret
 refine ⟨_,_,rfl,V7.mono S0.out.ents (fun k hk=>Nat.le_trans Hx1.out.size hk),?_,Hx1.out.trans S0.out.ext⟩
 rw [List.map_map,← List.take_length (l:=Ds os),Hm.out]
 exact Hps.out
def awN:Nm:=⟨⟨#[97]⟩,⟨#[97]⟩,⟨#[97]⟩⟩
def awE:Ent:=⟨0,1,5,0,[awN]⟩
theorem Zx0:V8 awE=0:=by decide
theorem Il:(Wm awE).length≤190:=by
 have h:=Zsj (e:=awE) (by unfold I64 awE;simp) (by unfold I64 awE;simp) (by unfold I64 awE;simp) (by unfold I64 awE;simp) (by simp [awE])
 have k1:=Zrs (s:=awN.a.data.toList) (by simp [awN])
 have g1:awN.a.data.toList.length=1:=rfl
 have e1:Xo awE.names=item awN.a.data.toList++item awN.a.data.toList++item awN.a.data.toList:=by simp [awE,awN,Xo,Wg]
 rw [Wm,Zs,e1]
 simp only [Zs];omega
theorem Iv:(Jd awE).1=0:=by rw [Zrg Zx0 (by have:=Il;omega)]
theorem Zq6:appJ [] awE=(0,Vo [awE]):=Zxm (l:=[]) (by simp [Zyh]) (by simp) Iv
theorem Ztm:Kq (Vo [awE])=([awE],(Vo [awE]).length):=Fs (by simp [Zyh,Iv]) (by simp)
theorem Zpk:0 < (Vo [awE]).length:=by
 obtain ⟨_,h,_⟩:=Eb (e:=awE) (x:=(Jd awE).2) (Prod.ext Iv rfl)
 have:=Ic (Wm awE)
 simp only [Vo,List.append_nil,h];exact this
theorem Zqm:(Vo [awE]).length≤4200:=by
 have:=Ax (l:=[awE]) (by simp [Zyh,Iv])
 simpa using this
theorem Zwq (w:World):Wq (w.alloc (.cells #[.string ⟨#[97]⟩,.string ⟨#[97]⟩,.string ⟨#[97]⟩] 109)) (fun _=>True) (.slice (some ⟨w.heap.size,0,none⟩) 1 1) awE.names:=by
 have e1:Xb awE.names=[.string ⟨#[97]⟩,.string ⟨#[97]⟩,.string ⟨#[97]⟩]:=rfl
 have e2:awE.names.length=1:=rfl
 unfold Wq
 rw [e1,e2]
 exact Zv8 w _ _ _
theorem Zsu {w:World} {v:Value} (h:Wq (w.alloc (.cells #[.int .i64 0,.int .i64 1,.int .i64 5,.int .i64 0,v] 83)) (fun _=>True) v awE.names) :
 V7 (w.alloc (.cells #[.int .i64 0,.int .i64 1,.int .i64 5,.int .i64 0,v] 83)) (fun _=>True) (.slice (some ⟨w.heap.size,0,none⟩) 1 1) [(awE,v)]:=by
 have e1:Ws [(awE,v)]=[.int .i64 0,.int .i64 1,.int .i64 5,.int .i64 0,v]:=by simp [Ws,Vm,awE]
 have e2:[(awE,v)].length=1:=rfl
 refine ⟨?_,fun p hp=>?_⟩
 ·rw [e1,e2];exact Zvk w 0 1 5 0 v
 rw [Zi.1 hp];exact h
theorem Zqb (w:World):Calls Tryz.prog 13 #[] w fun e w'=>e=.returned (.bool true)∧Ext w w':=by
 obtain ⟨L,hL⟩:∃ L,Vo [awE]=L:=⟨_,rfl⟩
 have hap:=Zq6
 have hrd:=Ztm
 have hpos:=Zpk
 have hlen:=Zqm
 rw [hL] at hap hrd hpos hlen
 obtain ⟨jb,hjb⟩:∃ jb,bs L=jb:=⟨_,rfl⟩
 have hjs:jb.size=L.length:=by rw [← hjb,Qi]
 have hjd:jb.data.toList=L:=by rw [← hjb];rfl
 have Hap:=Yw hap
 have Hrd:=Yw hrd
 have Hjb:=Yw hjb
 have Hjs:=Yw hjs
 have Hjd:=Yw hjd
 clear hap hrd hjb hjs hjd hL
 go_enter Tryz.func13,Tryz.ntmps13
 go_wp2_with fail
 refine (Zyt (S:=fun _=>True) ⟨#[]⟩ awE _ (by decide) _ (Wq.ext (Zwq w) ((Yl _).alloc _)) (by have:=Il;omega)).mono ?_
 rintro x w1 ⟨rfl,hx1⟩
 rw [show (⟨#[]⟩:ByteArray).data.toList=[] from rfl,Hap.out]
 simp only
 rw [Hjb.out]
 have Hnm1:=Yw (Wq.ext (Zwq w) (Yh ((Yl _).alloc _) hx1))
 have Hx1:=Yw (Yh (((Yl w).alloc (.cells #[.string ⟨#[97]⟩,.string ⟨#[97]⟩,.string ⟨#[97]⟩] 109)).alloc _) hx1)
 have hc0:w1.cell? ⟨w.heap.size+1,0,none⟩=some (.int .i64 0):=(hx1.cell (by simp)).trans (by go_simp)
 have hc1:w1.cell? ⟨w.heap.size+1,1,none⟩=some (.int .i64 1):=(hx1.cell (by simp)).trans (by go_simp)
 have hc2:w1.cell? ⟨w.heap.size+1,2,none⟩=some (.int .i64 5):=(hx1.cell (by simp)).trans (by go_simp)
 have hc3:w1.cell? ⟨w.heap.size+1,3,none⟩=some (.int .i64 0):=(hx1.cell (by simp)).trans (by go_simp)
 have hc4:w1.cell? ⟨w.heap.size+1,4,none⟩=some (.slice (some ⟨w.heap.size,0,none⟩) 1 1):=(hx1.cell (by simp)).trans (by go_simp)
 have hw1:w.heap.size+1 < w1.heap.size:=by have:=hx1.size;simp at this;omega
 clear hx1
 go_wp2_with fail
 refine (I6 jb (by have:=Hjs.out;omega) _).mono ?_
 rintro x w2 ⟨hx2,v,ps,rfl,hps,hents⟩
 rw [Hjd.out,Hrd.out] at hps
 rw [Hjd.out,Hrd.out]
 obtain ⟨A,C,rfl⟩:=hents.shape
 simp only at hps
 have hpl:ps.length=1:=by have:=congrArg List.length hps;simpa using this
 have d0:=(hx2.cell (p:=⟨w.heap.size+1,0,none⟩) hw1).trans hc0
 have d1:=(hx2.cell (p:=⟨w.heap.size+1,1,none⟩) hw1).trans hc1
 have d2:=(hx2.cell (p:=⟨w.heap.size+1,2,none⟩) hw1).trans hc2
 have d3:=(hx2.cell (p:=⟨w.heap.size+1,3,none⟩) hw1).trans hc3
 have d4:=(hx2.cell (p:=⟨w.heap.size+1,4,none⟩) hw1).trans hc4
 have Hents:=Yw hents
 have Hps:=Yw hps
 have Hnm2:=Yw (Wq.ext (Hnm1.out.ext hx2) ((Yl _).alloc (.cells #[.int .i64 0,.int .i64 1,.int .i64 5,.int .i64 0,.slice (some ⟨w.heap.size,0,none⟩) 1 1] 83)))
 have Hx2:=Yw (Hx1.out.trans hx2)
 have hjs:=Hjs.out
 have hpos':(0:Int) < (L.length:Int):=by omega
 have Hr:=Yw (Zsu Hnm2.out)
 clear hx2 hents hps hc0 hc1 hc2 hc3 hc4 Hnm1 Hx1
 simp only
 go_wp2_with fail
 have he:ps.map Prod.fst=[(awE,Value.slice (some ⟨w.heap.size,0,none⟩) 1 1)].map Prod.fst:=by rw [Hps.out,List.map_cons,List.map_nil]
 have hq:=Hents.out.ext ((Yl _).alloc (.cells #[.int .i64 0,.int .i64 1,.int .i64 5,.int .i64 0,.slice (some ⟨w.heap.size,0,none⟩) 1 1] 83))
 have hcall:=Fu _ _ ps _ he _ _ _ hq Hr.out
 clear hq
 rw [hpl] at hcall
 with_reducible refine hcall.mono ?_
 rintro x w3 ⟨rfl,hx3⟩
 have Hx3:=Yw (Yh (Hx2.out.alloc _) hx3)
 clear hx3
 go_wp2_with fail
 go_ret
 exact ⟨rfl,Hx3.out⟩
theorem Gz.extE {w w':World} {a:Option Addr} {len:Nat} (h:Gz w a len) (x:Ext w w'):Gz w' a len:=by
 obtain ⟨h1,h2⟩:=h
 refine ⟨h1,fun hl=>?_⟩
 obtain ⟨y,e,hy,hc⟩:=h2 hl
 refine ⟨y,e,Nat.lt_of_lt_of_le hy x.size,fun j hj=>?_⟩
 obtain ⟨z,hz,hi⟩:=hc j hj
 exact ⟨z,(x.cell (by rw [add_block];exact hy)).trans hz,hi⟩
namespace journalEntries
theorem walk (a0:Option Addr) (len0 cap0:Nat) (z0:List Int) (a1:Option Addr) (len1 cap1:Nat) (z1:List Int) (a2:Option Addr) (len2 cap2:Nat) (z2:List Int) (a3:Option Addr) (len3 cap3:Nat) (os3:List Opn) (w:World)
 (w0:IsRow .i64 w a0 len0 cap0 z0) (w1:IsRow .i64 w a1 len1 cap1 z1) (w2:IsRow .i64 w a2 len2 cap2 z2) (ho:OpsAt w (fun _=>True) (.slice a3 len3 cap3) os3) (_:∀ o∈os3,o.nv.oneCell'=true) (hl:os3.length * 232≤reachBytes) (hn:∀ o∈os3,o.ns.length * 48≤reachBytes) :
 Calls Tryz.prog 3 #[.slice a0 len0 cap0,.slice a1 len1 cap1,.slice a2 len2 cap2,.slice a3 len3 cap3] w fun e w'=>e=.returned (.bool true)∧Below w.heap.size w w':=by
 have R0:=Yw (Gz.of_row w0)
 have R1:=Yw (Gz.of_row w1)
 have R2:=Yw (Gz.of_row w2)
 have HO:=Yw ho
 have hl2:os3.length≤610000000000:=by unfold reachBytes at hl;omega
 have Hn:=Yw (show ∀ o∈os3,o.ns.length * 48≤140737488351232 from fun o h=>by have:=hn o h;unfold reachBytes at this;omega)
 clear w0 w1 w2 ho hl hn
 go_enter Tryz.func3,Tryz.ntmps3
 go_wp2_with fail
 refine (Zz8 _ _ _ _ R1.out).mono ?_
 rintro e wa ⟨T,rfl,hT,hf,hu,hk,hxa⟩
 have G:=Yw (Zpe hf hu hk)
 have TA:=Yw hT
 have XA:=Yw hxa
 clear hT hf hu hk hxa
 go_wp2_with fail
 refine (Zs3 _ _ _ _ (Gz.extE R2.out XA.out)).mono ?_
 rintro e wb ⟨cl,cp,h1,h2,h3,h4,rfl,hxb⟩
 obtain ⟨n,rfl⟩:∃ n:Nat,cl=n:=⟨cl.toNat,by omega⟩
 have TB:=Yw (TA.out.up hxb)
 have XB:=Yw (XA.out.trans hxb)
 have Hc:=Yw (Zrz h1 h2 h3 h4)
 clear hxb
 go_wp2_with fail
 refine (Sn _ _ _ _ (Gz.extE R0.out XB.out)).mono ?_
 rintro e wc ⟨v,l,rfl,hv,hl65,hxc⟩
 have TC:=Yw (TB.out.up hxc)
 have XC:=Yw (XB.out.trans hxc)
 have HV:=Yw hv
 clear hv hxc
 go_wp2_with fail
 refine (Zsw T G.out n cp (by omega) (by omega) Hc.out v l _ TC.out HV.out (by omega)).mono ?_
 rintro e wd ⟨ov,sv,os,rfl,⟨x,y,s0,s1,s2,s3,s4,n0,n1,n2,n3,n4,c0,c1,c2,c3,c4,rfl⟩,hos,hol,h16,hxd⟩
 have XD:=Yw (XC.out.trans hxd)
 have OD:=Yw hos
 obtain ⟨Ao,Co,rfl⟩:=hos.shape
 have H16:=Yw h16
 obtain ⟨no,hno⟩:∃ x,(os.map Subtype.val).length=x:=⟨_,rfl⟩
 rw [hno] at OD
 rw [hno]
 have Hno:=Yw hno
 clear hos hxd h16 hno
 go_upto_region 2 with fail
 have X1:=Yw (XD.out.alloc (.cells #[.int .i64 x,.int .i64 y,.slice s0 n0 c0,.slice s1 n1 c1,.slice s2 n2 c2,.slice s3 n3 c3,.slice s4 n4 c4] 27))
 have O1:=Yw (OD.out.ext ((Yl _).alloc (.cells #[.int .i64 x,.int .i64 y,.slice s0 n0 c0,.slice s1 n1 c1,.slice s2 n2 c2,.slice s3 n3 c3,.slice s4 n4 c4] 27)))
 have hol2:(os.map Subtype.val).length≤610000000000:=by rw [Zq];omega
 obtain ⟨ol,hol'⟩:∃ x,os.map Subtype.val=x:=⟨_,rfl⟩
 have Hn2:=Yw (show ∀ o∈os.map Subtype.val,o.ns.length * 48≤140737488351232 from fun o h=>by
  obtain ⟨q,hq,rfl⟩:=List.mem_map.1 h
  have:=H16.out q hq;omega)
 rw [hol'] at O1 hol2 Hn2
 clear OD XD Hno hol' hol H16 os
 go_wp2_with fail
 refine (Zqb _).mono ?_
 rintro e we ⟨rfl,hx2⟩
 have X2:=Yw (X1.out.trans hx2)
 have O2:=Yw (O1.out.ext hx2)
 clear hx2 O1 X1
 go_wp2_with fail
 refine (Fx _ _ _ O2.out hol2 Hn2.out).mono ?_
 rintro e wf ⟨v1,p1,rfl,e1,m1,hx3⟩
 have X3:=Yw (X2.out.trans hx3)
 have O3:=Yw (O2.out.ext hx3)
 have E1:=Yw e1
 have M1:=Yw m1
 clear hx3 O2 X2 e1 m1
 go_wp2_with fail
 refine (Ei _ _ _ O3.out hol2 Hn2.out).mono ?_
 rintro e wg ⟨v2,p2,rfl,e2,m2,hx4⟩
 have X4:=Yw (X3.out.trans hx4)
 have E2:=Yw e2
 have E1':=Yw (E1.out.ext hx4)
 have M2:=Yw m2
 clear hx4 O3 X3 e2 m2
 go_wp2_with fail
 refine (Fu v1 v2 p1 p2 (by rw [M1.out,M2.out]) _ _ _ E1'.out E2.out).mono ?_
 rintro e wh ⟨rfl,hx5⟩
 have X5:=Yw (X4.out.trans hx5)
 have O5:=Yw (HO.out.ext X5.out)
 clear hx5 X4 E1 E2 M1 M2 E1'
 go_wp2_with fail
 refine (Fx _ _ _ O5.out hl2 Hn.out).mono ?_
 rintro e wi ⟨v3,p3,rfl,e1,m1,hx3⟩
 have X3:=Yw (X5.out.trans hx3)
 have O3:=Yw (O5.out.ext hx3)
 have E1:=Yw e1
 have M1:=Yw m1
 clear hx3 O5 X5 e1 m1
 go_wp2_with fail
 refine (Ei _ _ _ O3.out hl2 Hn.out).mono ?_
 rintro e wj ⟨v4,p4,rfl,e2,m2,hx4⟩
 have X4:=Yw (X3.out.trans hx4)
 have E2:=Yw e2
 have E1':=Yw (E1.out.ext hx4)
 have M2:=Yw m2
 clear hx4 O3 X3 e2 m2
 go_wp2_with fail
 refine (Fu v3 v4 p3 p4 (by rw [M1.out,M2.out]) _ _ _ E1'.out E2.out).mono ?_
 rintro e wk ⟨rfl,hx5⟩
 have X5:=Yw (X4.out.trans hx5)
 clear hx5 X4 E1 E2 M1 M2 E1'
 go_wp2_with fail
 go_ret
 exact ⟨rfl,X5.out.below⟩
end journalEntries
end Go.Proofs.YtnbclgbicnpmnaaGreat
