/- Lemmas of this claim: Ke, Km, Kq, Kp. Conditions: as named. -/
import Derived.Test.YtnbclgbicnpmnaaGreatA03
import Derived.Test.YtnbclgbicnpmnaaGreatA05
import Derived.Test.YtnbclgbicnpmnaaGreatA20
import Derived.Test.YtnbclgbicnpmnaaGreatA24
import Derived.Test.YtnbclgbicnpmnaaGreatA25
namespace Go.Proofs.YtnbclgbicnpmnaaGreat
open Go.RowKit Go.Sort
open List renaming getElem?_eq_getElem → Zz, mem_of_getElem? → Zy, getElem?_cons_zero → Zx, getElem?_cons_succ → Zw, setIfInBounds_toArray → Zv, set_cons_zero → Zu, set_cons_succ → Zt, length_append → Zs, getElem?_eq_some_iff → Zr, length_map → Zq, getElem?_map → Zn, take_of_length_le → Zm, mem_append → Zj, mem_singleton → Zi, not_mem_nil → Zh, mem_cons → Zg, length_set → Zf, getElem?_set_self → Zc, getElem?_set_ne → Zb, filterMap_cons → Z1, filterMap_nil → Z2, getElem?_toArray → Z3, map_append → Z9, getElem?_set → Yx
open Lib renaming hid → Yw
open Go renaming bodyPost_ret → Yt
open AllReadyH renaming cons → Ys, nil → Yr
open IntWalk renaming i64_in → Yq
open Nat renaming le_refl → Yo
open Ext renaming refl → Yl
set_option maxHeartbeats 40000000
set_option maxRecDepth 100000
set_option linter.all false
section
section
variable {w0 w w':World} {B b s:Nat} {cs:List Value} {dv ev:Value} {dec:List MpS} {exc:List Int}
theorem Ah.c9 (h:Ah w0 w B b s cs dv dec ev exc) (hc:10 < cs.length):w.cell? ⟨b,9,none⟩=some dv:=by
 rw [h.box.at_ 9 (by simp;omega)];simp [Yx];omega
theorem Ah.c10 (h:Ah w0 w B b s cs dv dec ev exc) (hc:10 < cs.length):w.cell? ⟨b,10,none⟩=some ev:=by
 rw [h.box.at_ 10 (by simp;omega)];simp [Yx];omega
end
theorem Zr1 (w:World) (z fr:Int) (t t2:TypeId):Xs ((w.alloc (.cells #[.int .i64 z] t)).alloc (.cells #[.int .i64 fr,.slice (some ⟨w.heap.size,0,none⟩) 1 1] t2)) (w.heap.size+1) [.int .i64 fr,.slice (some ⟨w.heap.size,0,none⟩) 1 1]:=by
 have:=Xs.new (w.alloc (.cells #[.int .i64 z] t)) #[.int .i64 fr,.slice (some ⟨w.heap.size,0,none⟩) 1 1] t2
 rwa [show (w.alloc (.cells #[.int .i64 z] t)).heap.size=w.heap.size+1 by simp] at this
theorem Ta (w:World) (z:Int) (B:Nat) (hB:B≤w.heap.size):Own Xe (w.alloc (.cells #[.int .i64 z] 3)) B (.slice (some ⟨w.heap.size,0,none⟩) 1 1) [z] :=
 ⟨rfl,.inr ⟨w.heap.size,1,_,rfl,hB,heap_alloc_new w _,Yo _,by unfold maxLen;omega,rfl,rfl⟩⟩
theorem Zwd (w:World) (fr:Int) (A:Option Addr) (n c:Nat) (l:List Int) (t:TypeId) (g:Nat) (hg:w.heap.size=g):RdE mpE (w.alloc (.cells #[.int .i64 fr,.slice A n c] t)) (fun _=>True) (.slice (some ⟨g,0,none⟩) 1 1) [⟨⟨fr,.slice A n c,l⟩,rfl⟩]:=by
 subst hg
 exact Qo w #[.int .i64 fr,.slice A n c] t 2 rfl
theorem Zwt {α:Type} {E:Enc α} {w w':World} {Z b j:Nat} {dv ev x u:Value} {L:List α} {l:List Int} {o:Obj} {A:Option Addr} {n c:Nat} (h:Xz w (fun k=>Z≤k∧dv.ownBlock≠some k∧ev.ownBlock≠some k) x l) (hg:Grew E (w.alloc o) Z ev L A n c w') (hb:b < Z) :
 Xz (w'.setCell ⟨b,j,none⟩ u) (fun k=>Z≤k∧dv.ownBlock≠some k∧(Value.slice A n c).ownBlock≠some k) x l:=by
 have h3:Xz (w.alloc o) (fun k=>(Z≤k∧dv.ownBlock≠some k∧ev.ownBlock≠some k)∧k < w.heap.size) x l:=Xz.ext (Rd.mono h fun k hk hl=>⟨hk,hl⟩) ((Yl _).alloc o)
 have h4:=(h3.chg hg.chg (fun k hk e=>hk.1.2.2 e)).chg ((Chg.refl (· = b) w').setCell (p:=⟨b,j,none⟩) (.inl rfl) u) (fun k hk e=>by have:=hk.1.1;omega)
 exact Rd.mono h4 fun k hk _=>⟨hk.1.1,hk.1.2.1,fun e=>by
  rcases hg.at_ with h1|h1
  ·exact hk.1.2.2 (h1.symm.trans e)
  rw [e] at h1;have:=hk.2;simp at h1;omega⟩
theorem Zp0 {w:World} {B n c g:Nat} {l:List MpS} (h:Own mpE w B (.slice (some ⟨g,0,none⟩) n c) l) {j:Nat} {m:MpS} (hj:l[j]?=some m):w.cell? ⟨g,j * 2,none⟩=some (.int .i64 m.1.fr)∧w.cell? ⟨g,j * 2+1,none⟩=some m.1.tv:=by
 have hj2:(l.map Subtype.val)[j]?=some m.1:=by rw [Zn,hj];rfl
 obtain ⟨h1,h2⟩:=Jc hj2
 exact ⟨h.at_ h1,h.at_ h2⟩
def Ts (w0:World) (B b s:Nat) (cs:List Value) (e:Ending) (w':World):Prop :=
 ∃ (dv:Value) (dec:List MpS) (ev:Value) (exc:List Int),e=.returned (.tuple #[])∧Ah w0 w' B b s cs dv dec ev exc∧dec.length≤5∧(dec.map fun m=>m.1.fr).Nodup∧Bl (dec.map Subtype.val) exc 5
theorem Ty (B b s:Nat) (cs:List Value) (w:World) (hc:10 < cs.length) (h:Ah w w B b s cs (.slice none 0 0) [] (.slice none 0 0) []):Calls Tryz.prog 47 #[.pointer (some ⟨s,0,none⟩),.pointer (some ⟨b,0,none⟩)] w (Ts w B b s cs):=by
 have H:=Yw h
 clear h
 go_enter Tryz.func47,Tryz.ntmps47
 go_wp2_with fail
 go_loopw [4] (fun o wr=>∃ (k:Nat) (dv:Value) (dec:List MpS) (ev:Value) (exc:List Int),k≤5∧o=.int .i64 (k:Int)∧Ah w wr B b s cs dv dec ev exc∧dec.length≤k∧exc.length≤k∧(dec.map fun m=>m.1.fr).Nodup∧(∀ m∈dec,m.1.fr < 7680+(k:Int))∧Bl (dec.map Subtype.val) exc k) (fun o _=>5 - (intOf o).toNat)
 case atStart=>exact ⟨0,_,[],_,[],by omega,rfl,H.out,by simp,by simp,by simp,by simp,Bl.nil⟩
 obtain ⟨k,dv,dec,ev,exc,hk,rfl,hd,hl1,hl2,hnd,hfr,hdp⟩:=hrel
 rename World=>wI
 have D0:=Yw hd
 have Hl1:=Yw hl1
 have Hl2:=Yw hl2
 have Hnd:=Yw hnd
 have Hfr:=Yw hfr
 have Hdp:=Yw hdp
 clear hd hl1 hl2 hnd hfr hdp
 by_cases hk5:k < 5
 ·have hd_k:decide ((k:Int) < (5:Int))=true:=Yf (by omega)
  have i0_k:(0:Int)≤(k:Int):=by omega
  have i1_k:(k:Int) < (5:Int):=by omega
  go_wp2_with fail
  refine (Xh s 4 (by omega) (by omega) _ B D0.out.src).mono ?_
  rintro e w1 ⟨v1,hv1,rfl,h1⟩
  have T1:=Yw h1
  clear h1
  by_cases hv10:v1=0
  ·subst hv10
   go_wp2_with fail
   go_roundw
   case rel=>exact ⟨k+1,dv,dec,ev,exc,by omega,by go_num,D0.out.to T1.out,by have:=Hl1.out;omega,by have:=Hl2.out;omega,Hnd.out,fun m hm=>by have:=Hfr.out m hm;omega,Hdp.out.up⟩
   case measure=>(simp [intOf];omega)
  have e1:((v1:Int) == 0)=false:=by simp;omega
  have e2:(v1 == 0)=false:=by simp;omega
  have e3:¬ (v1:Int)=0:=by omega
  clear hv10
  obtain ⟨fr,hfr⟩:∃ z:Int,7680+(k:Int)=z:=⟨_,rfl⟩
  have rf:IntKind.i64.wrap (7680+(k:Int))=fr:=by rw [Yq _ (by omega)];exact hfr
  go_wp2_with fail
  refine (Xh s 2 (by omega) (by omega) _ B T1.out.src).mono ?_
  rintro e w2 ⟨v2,hv2,rfl,h2⟩
  have T2:=Yw (T1.out.trans h2)
  clear h2
  obtain ⟨z2,hz2⟩:∃ z:Int,97+(v2:Int)=z:=⟨_,rfl⟩
  have rz:IntKind.i64.wrap (97+(v2:Int))=z2:=by rw [Yq _ (by omega)];exact hz2
  have Hz2:=Yw (show z2=97∨z2=98 by omega)
  clear hz2
  have hsl:=D0.out.src.lt
  have hw2:=T2.out.chg.size
  have M0:=Yw (show Mw B s wI ((w2.alloc (.cells #[.int .i64 z2] 3)).alloc (.cells #[.int .i64 fr,.slice (some ⟨w2.heap.size,0,none⟩) 1 1] 106)) (w2.heap.size+1) fr (.slice (some ⟨w2.heap.size,0,none⟩) 1 1) [z2] from
   ⟨(T2.out.alloc _).alloc _,Zr1 w2 z2 fr _ _,(Ta w2 z2 _ hw2).ext ((Yl _).alloc _),by simp [Value.ownBlock],by omega,by simp,by simp,hsl⟩)
  go_upto_region 5 with fail
  obtain ⟨mb,hmb⟩:∃ x,w2.heap.size+1=x:=⟨_,rfl⟩
  obtain ⟨tb,htb⟩:∃ x,w2.heap.size=x:=⟨_,rfl⟩
  obtain ⟨W3,hW3⟩:∃ W,(w2.alloc (.cells #[.int .i64 z2] 3)).alloc (.cells #[.int .i64 fr,.slice (some ⟨w2.heap.size,0,none⟩) 1 1] 106)=W:=⟨_,rfl⟩
  rw [hW3,hmb,htb] at M0
  rw [hW3,hmb,htb]
  clear hW3 hmb htb T1 T2 hsl hw2 rf rz
  go_cut [29] (fun o wx=>∃ q:Bool,o=.bool q∧(q=true→0 < k)∧Mw B s wI wx mb fr (.slice (some ⟨tb,0,none⟩) 1 1) [z2])
  case first =>
   by_cases hk0:0 < k
   ·have d0:decide ((0:Int) < (k:Int))=true:=Yf (by omega)
    have d00:decide (0 < k)=true:=Yf hk0
    go_wp2_with fail
    refine (Xh s 3 (by omega) (by omega) _ B M0.out.t.src).mono ?_
    rintro e w5 ⟨v5,hv5,rfl,h5⟩
    have M5:=Yw (M0.out.next h5)
    clear h5
    obtain ⟨q5,hq5⟩:∃ q,((v5:Int) == 0)=q:=⟨_,rfl⟩
    have hq6:(v5 == 0)=q5:=by rw [← hq5,Bool.eq_iff_iff];simp
    go_wp2_with fail
    go_meet
    exact ⟨_,rfl,fun _=>hk0,M5.out⟩
   obtain rfl:k=0:=by omega
   go_wp2_with fail
   go_meet
   exact ⟨_,rfl,(by intro h;cases h),M0.out⟩
  obtain ⟨q,rfl,hq,hM⟩:=hcut
  have M1:=Yw hM
  clear hM M0
  rename World=>w3
  go_upto_if 29 with fail
  go_cut [] (fun wx=>∃ to2:List Int,to2.length=1∧Mw B s wI wx mb fr (.slice (some ⟨tb,0,none⟩) 1 1) to2∧∃ x,to2=[x]∧(x=97∨x=98∨(7680≤x∧x < fr)))
  case first =>
   cases q
   ·go_wp2_with fail
    go_meet
    exact ⟨_,rfl,M1.out,z2,rfl,by have:=Hz2.out;omega⟩
   have hk0:0 < k:=hq rfl
   have c0:=(M1.out).box.at_ 0 (by simp)
   have c1:=(M1.out).box.at_ 1 (by simp)
   have fz:=(M1.out).box.fz
   simp only [Zx,Zw] at c0 c1
   have t0:=M1.out.own.at_ (ints_at (j:=0) rfl)
   have tf:=M1.out.own.thaw 0
   go_upto_region 6 with fail
   go_region_with (go_at_call 42;refine (Xh s (k:Int) (by omega) (by omega) _ B (M1.out.ext (Yl _).drew).t.src).mono ?_;rintro e w5 ⟨v5,hv5,rfl,h5⟩;have M5:=Yw ((M1.out.ext (Yl _).drew).next h5);have c1':=M5.out.box.at_ 1 (by simp);have t0':=M5.out.own.at_ (ints_at (j:=0) rfl);have tf':=M5.out.own.thaw 0;simp only [Zx,Zw] at c1';obtain ⟨z5,hz5⟩:∃ z:Int,7680+(v5:Int)=z:=⟨_,rfl⟩;have rz5:IntKind.i64.wrap (7680+(v5:Int))=z5:=(by rw [Yq _ (by omega)];exact hz5);have Hz5:=Yw (show 7680≤z5∧z5 < fr by omega);clear h5 hz5)
   all_goals
    go_wp2_with fail
    go_meet
    exact ⟨_,rfl,M5.out.put (by simp) z5,z5,rfl,.inr (.inr Hz5.out)⟩
  obtain ⟨to2,hto,hM,hx2⟩:=hcut
  have Hx2:=Yw hx2
  have M2:=Yw hM
  clear hM M1 hq hx2
  rename World=>w4
  go_wp2_with fail
  refine (Xh s 8 (by omega) (by omega) _ B M2.out.t.src).mono ?_
  rintro e w5 ⟨v5,hv5,rfl,h5⟩
  have M3:=Yw (M2.out.next h5)
  clear h5 M2
  go_upto_if 39 with fail
  go_cut [] (fun wx=>∃ (tv:Value) (to3:List Int),Mw B s wI wx mb fr tv to3∧ToP to3 fr)
  case first =>
   by_cases hv0:0 < v5
   ·have d1:decide ((0:Int) < (v5:Int))=true:=Yf (by omega)
    have c0:=(M3.out).box.at_ 0 (by simp)
    have c1:=(M3.out).box.at_ 1 (by simp)
    have fz:=(M3.out).box.fz
    simp only [Zx,Zw] at c0 c1
    go_upto_region 8 with fail
    have L5:=fun w:World=>Ww w 3 [769,776,803,837,945] 5 rfl _ rfl (by omega)
    have c1a:(w5.alloc (.cells #[.int .i64 769,.int .i64 776,.int .i64 803,.int .i64 837,.int .i64 945] 3)).cell? ⟨mb,1,none⟩=some (.slice (some ⟨tb,0,none⟩) 1 1):=by
     have:=(M3.out.box.ext ((Yl _).alloc (.cells #[.int .i64 769,.int .i64 776,.int .i64 803,.int .i64 837,.int .i64 945] 3))).at_ 1 (by simp)
     simpa using this
    have hsl:=M3.out.t.src.lt
    go_region_law (first
     | ((refine Xa Xe (.tmp 41) (.tmp 47) 22 (by rfl) (by rfl) (by rfl) (by rfl) (M6.out.own.ext ((Yl _).alloc _)) (by rfl) (X9 w6 z6 _ _ rfl) (by rw [hto];show 1+1≤_;omega) (by show 8≤1000;omega) (by have:=M6.out.t.chg.size;simp;omega) ?_);intro A8 n8 c8 w8 hg8;have M8:=Yw (M6.out.grow hto hg8);have cm8:=Yw ((M6.out.box.ext ((Yl _).alloc (.cells #[.int .i64 z6] 3))).chg hg8.chg (fun e=>M6.out.ne e));have c8':=cm8.out.at_ 1 (by simp);have f8:=cm8.out.fz;simp only [Zx,Zw] at c8';clear hg8)
     | (go_simp;go_at_call 42;refine (Xh s 5 (by omega) (by omega) _ B ((M3.out.ext (Yl _).drew).ext ((Yl _).alloc (.cells #[.int .i64 769,.int .i64 776,.int .i64 803,.int .i64 837,.int .i64 945] 3))).t.src).mono ?_;rintro e w6 ⟨v6,hv6,rfl,h6⟩;have M6:=Yw (((M3.out.ext (Yl _).drew).ext ((Yl _).alloc (.cells #[.int .i64 769,.int .i64 776,.int .i64 803,.int .i64 837,.int .i64 945] 3))).next h6);have L6:RdE Xe w6 (fun k=>w5.heap.size≤k) (.slice (some ⟨w5.heap.size,0,none⟩) 5 5) [769,776,803,837,945]:=Rd.chg (L5 w5.drew) h6.chg (fun k hk e=>by have:w5.heap.size≤k:=hk;omega);obtain ⟨z6,hz6⟩:∃ z,([769,776,803,837,945]:List Int)[v6]?=some z:=⟨_,Zz (by simp;omega)⟩;obtain ⟨g6,o6,cc6,hvv6,_,_,_,hg6,cz6⟩:=Xz.get L6 hz6;(simp only [Ye,Yd,Addr.mk.injEq,true_and,and_true] at hvv6);obtain ⟨⟨rfl,rfl⟩,-,rfl⟩:=hvv6;rw [Nat.zero_add] at cz6;have k0:(0:Int)≤(v6:Int):=(by omega);have k1:v6 < 5:=(by omega);have c6':=M6.out.box.at_ 1 (by simp);(simp only [Zx,Zw] at c6');have c6'':=(M6.out.box.ext ((Yl _).alloc (.cells #[.int .i64 z6] 3))).at_ 1 (by simp);(simp only [Zx,Zw] at c6'');have Hz6:=Yw (Zy hz6);clear hz6 L6 h6)
     | (go_simp;go_at_call 42;refine (Xh s 5 (by omega) (by omega) _ B (M3.out.ext (Yl _).drew).t.src).mono ?_;rintro e wN ⟨v6,hv6,rfl,h6⟩;have MN:=Yw (((M3.out.ext (Yl _).drew).next h6).ext ((Yl _).alloc (.cells #[.int .i64 769,.int .i64 776,.int .i64 803,.int .i64 837,.int .i64 945] 3)));have hwN:wI.heap.size≤wN.heap.size:=((M3.out.ext (Yl _).drew).next h6).t.chg.size;have L6:=L5 wN;obtain ⟨z6,hz6⟩:∃ z,([769,776,803,837,945]:List Int)[v6]?=some z:=⟨_,Zz (by simp;omega)⟩;obtain ⟨g6,o6,cc6,hvv6,_,_,_,hg6,cz6⟩:=Xz.get L6 hz6;(simp only [Ye,Yd,Addr.mk.injEq,true_and,and_true] at hvv6);obtain ⟨⟨rfl,rfl⟩,-,rfl⟩:=hvv6;rw [Nat.zero_add] at cz6;have hlv:∀ h,([.int .i64 769,.int .i64 776,.int .i64 803,.int .i64 837,.int .i64 945]:List Value)[v6]'h=Value.int .i64 z6:=(fun h=>Option.some.inj ((Zz h).symm.trans (show (([769,776,803,837,945]:List Int).map (Value.int .i64))[v6]?=some (.int .i64 z6) by rw [Zn,hz6];rfl)));have k0:(0:Int)≤(v6:Int):=(by omega);have k1:v6 < 5:=(by omega);have c6':=((M3.out.ext (Yl _).drew).next h6).box.at_ 1 (by simp);(simp only [Zx,Zw] at c6');have c6'':=MN.out.box.at_ 1 (by simp);(simp only [Zx,Zw] at c6'');have c6''':=(MN.out.box.ext ((Yl _).alloc (.cells #[.int .i64 z6] 3))).at_ 1 (by simp);(simp only [Zx,Zw] at c6''');have Hz6:=Yw (Zy hz6);clear hz6 L6 h6)
     | ((refine Xa Xe (.tmp 41) (.tmp 47) 22 (by rfl) (by rfl) (by rfl) (by rfl) (MN.out.own.ext ((Yl _).alloc _)) (by rfl) (X9 (wN.alloc (.cells #[.int .i64 769,.int .i64 776,.int .i64 803,.int .i64 837,.int .i64 945] 3)) z6 _ (wN.heap.size+1) (by simp)) (by rw [hto];show 1+1≤_;omega) (by show 8≤1000;omega) (by simp;omega) ?_);intro A8 n8 c8 w8 hg8;have M8:=Yw (MN.out.grow hto hg8);have cm8:=Yw ((MN.out.box.ext ((Yl _).alloc (.cells #[.int .i64 z6] 3))).chg hg8.chg (fun e=>MN.out.ne e));have c8':=cm8.out.at_ 1 (by simp);have f8:=cm8.out.fz;simp only [Zx,Zw] at c8';clear hg8))
    all_goals
     go_wp2_with fail
     go_meet
     exact ⟨_,_,M8.out,ToP.two Hx2.out Hz6.out⟩
   have d1:decide ((0:Int) < (v5:Int))=false:=Yg (by omega)
   go_wp2_with fail
   go_meet
   exact ⟨_,_,M3.out,ToP.one_ Hx2.out⟩
  obtain ⟨tv,to3,hM,htp⟩:=hcut
  have M4:=Yw hM
  have Htp:=Yw htp
  clear hM M3 htp
  rename World=>w6
  go_wp2_with fail
  refine (Xh s 6 (by omega) (by omega) _ B M4.out.t.src).mono ?_
  rintro e w7 ⟨v7,hv7,rfl,h7⟩
  have M5:=Yw (M4.out.next h7)
  clear h7 M4
  obtain ⟨q7,hq7⟩:∃ q,((v7:Int) == 0)=q:=⟨_,rfl⟩
  have hq8:(v7 == 0)=q7:=by rw [← hq7,Bool.eq_iff_iff];simp
  have D1:=Yw (D0.out.to M5.out.t)
  have c9:=D1.out.c9 hc
  obtain ⟨A9,C9,rfl,hlC9,hC9⟩:=D1.out.dOwn.shape
  obtain ⟨n9,hn9⟩:∃ n,dec.length=n:=⟨_,rfl⟩
  rw [hn9] at c9 D1 hlC9
  have Hn9:=Yw hn9
  clear hn9
  have Hto:=Yw (show Xz w7 (fun q=>wI.heap.size≤q) tv to3 from M5.out.own.rd)
  obtain ⟨At,Ct,rfl,hlt3,hct3⟩:=M5.out.own.shape
  obtain ⟨nt,hnt⟩:∃ x,to3.length=x:=⟨_,rfl⟩
  rw [hnt] at M5 hlt3 Hto
  have Hnt:=Yw hnt
  have Htl:=Yw (show to3.length≤2 from M5.out.l2)
  unfold maxLen at hC9 hct3
  have c0:=(M5.out).box.at_ 0 (by simp)
  have c1:=(M5.out).box.at_ 1 (by simp)
  have fz:=(M5.out).box.fz
  simp only [Zx,Zw] at c0 c1
  clear hnt
  go_wp2_with fail
  go_loopw [58,6] (fun o t wx=>∃ (j:Nat) (q:Bool),j≤n9∧o=.int .i64 (j:Int)∧t=.bool q∧Ext w7 wx∧(q=false→∀ m∈dec.take j,m.1.to_≠to3)) (fun o _ _=>n9 - (intOf o).toNat)
  case atStart=>exact ⟨0,_,by omega,rfl,rfl,Yl _,fun _=>by simp⟩
  rename World=>wj
  obtain ⟨j,q,hj,rfl,rfl,hxj,htw⟩:=hrel
  have Xj:=Yw hxj
  have Htw:=Yw htw
  clear hxj htw c0 c1 c9 fz
  by_cases hjn:j < n9
  ·have hd_j:decide ((j:Int) < (n9:Int))=true:=Yf (by omega)
   have i0_j:(0:Int)≤(j:Int):=by omega
   have i1_j:(j:Int) < (n9:Int):=by omega
   obtain ⟨m,hm⟩:∃ m,dec[j]?=some m:=⟨dec[j]'(by rw [Hn9.out];exact hjn),Zz _⟩
   have hown:=D1.out.dOwn.ext Xj.out
   obtain ⟨g9,c9',hv9,hb9,hg9,_,_⟩:=hown.some_ (by rw [Hn9.out];omega)
   rw [Hn9.out] at hv9
   simp only [Ye,true_and] at hv9
   obtain ⟨rfl,rfl⟩:=hv9
   obtain ⟨p0,p1⟩:=Zp0 hown hm
   have hti:=((D1.out.tos m (Zy hm)).1).ext Xj.out
   obtain ⟨Am,Cm,htv,hlm,hcm⟩:=hti.shape
   rw [htv] at p1 hti
   obtain ⟨nm,hnm⟩:∃ x,m.1.to_.length=x:=⟨_,rfl⟩
   rw [hnm] at p1 hti
   have Hti:=Yw hti
   have cm1:=(M5.out.box.ext (Xj.out.alloc (.cells #[.int .i64 m.1.fr,.slice Am nm Cm] 106))).at_ 1 (by simp)
   simp only [Zx,Zw] at cm1
   have hlt7:=M5.out.box.lt
   have hxs:=Xj.out.size
   have Hmj:=Yw hm
   clear hown hm htv hnm hti
   cases q with
   | true =>
    go_wp2_with fail
    go_roundw
    case rel=>exact ⟨j+1,_,by omega,by go_num,rfl,Xj.out.alloc _,fun h=>by cases h⟩
    case measure=>(simp [intOf];omega)
   | false =>
    go_wp2_with (go_at_call 26;refine (Zur _ _ m.1.to_ to3 _ (Hti.out.ext ((Yl _).alloc _)) (Hto.out.ext (Xj.out.alloc _))).mono ?_;rintro e w8 ⟨rfl,hx8⟩;obtain ⟨r8,hr8⟩:∃ r,decide (m.1.to_=to3)=r:=⟨_,rfl⟩;have Hr8:=Yw hr8;rw [hr8];clear hr8;have X8:=Yw ((Xj.out.alloc _).trans hx8);clear hx8)
    go_roundw
    case rel=>exact ⟨j+1,_,by omega,by go_num,rfl,X8.out,fun h=>Zpl Hmj.out (by first|exact Htw.out rfl|exact Htw.out trivial) Hr8.out (by simpa using h)⟩
    case measure=>(simp [intOf];omega)
  have hd_j:decide ((j:Int) < (n9:Int))=false:=Yg (by omega)
  have Hall:=Yw (show q=false→∀ x∈dec.map Subtype.val,x.to_≠to3 from fun h x hx=>by
   obtain ⟨y,hy,rfl⟩:=List.mem_map.1 hx
   exact Htw.out h y (by rw [Zm (by rw [Hn9.out];omega)];exact hy))
  have D2:=Yw (D1.out.ext Xj.out)
  have M6:=Yw (M5.out.ext Xj.out)
  have hIsz:=D0.out.dOwn.lt
  have hEsz:=D0.out.eOwn.lt
  have hZ:=D0.out.chg.size
  have Hrow:=Yw (show Xz wj (fun q=>w.heap.size≤q∧(Value.slice A9 n9 C9).ownBlock≠some q∧ev.ownBlock≠some q) (.slice At nt Ct) to3 from Rd.mono (Hto.out.ext Xj.out) fun q hq _=>⟨by omega,fun e=>by have:=(hIsz q (by rw [Hn9.out];exact e)).2;omega,fun e=>by have:=(hEsz q e).2;omega⟩)
  clear hIsz hEsz hZ D1 M5 Hto
  go_upto_if 71 with fail
  go_cut [] (fun wx=>∃ (ev2:Value) (exc2:List Int),Ah w wx B b s cs (.slice A9 n9 C9) dec ev2 exc2∧exc2.length≤k+1∧Xs wx mb [.int .i64 fr,.slice At nt Ct]∧Xz wx (fun q=>w.heap.size≤q∧(Value.slice A9 n9 C9).ownBlock≠some q∧ev2.ownBlock≠some q) (.slice At nt Ct) to3∧exc2=if q then exc++[fr] else exc)
  case first =>
   cases q
   ·go_wp2_with fail
    go_meet
    exact ⟨_,_,D2.out,by have:=Hl2.out;omega,M6.out.box,Hrow.out,rfl⟩
   go_upto_region 16 with fail
   have c10:=D2.out.c10 hc
   obtain ⟨A10,C10,rfl,hlC10,hC10⟩:=D2.out.eOwn.shape
   obtain ⟨n10,hn10⟩:∃ n,exc.length=n:=⟨_,rfl⟩
   rw [hn10] at c10 D2 Hrow hlC10
   have Hn10:=Yw hn10
   have hn5:n10≤5:=by have:=Hl2.out;omega
   clear hn10
   have c0:=(M6.out).box.at_ 0 (by simp)
   have c1:=(M6.out).box.at_ 1 (by simp)
   have fz:=(M6.out).box.fz
   simp only [Zx,Zw] at c0 c1
   have c10a:(wj.alloc (.cells #[.int .i64 fr] 3)).cell? ⟨b,10,none⟩=some (.slice A10 n10 C10):=(D2.out.ext ((Yl _).alloc _)).c10 hc
   go_region_law (first
    | ((refine Xa Xe (.tmp 76) (.tmp 79) 22 (by rfl) (by rfl) (by rfl) (by rfl) (D2.out.eOwn.ext ((Yl _).drew.alloc _)) (by rfl) (X9 wj.drew fr _ _ rfl) (by rw [Hn10.out];show n10+1≤_;omega) (by show 8≤1000;omega) (by have:=D2.out.chg.size;simp;omega) ?_);intro A8 n8 c8 w8 hg8;have D8:=Yw ((D2.out.ext (Yl _).drew).growE hc hg8);have c8':w8.cell? ⟨b,10,none⟩=some (.slice A10 n10 C10):=((((D2.out.ext (Yl _).drew).ext ((Yl _).alloc _)).box.chg hg8.chg (fun e=>by have:=(D2.out.eOwn.lt b e).1;have:=D2.out.bl;omega)).at_ 10 (by simp;omega)).trans (by simp [Yx];omega);have f8:=((((D2.out.ext (Yl _).drew).ext ((Yl _).alloc _)).box.chg hg8.chg (fun e=>by have:=(D2.out.eOwn.lt b e).1;have:=D2.out.bl;omega)).fz);have N8:=Yw hg8.len;have G8:=Yw hg8;clear hg8))
   all_goals
    go_wp2_with fail
    go_meet
    refine ⟨_,_,D8.out,by rw [Zs,Hn10.out];show n10+1≤k+1;have:=Hl2.out;have:=Hn10.out;omega,?_,Zwt (Hrow.out.ext (Yl _).drew) G8.out D2.out.bl,rfl⟩
    exact (((M6.out.box.ext (Yl _).drew).ext ((Yl _).alloc _)).chg G8.out.chg (fun e=>by have:=(D0.out.eOwn.lt mb (by rw [Hn10.out];exact e)).2;have:=M6.out.lo;omega)).far (by have:=D2.out.bl;have:=D0.out.chg.size;have:=M6.out.lo;omega) _
  obtain ⟨ev2,exc2,hD,hl2,hbx,hrw,hex⟩:=hcut
  have Hex:=Yw hex
  rename World=>wk
  have D3:=Yw hD
  have Hl3:=Yw hl2
  have Hbx:=Yw hbx
  have Hrw:=Yw hrw
  clear hD hl2 hbx hrw hex
  have c9:=D3.out.c9 hc
  have c9a:(wk.alloc (.cells #[.int .i64 fr,.slice At nt Ct] 106)).cell? ⟨b,9,none⟩=some (.slice A9 n9 C9):=(D3.out.ext ((Yl _).alloc _)).c9 hc
  have c0:=Hbx.out.at_ 0 (by simp)
  have c1:=Hbx.out.at_ 1 (by simp)
  simp only [Zx,Zw] at c0 c1
  have hn5:n9≤5:=by have:=Hl1.out;have:=Hn9.out;omega
  go_upto_region 17 with fail
  go_region_law (first
   | ((refine Xa mpE (.tmp 87) (.tmp 89) 32 (by rfl) (by rfl) (by rfl) (by rfl) (D3.out.dOwn.ext ((Yl _).drew.alloc _)) (by rfl) (Zwd wk.drew fr At nt Ct to3 _ _ rfl) (by rw [Hn9.out];show n9+1≤_;omega) (by show 32≤1000;omega) (by have:=D3.out.chg.size;simp;omega) ?_);intro A8 n8 c8 w8 hg8;have D8:=Yw ((D3.out.ext (Yl _).drew).growD hc (Hrw.out.ext (Yl _).drew) Htl.out hg8);have c8':w8.cell? ⟨b,9,none⟩=some (.slice A9 n9 C9):=((((D3.out.ext (Yl _).drew).ext ((Yl _).alloc _)).box.chg hg8.chg (fun e=>by have:=(D3.out.dOwn.lt b e).1;have:=D3.out.bl;omega)).at_ 9 (by simp;omega)).trans (by simp [Yx];omega);have f8:=((((D3.out.ext (Yl _).drew).ext ((Yl _).alloc _)).box.chg hg8.chg (fun e=>by have:=(D3.out.dOwn.lt b e).1;have:=D3.out.bl;omega)).fz);clear hg8))
  all_goals
   go_wp2_with fail
   go_roundw
   case rel =>
    refine ⟨k+1,_,_,_,_,by omega,by go_num,D8.out,by rw [Zs,Hn9.out];show n9+1≤k+1;have:=Hl1.out;have:=Hn9.out;omega,Hl3.out,?_,?_,?_⟩
    ·rw [Z9,List.nodup_append]
     refine ⟨Hnd.out,by simp,fun x hx y hy e=>?_⟩
     obtain ⟨m,hm,rfl⟩:=List.mem_map.1 hx
     have:=Hfr.out m hm
     have hy2:y=fr:=by simpa using hy
     omega
    ·intro m hm
     rcases Zj.1 hm with hm|hm
     ·have:=Hfr.out m hm;omega
     rw [Zi.1 hm];show fr < _;omega
    rw [Z9]
    exact Hdp.out.more (m:=⟨fr,.slice At nt Ct,to3⟩) hfr.symm Htp.out Hall.out Hex.out
   case measure=>(simp [intOf];omega)
 have hd_k:decide ((k:Int) < (5:Int))=false:=Yg (by omega)
 go_wp2_with fail
 refine Yt (v:=.tuple #[]) (by simp [results,Tryz.results47,go_sem]) rfl ⟨dv,dec,ev,exc,rfl,D0.out,by have:=Hl1.out;omega,Hnd.out,by have:=Hdp.out;rwa [show k=5 by omega] at this⟩
end
section
structure Uy (U:Nat→Prop) (w0 w:World) (B b s:Nat) (cs:List Value) (ix:Nat) (dv:Value) (dec:List MpS):Prop where
 src:Src B w s
 chg:Chg U w0 w
 box:Xs w b (cs.set ix dv)
 dOwn:Own mpE w w0.heap.size dv dec
 tos:∀ m∈dec,Xz w (fun k=>w0.heap.size≤k∧dv.ownBlock≠some k) m.1.tv m.1.to_∧m.1.to_.length≤18
 hU:∀ k,U k→k < w0.heap.size
 ub:U b
 us:U s
 bs:b≠s
 bB:B≤b
section
variable {U:Nat→Prop} {w0 w w':World} {B b s ix:Nat} {cs:List Value} {dv:Value} {dec:List MpS}
theorem Uy.to (h:Uy U w0 w B b s cs ix dv dec) (t:Wl B s w w'):Uy U w0 w' B b s cs ix dv dec :=
 have hsl:=h.hU s h.us
 ⟨t.src,h.chg.thenB t.chg (fun k _ e=>e ▸ h.us),h.box.chg t.chg h.bs,h.dOwn.chg t.chg (fun k hk e=>by have:=(h.dOwn.lt k hk).1;omega),
   fun m hm=>⟨(h.tos m hm).1.chg t.chg (fun k hk e=>by have:=hk.1;omega),(h.tos m hm).2⟩,h.hU,h.ub,h.us,h.bs,h.bB⟩
theorem Uy.ext (h:Uy U w0 w B b s cs ix dv dec) (x:Ext w w'):Uy U w0 w' B b s cs ix dv dec :=
 ⟨h.src.ext x,h.chg.trans (x.chg _),h.box.ext x,h.dOwn.ext x,fun m hm=>⟨(h.tos m hm).1.ext x,(h.tos m hm).2⟩,h.hU,h.ub,h.us,h.bs,h.bB⟩
theorem Uy.far {c j:Nat} (h:Uy U w0 w B b s cs ix dv dec) (hc:U c) (hcb:c≠b) (hcs:c≠s) (hB:B≤c) (u:Value):Uy U w0 (w.setCell ⟨c,j,none⟩ u) B b s cs ix dv dec :=
 have hcl:=h.hU c hc
 ⟨h.src.setCell (by show B≤c;exact hB) hcs u,h.chg.setCell (.inl hc) u,h.box.far (Ne.symm hcb) u,h.dOwn.far (fun e=>by have:=(h.dOwn.lt c e).1;omega) u,
   fun m hm=>⟨(h.tos m hm).1.chg ((Chg.refl (· = c) w).setCell (p:=⟨c,j,none⟩) (.inl rfl) u) (fun k hk e=>by have:=hk.1;omega),(h.tos m hm).2⟩,h.hU,h.ub,h.us,h.bs,h.bB⟩
theorem Uy.cell {j:Nat} {u:Value} (h:Uy U w0 w B b s cs ix dv dec) (hj:j≠ix) (hb:Xs w' b ((cs.set ix dv).set j u)) (c:Chg (· = b) w w'):Uy U w0 w' B b s (cs.set j u) ix dv dec :=
 have hbl:=h.hU b h.ub
 have hsl:=h.hU s h.us
 ⟨h.src.chg c (fun e=>h.bs e.symm) (fun k hk e=>by have:=h.bB;omega),h.chg.thenB c (fun k _ e=>e ▸ h.ub),by rw [List.set_comm _ _ hj];exact hb,h.dOwn.chg c (fun k hk e=>by have:=(h.dOwn.lt k hk).1;omega),
   fun m hm=>⟨(h.tos m hm).1.chg c (fun k hk e=>by have:=hk.1;omega),(h.tos m hm).2⟩,h.hU,h.ub,h.us,h.bs,h.bB⟩
theorem Uy.cx (h:Uy U w0 w B b s cs ix dv dec) (hc:ix < cs.length):w.cell? ⟨b,ix,none⟩=some dv:=by
 rw [h.box.at_ ix (by simpa using hc),Yx,if_pos rfl,if_pos hc]
theorem Uy.grow {A:Option Addr} {n c:Nat} {m:MpS} {o:Obj} (h:Uy U w0 w B b s cs ix dv dec) (hix:ix < cs.length) (hm:Xz w (fun k=>w0.heap.size≤k∧dv.ownBlock≠some k) m.1.tv m.1.to_) (hm2:m.1.to_.length≤18)
 (hg:Grew mpE (w.alloc o) w0.heap.size dv (dec++[m]) A n c w'):Uy U w0 (w'.setCell ⟨b,ix,none⟩ (.slice A n c)) B b s cs ix (.slice A n c) (dec++[m]):=by
 have hsl:=h.hU s h.us
 have hbl:=h.hU b h.ub
 have hlt:∀ k,dv.ownBlock=some k→w0.heap.size≤k:=fun k hk=>(h.dOwn.lt k hk).1
 have hat:∀ k,(Value.slice A n c).ownBlock=some k→dv.ownBlock=some k∨k=(w.alloc o).heap.size:=fun k hk=>by
  rcases hg.at_ with h1|h1
  ·exact .inl (by rw [← h1];exact hk)
  rw [hk] at h1;exact .inr (Option.some.inj h1)
 refine ⟨?_,?_,?_,?_,?_,h.hU,h.ub,h.us,h.bs,h.bB⟩
 ·exact (((h.src.alloc o).chg hg.chg (fun e=>by have:=hlt s e;omega) (fun k hk e=>by have:=hlt k e;have:=h.src.ge;omega))).setCell h.bB (by show b≠s;exact h.bs) _
 ·exact ((h.chg.alloc o).thenB hg.chg (fun k hk e=>by have:=hlt k e;omega)).setCell (.inl h.ub) _
 ·have h1:=(h.box.ext ((Yl _).alloc o)).chg hg.chg (fun e=>by have:=hlt b e;omega)
  have h2:=h1.set (j:=ix) (by simpa using hix) (.slice A n c)
  rwa [List.set_set] at h2
 ·exact hg.own.far (fun e=>by have:=(hg.own.lt b e).1;omega) _
 intro q hq
 have key:∀ {v:Value} {l:List Int},Xz w (fun k=>w0.heap.size≤k∧dv.ownBlock≠some k) v l→Xz (w'.setCell ⟨b,ix,none⟩ (.slice A n c)) (fun k=>w0.heap.size≤k∧(Value.slice A n c).ownBlock≠some k) v l:=by
  intro v l h1
  have h3:Xz (w.alloc o) (fun k=>(w0.heap.size≤k∧dv.ownBlock≠some k)∧k < w.heap.size) v l:=Xz.ext (Rd.mono h1 fun k hk hl=>⟨hk,hl⟩) ((Yl _).alloc o)
  have h4:=(h3.chg hg.chg (fun k hk e=>hk.1.2 e)).chg ((Chg.refl (· = b) w').setCell (p:=⟨b,ix,none⟩) (.inl rfl) (.slice A n c)) (fun k hk e=>by have:=hk.1.1;omega)
  exact Rd.mono h4 fun k hk _=>⟨hk.1.1,fun e=>by
   rcases hat k e with h5|h5
   ·exact hk.1.2 h5
   have:=hk.2;simp at h5;omega⟩
 rcases Zj.1 hq with hq|hq
 ·exact ⟨key (h.tos q hq).1,(h.tos q hq).2⟩
 rw [Zi.1 hq]
 exact ⟨key hm,hm2⟩
theorem Zsn {A:Option Addr} {n c:Nat} {m:MpS} {o:Obj} {u:Value} {l:List Sp} (h:Uy U w0 w B b s cs ix dv dec) (hu:Vz w (fun k=>w0.heap.size≤k∧dv.ownBlock≠some k) u l) (hg:Grew mpE (w.alloc o) w0.heap.size dv (dec++[m]) A n c w') (x:Value) :
 Vz (w'.setCell ⟨b,ix,none⟩ x) (fun k=>w0.heap.size≤k∧(Value.slice A n c).ownBlock≠some k) u l:=by
 have hbl:=h.hU b h.ub
 have h3:Vz (w.alloc o) (fun k=>(w0.heap.size≤k∧dv.ownBlock≠some k)∧k < w.heap.size) u l:=Vz.ext (Rd.mono hu fun k hk hl=>⟨hk,hl⟩) ((Yl _).alloc o)
 have h4:=(h3.chg hg.chg (fun k hk e=>hk.1.2 e)).chg ((Chg.refl (· = b) w').setCell (p:=⟨b,ix,none⟩) (.inl rfl) x) (fun k hk e=>by have:=hk.1.1;omega)
 exact Rd.mono h4 fun k hk _=>⟨hk.1.1,fun e=>by
  rcases hg.at_ with h1|h1
  ·exact hk.1.2 (h1.symm.trans e)
  rw [e] at h1;have:=hk.2;simp at h1;omega⟩
end
end
abbrev iV:Int→Value:=Value.int .i64
theorem Uy.back {U:Nat→Prop} {w W1 w':World} {B b s ix:Nat} {cs:List Value} {dv:Value} {dec:List MpS} (h:Uy U W1 w' B b s cs ix dv dec) (x:Ext w W1) (hU:∀ k,U k→k < w.heap.size):Uy U w w' B b s cs ix dv dec :=
 ⟨h.src,(x.chg U).trans h.chg,h.box,h.dOwn.base x.size,fun m hm=>⟨Rd.mono (h.tos m hm).1 fun k hk _=>⟨Nat.le_trans x.size hk.1,hk.2⟩,(h.tos m hm).2⟩,hU,h.ub,h.us,h.bs,h.bB⟩
def Zxa (U:Nat→Prop) (w0:World) (B b s:Nat) (cs:List Value) (e:Ending) (w':World):Prop :=
 ∃ (dv:Value) (dec:List MpS) (u:Value) (l:List Sp),e=.returned (.tuple #[])∧Uy U w0 w' B b s (cs.set 5 u) 8 dv dec∧dec.length≤28∧Vz w' (fun k=>w0.heap.size≤k) u l∧l.length≤28∧Zrh (dec.map Subtype.val) l 28
theorem Zws (U:Nat→Prop) (B b s gs C:Nat) (cs:List Value) (st:List Int) (w:World) (h:Uy U w w B b s cs 8 (.slice none 0 0) []) (hcl:cs.length=12) (h5:cs[5]?=some (.slice none 0 0))
 (hst:Xs w gs (st.map iV)) (hsl:st.length=28) (hug:U gs) (hgb:gs≠b) (hgs:gs≠s) (hBg:B≤gs) (hC:28≤C) (hs3:∀ z∈st,0≤z∧z≤4∧z≠3) :
 Calls Tryz.prog 48 #[.pointer (some ⟨s,0,none⟩),.pointer (some ⟨b,0,none⟩),.slice (some ⟨gs,0,none⟩) 28 C] w (Zxa U w B b s cs):=by
 have H:=Yw h
 have Hst:=Yw hst
 have H5:=Yw h5
 have Hsl:=Yw hsl
 have Hs3:=Yw hs3
 clear h hst h5 hsl hs3
 go_enter Tryz.func48,Tryz.ntmps48
 go_wp2_with fail
 refine (I3 _).mono ?_
 rintro e w1 ⟨pv,rfl,hrow,hx1⟩
 obtain ⟨Ap,Cp,rfl,hlp,hcp⟩:=Xz.shape hrow
 have hp28:Js.length=28:=rfl
 rw [hp28] at hrow hlp ⊢
 have Hrow:=Yw hrow
 have HX1:=Yw hx1
 unfold maxLen at hcp
 have hs1:=hx1.size
 have hU:=H.out.hU
 have G00:=Yw (show Uy U w1 w1 B b s (cs.set 5 (.slice none 0 0)) 8 (.slice none 0 0) [] from by
  have g:=H.out.ext hx1
  refine ⟨g.src,Chg.refl _ _,?_,Own.nil _ _ _,by simp,fun k hk=>Nat.lt_of_lt_of_le (hU k hk) hs1,g.ub,g.us,g.bs,g.bB⟩
  rw [K5 H5.out];exact g.box)
 have B00:=Yw (Hst.out.ext hx1)
 clear hrow hx1 hp28
 go_wp2_with fail
 go_loopw [13] (fun o wx=>∃ (i:Nat) (dv:Value) (dec:List MpS) (u:Value) (l:List Sp) (st:List Int),i≤28∧o=.int .i64 (i:Int)∧Uy U w1 wx B b s (cs.set 5 u) 8 dv dec∧dec.length≤i∧Vz wx (fun k=>w1.heap.size≤k∧dv.ownBlock≠some k) u l∧l.length≤i∧Xs wx gs (st.map iV)∧st.length=28∧Zrh (dec.map Subtype.val) l i∧(∀ (j:Nat) z,i≤j→st[j]?=some z→0≤z∧z≤4∧z≠3)) (fun o _=>28 - (intOf o).toNat)
 case atStart=>exact ⟨0,_,[],_,[],st,by omega,rfl,G00.out,by simp,Rd.nil ..,by simp,B00.out,Hsl.out,⟨SpP.nil _ _,by simp,by simp,by simp⟩,fun j z _ h=>Hs3.out z (Zy h)⟩
 rename World=>wx
 clear Hst Hsl B00 G00 Hs3
 obtain ⟨i,dv,dec,u,l,st,hi,rfl,hg,hl,hsp,hl2,hbs,hsl,hmp,hs3⟩:=hrel
 have Hmp:=Yw hmp
 have Hs3:=Yw hs3
 have G0:=Yw hg
 have Hl:=Yw hl
 have S0:=Yw hsp
 have Hl2:=Yw hl2
 have B0:=Yw hbs
 have Hsl:=Yw hsl
 clear hg hl hsp hl2 hbs hsl hmp hs3
 by_cases hi28:i < 28
 ·have hd_i:decide ((i:Int) < (28:Int))=true:=Yf (by omega)
  have i0_i:(0:Int)≤(i:Int):=by omega
  have i1_i:(i:Int) < (28:Int):=by omega
  obtain ⟨c,hc⟩:∃ c,Js[i]?=some c:=⟨Js[i]'(show i < 28 from hi28),Zz _⟩
  have hrow':Xz wx (fun k=>w.heap.size≤k) (.slice Ap 28 Cp) Js:=Rd.chg Hrow.out G0.out.chg (fun k hk e=>by have:=hU k e;omega)
  obtain ⟨gp,op,cp,hvv,_,_,_,hgp,cz⟩:=Xz.get hrow' hc
  rw [show Js.length=28 from rfl] at hvv
  simp only [Ye,true_and] at hvv
  obtain ⟨rfl,rfl⟩:=hvv
  have Hc:=Yw hc
  clear hc hrow'
  go_upto_region 4 with fail
  go_cut [32] (fun o wq=>∃ q:Bool,o=.bool q∧Wl B s wx wq∧(q=true→c∈([947,7684,128512]:List Int)))
  case first =>
   by_cases h1:c=128512
   ·have e1:(c == 128512)=true:=by simp [h1]
    have Hin:=Yw (show c∈([947,7684,128512]:List Int) by simp [h1])
    clear h1
    go_wp2_with fail
    go_meet
    exact ⟨_,rfl,Wl.start G0.out.src,fun _=>Hin.out⟩
   have e1:(c == 128512)=false:=by simp [h1]
   clear h1
   by_cases h2:c=7684
   ·have e2:(c == 7684)=true:=by simp [h2]
    have Hin:=Yw (show c∈([947,7684,128512]:List Int) by simp [h2])
    clear h2
    go_wp2_with fail
    go_meet
    exact ⟨_,rfl,Wl.start G0.out.src,fun _=>Hin.out⟩
   have e2:(c == 7684)=false:=by simp [h2]
   clear h2
   by_cases h3:c=947
   ·have e3:(c == 947)=true:=by simp [h3]
    have Hin:=Yw (show c∈([947,7684,128512]:List Int) by simp [h3])
    clear h3
    go_wp2_with fail
    refine (Xh s 2 (by omega) (by omega) _ B G0.out.src).mono ?_
    rintro e w5 ⟨v5,hv5,rfl,h5⟩
    obtain ⟨q5,hq5⟩:∃ q,((v5:Int) == 0)=q:=⟨_,rfl⟩
    have hq6:(v5 == 0)=q5:=by rw [← hq5,Bool.eq_iff_iff];simp
    go_wp2_with fail
    go_meet
    exact ⟨_,rfl,h5,fun _=>Hin.out⟩
   have e3:(c == 947)=false:=by simp [h3]
   clear h3
   go_wp2_with fail
   go_meet
   exact ⟨_,rfl,Wl.start G0.out.src,fun h=>by cases h⟩
  obtain ⟨q,rfl,hT,hin⟩:=hcut
  have Hin:=Yw hin
  rename World=>wc
  have hsw:=H.out.hU s H.out.us
  have G1:=Yw (G0.out.to hT)
  have S1:=Yw (show Vz wc (fun k=>w1.heap.size≤k∧dv.ownBlock≠some k) u l from Rd.chg S0.out hT.chg (fun k hk e=>by have:=hk.1;omega))
  have B1:=Yw (B0.out.chg hT.chg (show ¬ gs=s from hgs))
  obtain ⟨si,hsi⟩:∃ z,st[i]?=some z:=⟨st[i]'(by rw [Hsl.out];exact hi28),Zz _⟩
  have Hsi:=Yw hsi
  have Hsb:=Yw (Hs3.out i si (Yo _) hsi)
  clear hT cz hin hsi
  go_upto_if 32 with fail
  go_cut [] (fun wq=>∃ (dv:Value) (dec:List MpS) (st:List Int) (si:Int),Uy U w1 wq B b s (cs.set 5 u) 8 dv dec∧dec.length≤i+1∧Vz wq (fun k=>w1.heap.size≤k∧dv.ownBlock≠some k) u l∧Xs wq gs (st.map iV)∧st.length=28∧st[i]?=some si∧Zol (dec.map Subtype.val) l i c si∧(∀ (j:Nat) z,i < j→st[j]?=some z→0≤z∧z≤4∧z≠3))
  case first =>
   cases q with
   | false =>
    go_wp2_with fail
    go_meet
    exact ⟨_,_,_,si,G1.out,by have:=Hl.out;omega,S1.out,B1.out,Hsl.out,Hsi.out,Hmp.out.same c Hsb.out.2.1 Hsb.out.2.2,fun j z hj h=>Hs3.out j z (by omega) h⟩
   | true =>
    go_wp2_with fail
    refine (Xh s 3 (by omega) (by omega) _ B G1.out.src).mono ?_
    rintro e w2 ⟨v2,hv2,rfl,h2⟩
    have T2:=Yw h2
    clear h2
    obtain ⟨z2,hz2⟩:∃ z:Int,97+(v2:Int)=z:=⟨_,rfl⟩
    have rz:IntKind.i64.wrap (97+(v2:Int))=z2:=by rw [Yq _ (by omega)];exact hz2
    have Hz2:=Yw (show 97≤z2∧z2≤99 by omega)
    clear hz2
    have hslc:=G1.out.src.lt
    have hw2:=T2.out.chg.size
    have M0:=Yw (show Mw B s wc ((w2.alloc (.cells #[.int .i64 z2] 3)).alloc (.cells #[.int .i64 c,.slice (some ⟨w2.heap.size,0,none⟩) 1 1] 106)) (w2.heap.size+1) c (.slice (some ⟨w2.heap.size,0,none⟩) 1 1) [z2] from
     ⟨(T2.out.alloc _).alloc _,Zr1 w2 z2 c _ _,(Ta w2 z2 _ hw2).ext ((Yl _).alloc _),by simp [Value.ownBlock],by omega,by simp,by simp,hslc⟩)
    go_upto_region 6 with fail
    obtain ⟨mb,hmb⟩:∃ x,w2.heap.size+1=x:=⟨_,rfl⟩
    obtain ⟨tb,htb⟩:∃ x,w2.heap.size=x:=⟨_,rfl⟩
    obtain ⟨W3,hW3⟩:∃ W,(w2.alloc (.cells #[.int .i64 z2] 3)).alloc (.cells #[.int .i64 c,.slice (some ⟨w2.heap.size,0,none⟩) 1 1] 106)=W:=⟨_,rfl⟩
    rw [hW3,hmb,htb] at M0
    rw [hW3,hmb,htb]
    clear hW3 hmb htb T2 hslc hw2 rz
    go_wp2_with fail
    refine (Xh s 2 (by omega) (by omega) _ B M0.out.t.src).mono ?_
    rintro e w4 ⟨v4,hv4,rfl,h4⟩
    have M1:=Yw (M0.out.next h4)
    clear h4 M0
    go_upto_if 41 with fail
    go_cut [] (fun wq=>∃ (tv:Value) (to3:List Int),Mw B s wc wq mb c tv to3∧∃ v:Int,97≤v∧v≤99∧(to3=[v]∨to3=[v,46]))
    case first =>
     by_cases hv0:v4=0
     ·subst hv0
      have c0:=(M1.out).box.at_ 0 (by simp)
      have c1:=(M1.out).box.at_ 1 (by simp)
      have fz:=(M1.out).box.fz
      simp only [Zx,Zw] at c0 c1
      have hml:=M1.out.box.lt
      go_wp2_with (at_builtin;refine Wy Xe _ _ _ rfl rfl rfl rfl (M1.out.own.ext ((Yl _).alloc _)) rfl (X9 w4 46 _ _ rfl) (by show 1+1≤maxLen;unfold maxLen;omega) (by show (1+1) * 8≤_;omega) (by have:=M1.out.t.chg.size;simp;omega) ?_;intro A8 n8 c8 w8 hg8;have M8:=Yw (M1.out.grow rfl hg8);have cm8:=Yw ((M1.out.box.ext ((Yl _).alloc (.cells #[.int .i64 46] 3))).chg hg8.chg (fun e=>M1.out.ne e));have c8':=cm8.out.at_ 1 (by simp);have f8:=cm8.out.fz;simp only [Zx,Zw] at c8';clear hg8)
      go_meet
      exact ⟨_,_,M8.out,z2,Hz2.out.1,Hz2.out.2,.inr rfl⟩
     have e1:((v4:Int) == 0)=false:=by simp;omega
     have e2:(v4 == 0)=false:=by simp;omega
     have e3:¬ (v4:Int)=0:=by omega
     clear hv0
     go_wp2_with fail
     go_meet
     exact ⟨_,_,M1.out,z2,Hz2.out.1,Hz2.out.2,.inl rfl⟩
    obtain ⟨tv,to3,hM,hto3⟩:=hcut
    rename World=>w5
    have M2:=Yw hM
    have Hto3:=Yw hto3
    clear hM M1 hto3
    go_wp2_with fail
    refine (Xh s 3 (by omega) (by omega) _ B M2.out.t.src).mono ?_
    rintro e wk ⟨v6,hv6,rfl,h6⟩
    have M3:=Yw (M2.out.next h6)
    clear h6 M2
    have G3:=Yw (G1.out.to M3.out.t)
    have S3:=Yw (show Vz wk (fun k=>w1.heap.size≤k∧dv.ownBlock≠some k) u l from Rd.chg S1.out M3.out.t.chg (fun k hk e=>by have:=hk.1;omega))
    have B3:=Yw (B1.out.chg M3.out.t.chg (show ¬ gs=s from hgs))
    by_cases hv0:0 < v6
    ·have d1:decide ((0:Int) < (v6:Int))=true:=Yf (by omega)
     obtain ⟨A11,C11,rfl,hlC11,hC11⟩:=G3.out.dOwn.shape
     have c11:=G3.out.cx (by simp [hcl])
     have c11a:(wk.alloc (.cells #[.int .i64 c,tv] 106)).cell? ⟨b,8,none⟩=some (.slice A11 dec.length C11):=(G3.out.ext ((Yl _).alloc _)).cx (by simp [hcl])
     have Hr7:=Yw (show Xz wk (fun k=>w1.heap.size≤k∧(Value.slice A11 dec.length C11).ownBlock≠some k) tv to3 from by
      have h1:Xz wk (fun k=>wc.heap.size≤k) tv to3:=M3.out.own.rd
      have h2:=G1.out.chg.size
      exact Rd.mono h1 fun k hk _=>⟨by omega,fun e=>by have:=(G1.out.dOwn.lt k e).2;omega⟩)
     obtain ⟨At,Ct,rfl,hlt3,hct3⟩:=M3.out.own.shape
     obtain ⟨nt,hnt⟩:∃ x,to3.length=x:=⟨_,rfl⟩
     rw [hnt] at M3 hlt3 Hr7 c11a
     have Hnt:=Yw hnt
     have Htl:=Yw (show to3.length≤2 from M3.out.l2)
     obtain ⟨n11,hn11⟩:∃ n,dec.length=n:=⟨_,rfl⟩
     rw [hn11] at c11 c11a G3 Hr7 hlC11 S3
     have Hn11:=Yw hn11
     have hn5:n11≤28:=by have:=Hl.out;omega
     unfold maxLen at hC11 hct3
     have c0:=(M3.out).box.at_ 0 (by simp)
     have c1:=(M3.out).box.at_ 1 (by simp)
     have fz:=(M3.out).box.fz
     simp only [Zx,Zw] at c0 c1
     clear hn11 hnt G1 S1 B1
     go_upto_region 9 with fail
     go_region_law (first
      | ((refine Xa mpE (.tmp 54) (.tmp 56) 32 (by rfl) (by rfl) (by rfl) (by rfl) (G3.out.dOwn.ext ((Yl _).drew.alloc _)) (by rfl) (Zwd wk.drew c At nt Ct to3 _ _ rfl) (by rw [Hn11.out];show n11+1≤_;omega) (by show 32≤1000;omega) (by have:=G3.out.chg.size;simp;omega) ?_);intro A8 n8 c8 w8 hg8;have G8:=Yw ((G3.out.ext (Yl _).drew).grow (by simp [hcl]) (Hr7.out.ext (Yl _).drew) (by show to3.length≤18;have:=Htl.out;omega) hg8);have c8':w8.cell? ⟨b,8,none⟩=some (.slice A11 n11 C11):=((((G3.out.ext (Yl _).drew).ext ((Yl _).alloc _)).box.chg hg8.chg (fun e=>by have:=(G3.out.dOwn.lt b e).1;have:=hU b G3.out.ub;omega)).at_ 8 (by simp [hcl])).trans (by simp [Yx,hcl]);have f8:=((((G3.out.ext (Yl _).drew).ext ((Yl _).alloc _)).box.chg hg8.chg (fun e=>by have:=(G3.out.dOwn.lt b e).1;have:=hU b G3.out.ub;omega)).fz);have S8:=Yw (Zsn (G3.out.ext (Yl _).drew) (Vz.ext S3.out (Yl _).drew) hg8 (.slice A8 n8 c8));have B8:=Yw ((((B3.out.ext (Yl _).drew).ext ((Yl _).alloc _)).chg hg8.chg (fun e=>by have:=(G3.out.dOwn.lt gs e).1;have:=hU gs hug;omega)).far (j:=8) (c:=b) hgb (.slice A8 n8 c8));have fg8:=B8.out.fz i;have cg8:=B8.out.at_ i (by rw [Zq,Hsl.out];exact hi28);clear hg8))
     all_goals
      rw [Zn,Hsi.out] at cg8
      simp only [Option.map_some] at cg8
      go_wp2_with fail
      go_meet
      refine ⟨_,_,st.set i 3,3,G8.out.far hug hgb hgs hBg _,by rw [Zs,Hn11.out];show n11+1≤i+1;have:=Hl.out;have:=Hn11.out;omega,?_,?_,by rw [Zf];exact Hsl.out,Zc (by rw [Hsl.out];exact hi28),?_,fun j z hj h=>Hs3.out j z (by omega) (by rwa [Zb (by omega)] at h)⟩
      ·exact Rd.chg S8.out ((Chg.refl (· = gs) _).setCell (p:=⟨gs,i,none⟩) (.inl rfl) _) (fun k hk e=>by have:=hk.1;have:=hU gs hug;omega)
      ·have:=B8.out.set (j:=i) (by rw [Zq,Hsl.out];exact hi28) (.int .i64 3)
       rw [List.map_set];exact this
      rw [Z9]
      exact Hmp.out.more ⟨c,.slice At nt Ct,to3⟩ (by first|exact Hin.out rfl|exact Hin.out trivial) Hto3.out
    have d1:decide ((0:Int) < (v6:Int))=false:=Yg (by omega)
    go_wp2_with fail
    go_meet
    exact ⟨_,_,_,si,G3.out,by have:=Hl.out;omega,S3.out,B3.out,Hsl.out,Hsi.out,Hmp.out.same c Hsb.out.2.1 Hsb.out.2.2,fun j z hj h=>Hs3.out j z (by omega) h⟩
  clear G0 S0 B0 G1 S1 B1 Hl Hsl Hmp Hs3 Hsi Hsb si
  obtain ⟨dv,dec,st,si,hg,hl,hs,hb,hsl,hsi,hmq,hs3⟩:=hcut
  rename World=>w5
  have G4:=Yw hg
  have Hl:=Yw hl
  have S4:=Yw hs
  have B4:=Yw hb
  have Hsl:=Yw hsl
  have Hmq:=Yw hmq
  have Hs3:=Yw hs3
  clear hg hl hs hb hsl hmq hs3
  have cg:=B4.out.at_ i (by rw [Zq,Hsl.out];exact hi28)
  rw [Zn,hsi] at cg
  simp only [Option.map_some] at cg
  have mg:=lat cg
  clear hsi
  go_upto_region 11 with fail
  go_region_with (go_at_call 46;refine (add_any b 5 ((cs.set 5 u).set 8 dv) u l c c 0 si _ ((G4.out.ext (Yl _).drew).box) (by simp [Yx,hcl]) (Vz.ext S4.out (Yl _).drew) (fun e=>by have:=hU b G4.out.ub;have:=e.1;omega) (by have:=Hl2.out;omega)).mono ?_;rintro e w7 ⟨u7,l7,rfl,hb7,hs7,hl7,hc7⟩;have B7:=Yw hb7;have S7:=Yw hs7;have L7:=Yw hl7;have C7:=Yw hc7;clear hb7 hs7 hl7 hc7)
  all_goals
   go_wp2_with fail
   go_roundw
   case rel =>
    refine ⟨i+1,dv,dec,u7,l7,st,by omega,by go_num,?_,Hl.out,?_,by have:=(Hmq.out.next Hc.out (by rcases L7.out with h|h;exact .inl h;exact .inr ⟨by have:=h.1;omega,h.2⟩)).sp.len;omega,?_,Hsl.out,Hmq.out.next Hc.out (by rcases L7.out with h|h;exact .inl h;exact .inr ⟨by have:=h.1;omega,h.2⟩),fun j z hj h=>Hs3.out j z (by omega) h⟩
    ·have:=(G4.out.ext (Yl _).drew).cell (j:=5) (by omega) B7.out C7.out
     rwa [List.set_set] at this
    ·exact Rd.mono S7.out fun k hk _=>by
      rcases hk with hk|hk
      ·exact hk
      have h9:=G4.out.chg.size
      have hk':w5.heap.size≤k:=hk
      exact ⟨by omega,fun e=>by have:=(G4.out.dOwn.lt k e).2;omega⟩
    exact ((B4.out.ext (Yl _).drew).chg C7.out hgb)
   case measure=>(simp [intOf];omega)
 have hd_i:decide ((i:Int) < (28:Int))=false:=Yg (by omega)
 go_wp2_with fail
 refine Yt (v:=.tuple #[]) (by simp [results,Tryz.results48,go_sem]) rfl ⟨dv,dec,u,l,rfl,G0.out.back HX1.out hU,by have:=Hl.out;omega,Rd.mono S0.out fun k hk _=>by have:=hk.1;omega,by have:=Hl2.out;omega,by have:=Hmp.out;rwa [show i=28 by omega] at this⟩
section
section
variable {P:Program} {ops:Array Oper} {Q:Exit→Act→World→Prop} {md:Region.Mode} {S:World→Prop}
theorem Zrk {i:Nat} {oi:Oper} {d:Option Nat} {v:Value} {fuel:Nat} {listed:Array Bool} {a:Act} {w:World} (hi:ops[i]?=some oi) (hd:oi.dst=d)
 (hs:Region.noSelect ops=true) (hf:Region.free md ops listed i=true) (hr:(Region.ready md ops listed).contains i=true)
 (hQ:∀ c a w,Q (.panic c) (a.put d v) w→Q (.panic c) a w) (hy:YieldsIf P ops S oi v a) (hS:S w)
 (h:wpAnyH P md ops Q S fuel (listed.setIfInBounds i true) (a.put d v) w):wpAnyH P md ops Q S (fuel+1) listed a w:=by
 subst hd
 exact wpAnyH_take hi hs hf hr hQ hy hS h
end
theorem Zv3 (w:World) (cs:Array Value) (t:TypeId) (n z:Nat) (h:cs.size=n * z) (hn:n≤1000):Rd (w.alloc (.cells cs t)) (fun k=>w.heap.size≤k) z (.slice (some ⟨w.heap.size,0,none⟩) n n) n cs.toList:=by
 refine ⟨by simp [h],_,n,rfl,Yo _,by unfold maxLen;omega,fun _=>⟨w.heap.size,0,rfl,Yo _,by simp,fun j u hu=>?_⟩⟩
 rw [Nat.zero_add]
 show (w.alloc (.cells cs t)).cell? ⟨w.heap.size,j,none⟩=some u
 have h1:(w.alloc (.cells cs t)).heap[w.heap.size]?=some (.cells cs t):=heap_alloc_new w _
 simp only [World.cell?,h1]
 simpa using hu
theorem Zqq {w:World} {b:Nat} {T:Tbl} (h:Q9 w b T):w.cell? ⟨b,0,none⟩=some T.catV∧w.cell? ⟨b,1,none⟩=some T.clsV∧w.cell? ⟨b,2,none⟩=some T.joiV∧w.cell? ⟨b,3,none⟩=some T.bidV∧w.cell? ⟨b,4,none⟩=some T.scrV∧w.cell? ⟨b,5,none⟩=some T.staV∧w.cell? ⟨b,6,none⟩=some T.ignV∧w.cell? ⟨b,7,none⟩=some T.extV∧w.cell? ⟨b,8,none⟩=some T.mapV∧w.cell? ⟨b,9,none⟩=some T.decV∧w.cell? ⟨b,10,none⟩=some T.excV∧w.cell? ⟨b,11,none⟩=some T.proV :=
 ⟨h.at_ 0 (by omega),h.at_ 1 (by omega),h.at_ 2 (by omega),h.at_ 3 (by omega),h.at_ 4 (by omega),h.at_ 5 (by omega),h.at_ 6 (by omega),h.at_ 7 (by omega),h.at_ 8 (by omega),h.at_ 9 (by omega),h.at_ 10 (by omega),h.at_ 11 (by omega)⟩
def Zp5 (w:World):World:=(((((w.alloc (.cells #[.int .i64 111] 3)).alloc (.cells #[.int .i64 114,.int .i64 110] 3)).alloc (.cells #[.int .i64 97] 3)).alloc (.cells #[.int .i64 97] 3)).alloc (.cells #[.int .i64 111,.int .i64 803] 3)).alloc (.cells #[.int .i64 48,.slice (some ⟨w.heap.size,0,none⟩) 1 1,.int .i64 109,.slice (some ⟨w.heap.size+1,0,none⟩) 2 2,.int .i64 945,.slice (some ⟨w.heap.size+1+1,0,none⟩) 1 1,.int .i64 1072,.slice (some ⟨w.heap.size+1+1+1,0,none⟩) 1 1,.int .i64 1632,.slice (some ⟨w.heap.size+1+1+1+1,0,none⟩) 2 2] 106)
theorem Zxg (w:World):Ext w (Zp5 w)∧∃ L:List MpS,L.length=5∧RdE mpE (Zp5 w) (fun k=>w.heap.size≤k) (.slice (some ⟨w.heap.size+5,0,none⟩) 5 5) L∧(∀ m∈L,Xz (Zp5 w) (fun k=>w.heap.size≤k) m.1.tv m.1.to_∧1≤m.1.to_.length∧m.1.to_.length≤2)∧(L.map fun m=>(m.1.fr,m.1.to_))=Es:=by
 have a0:=Ww w 3 [111] 1 rfl _ rfl (by omega)
 obtain ⟨w1,h1⟩:∃ x,w.alloc (.cells #[.int .i64 111] 3)=x:=⟨_,rfl⟩
 have s1:w1.heap.size=w.heap.size+1:=by rw [← h1];simp
 have a1:=Ww w1 3 [114,110] 2 rfl _ rfl (by omega)
 obtain ⟨w2,h2⟩:∃ x,w1.alloc (.cells #[.int .i64 114,.int .i64 110] 3)=x:=⟨_,rfl⟩
 have s2:w2.heap.size=w.heap.size+1+1:=by rw [← h2];simp [s1]
 have a2:=Ww w2 3 [97] 1 rfl _ rfl (by omega)
 obtain ⟨w3,h3⟩:∃ x,w2.alloc (.cells #[.int .i64 97] 3)=x:=⟨_,rfl⟩
 have s3:w3.heap.size=w.heap.size+1+1+1:=by rw [← h3];simp [s2]
 have a3:=Ww w3 3 [97] 1 rfl _ rfl (by omega)
 obtain ⟨w4,h4⟩:∃ x,w3.alloc (.cells #[.int .i64 97] 3)=x:=⟨_,rfl⟩
 have s4:w4.heap.size=w.heap.size+1+1+1+1:=by rw [← h4];simp [s3]
 have a4:=Ww w4 3 [111,803] 2 rfl _ rfl (by omega)
 obtain ⟨w5,h5⟩:∃ x,w4.alloc (.cells #[.int .i64 111,.int .i64 803] 3)=x:=⟨_,rfl⟩
 have s5:w5.heap.size=w.heap.size+5:=by rw [← h5];simp [s4]
 have x1:Ext w w1:=by rw [← h1];exact (Yl _).alloc _
 have x2:Ext w1 w2:=by rw [← h2];exact (Yl _).alloc _
 have x3:Ext w2 w3:=by rw [← h3];exact (Yl _).alloc _
 have x4:Ext w3 w4:=by rw [← h4];exact (Yl _).alloc _
 have x5:Ext w4 w5:=by rw [← h5];exact (Yl _).alloc _
 simp only [List.map_cons,List.map_nil] at a0 a1 a2 a3 a4
 rw [h1] at a0
 rw [h2,s1] at a1
 rw [h3,s2] at a2
 rw [h4,s3] at a3
 rw [h5,s4] at a4
 have hr:=Zv3 w5 #[.int .i64 48,.slice (some ⟨w.heap.size,0,none⟩) 1 1,.int .i64 109,.slice (some ⟨w.heap.size+1,0,none⟩) 2 2,.int .i64 945,.slice (some ⟨w.heap.size+1+1,0,none⟩) 1 1,.int .i64 1072,.slice (some ⟨w.heap.size+1+1+1,0,none⟩) 1 1,.int .i64 1632,.slice (some ⟨w.heap.size+1+1+1+1,0,none⟩) 2 2] 106 5 2 rfl (by omega)
 have e:Zp5 w=w5.alloc (.cells #[.int .i64 48,.slice (some ⟨w.heap.size,0,none⟩) 1 1,.int .i64 109,.slice (some ⟨w.heap.size+1,0,none⟩) 2 2,.int .i64 945,.slice (some ⟨w.heap.size+1+1,0,none⟩) 1 1,.int .i64 1072,.slice (some ⟨w.heap.size+1+1+1,0,none⟩) 1 1,.int .i64 1632,.slice (some ⟨w.heap.size+1+1+1+1,0,none⟩) 2 2] 106):=by
  rw [← h5,← h4,← h3,← h2,← h1];rfl
 rw [e]
 rw [s5] at hr
 have x6:=(Yl w5).alloc (.cells #[.int .i64 48,.slice (some ⟨w.heap.size,0,none⟩) 1 1,.int .i64 109,.slice (some ⟨w.heap.size+1,0,none⟩) 2 2,.int .i64 945,.slice (some ⟨w.heap.size+1+1,0,none⟩) 1 1,.int .i64 1072,.slice (some ⟨w.heap.size+1+1+1,0,none⟩) 1 1,.int .i64 1632,.slice (some ⟨w.heap.size+1+1+1+1,0,none⟩) 2 2] 106)
 have x16:=x2.trans (x3.trans (x4.trans (x5.trans x6)))
 refine ⟨x1.trans x16,[⟨⟨48,.slice (some ⟨w.heap.size,0,none⟩) 1 1,[111]⟩,rfl⟩,⟨⟨109,.slice (some ⟨w.heap.size+1,0,none⟩) 2 2,[114,110]⟩,rfl⟩,⟨⟨945,.slice (some ⟨w.heap.size+1+1,0,none⟩) 1 1,[97]⟩,rfl⟩,⟨⟨1072,.slice (some ⟨w.heap.size+1+1+1,0,none⟩) 1 1,[97]⟩,rfl⟩,⟨⟨1632,.slice (some ⟨w.heap.size+1+1+1+1,0,none⟩) 2 2,[111,803]⟩,rfl⟩],rfl,?_,?_,rfl⟩
 ·exact Rd.mono hr fun k hk _=>by omega
 intro m hm
 simp only [Zg,Zh,or_false] at hm
 rcases hm with rfl|rfl|rfl|rfl|rfl
 ·exact ⟨Rd.mono (RdE.ext a0 x16) fun k hk _=>hk,by simp,by simp⟩
 ·exact ⟨Rd.mono (RdE.ext a1 (x3.trans (x4.trans (x5.trans x6)))) fun k hk _=>by omega,by simp,by simp⟩
 ·exact ⟨Rd.mono (RdE.ext a2 (x4.trans (x5.trans x6))) fun k hk _=>by omega,by simp,by simp⟩
 ·exact ⟨Rd.mono (RdE.ext a3 (x5.trans x6)) fun k hk _=>by omega,by simp,by simp⟩
 exact ⟨Rd.mono (RdE.ext a4 x6) fun k hk _=>by omega,by simp,by simp⟩
theorem Zqw {w:World} {S:Nat→Prop} {n c g:Nat} {l:List MpS} (h:RdE mpE w S (.slice (some ⟨g,0,none⟩) n c) l) {j:Nat} {m:MpS} (hj:l[j]?=some m):w.cell? ⟨g,j * 2,none⟩=some (.int .i64 m.1.fr)∧w.cell? ⟨g,j * 2+1,none⟩=some m.1.tv:=by
 have hj2:(l.map Subtype.val)[j]?=some m.1:=by rw [Zn,hj];rfl
 obtain ⟨h1,h2⟩:=Jc hj2
 obtain ⟨g',o',c',e,_,_,_,_,hc⟩:=Rd.at_ h (Zr.1 hj).1
 simp only [Ye,Yd,Addr.mk.injEq,true_and,and_true] at e
 obtain ⟨⟨rfl,rfl⟩,-,rfl⟩:=e
 have k1:=hc _ _ h1
 have k2:=hc _ _ h2
 rw [Nat.zero_add] at k1 k2
 exact ⟨k1,k2⟩
def Zxu (T:Tbl) (U:Nat→Prop) (w0:World) (B b s:Nat) (cs:List Value) (e:Ending) (w':World):Prop :=
 ∃ (dv:Value) (dec:List MpS),e=.returned (.tuple #[])∧Uy U w0 w' B b s cs 11 dv dec∧dec.length≤5∧Zy0 T (dec.map Subtype.val) 5
theorem Lv (U:Nat→Prop) (B b s:Nat) (T:Tbl) (w:World) (hT:Xm w (fun k=>¬ U k∧k < w.heap.size) T) (hp:T.pro=[]) (hpv:T.proV=.slice none 0 0) (h:Uy U w w B b s (Ve T) 11 (.slice none 0 0) []) :
 Calls Tryz.prog 49 #[.pointer (some ⟨s,0,none⟩),.pointer (some ⟨b,0,none⟩)] w (Zxu T U w B b s (Ve T)):=by
 have H:=Yw h
 have HT:=Yw hT
 clear h hT
 go_enter Tryz.func49,Tryz.ntmps49
 go_wp2_with fail
 have hlit:=Zxg w
 obtain ⟨W5,hW5⟩:∃ W,Zp5 w=W:=⟨_,rfl⟩
 rw [hW5] at hlit
 unfold Zp5 at hW5
 rw [hW5]
 obtain ⟨hx5,L,hLl,hLr,hLt,hLp⟩:=hlit
 have G5:=Yw (H.out.ext hx5)
 have HX5:=Yw hx5
 have HLr:=Yw hLr
 have HLt:=Yw hLt
 have HLl:=Yw hLl
 have HLp:=Yw hLp
 clear hW5 hx5 hLr hLt hLl hLp
 have hlW:w.heap.size+1+1+1+1+1=w.heap.size+5:=by omega
 rw [hlW]
 obtain ⟨gl,hgl⟩:∃ x,w.heap.size+5=x:=⟨_,rfl⟩
 rw [hgl] at HLr ⊢
 go_loopw [18] (fun o wx=>∃ (j:Nat) (dv:Value) (dec:List MpS),j≤5∧o=.int .i64 (j:Int)∧Uy U w wx B b s (Ve T) 11 dv dec∧dec.length≤j∧Chg U W5 wx∧(∀ k,dv.ownBlock=some k→W5.heap.size≤k)∧Zy0 T (dec.map Subtype.val) j) (fun o _=>5 - (intOf o).toNat)
 case atStart=>exact ⟨0,_,[],by omega,rfl,G5.out,by simp,Chg.refl _ _,(by intro k h;cases h),Zy0.nil T⟩
 rename World=>wx
 obtain ⟨j,dv,dec,hj,rfl,hg,hl,hc,hn,hpp⟩:=hrel
 have Hpp:=Yw hpp
 have G0:=Yw hg
 have Hl:=Yw hl
 have Hc:=Yw hc
 have Hn:=Yw hn
 clear hg hl hc hn hpp
 by_cases hj5:j < 5
 ·have hd_j:decide ((j:Int) < (5:Int))=true:=Yf (by omega)
  have i0_j:(0:Int)≤(j:Int):=by omega
  have i1_j:(j:Int) < (5:Int):=by omega
  obtain ⟨m,hm⟩:∃ m,L[j]?=some m:=⟨L[j]'(by rw [HLl.out];exact hj5),Zz _⟩
  have hU:=G0.out.hU
  have hrow:RdE mpE wx (fun k=>w.heap.size≤k) (.slice (some ⟨gl,0,none⟩) 5 5) L:=Rd.chg HLr.out Hc.out (fun k hk e=>by have:=hU k e;omega)
  obtain ⟨p0,p1⟩:=Zqw hrow hm
  obtain ⟨hti0,hl1,hl2⟩:=HLt.out m (Zy hm)
  have hti:=Xz.chg hti0 Hc.out (fun k hk e=>by have:=hU k e;omega)
  obtain ⟨Am,Cm,htv,hlm,hcm⟩:=hti.shape
  have hmv:m.1=⟨m.1.fr,.slice Am m.1.to_.length Cm,m.1.to_⟩:=by rw [← htv]
  rw [htv] at p1 hti
  obtain ⟨nm,hnm⟩:∃ x,m.1.to_.length=x:=⟨_,rfl⟩
  rw [hnm] at p1 hti hl1 hl2
  obtain ⟨z,hz⟩:∃ z,m.1.to_[nm - 1]?=some z:=⟨m.1.to_[nm - 1]'(by omega),Zz _⟩
  obtain ⟨gm,om,cm,hvv,_,_,hgw,hgm,cz⟩:=hti.get hz
  have Hgm:=Yw (show w.heap.size≤gm from hgw)
  rw [hnm] at hvv
  simp only [Ye] at hvv
  obtain ⟨rfl,-,rfl⟩:=hvv
  obtain ⟨n1,hn1⟩:∃ x,nm - 1=x:=⟨_,rfl⟩
  rw [hn1] at cz hz
  have Hti:=Yw hti
  have Hmv:=Yw hmv
  have Hnm:=Yw hnm
  have Htv:=Yw htv
  have Hz:=Yw hz
  have r1:IntKind.i64.wrap ((nm:Int) - 1)=(n1:Int):=by rw [Yq _ (by omega)];omega
  have i1:(0:Int)≤(n1:Int):=by omega
  have i2:(n1:Int) < (nm:Int):=by omega
  have i3:n1 < nm:=by omega
  have Hn1:=Yw hn1
  have Hmj:=Yw (show Es[j]?=some (m.1.fr,m.1.to_) by rw [← HLp.out,Zn,hm];rfl)
  have Hzl:=Yw (show m.1.to_.getLastD 0=z by
   have h1:0 < m.1.to_.length:=by omega
   rw [List.getLastD_eq_getLast?,List.getLast?_eq_getElem?,hnm,hn1,hz];rfl)
  clear hmv hnm htv hti hti0 hz hn1 hlW
  go_upto_region 3 with fail
  obtain ⟨W6,hW6⟩:∃ W,wx.alloc (.cells #[.int .i64 m.1.fr,.slice (some ⟨gm,om,none⟩) nm Cm] 106)=W:=⟨_,rfl⟩
  have hxw:=(Yl wx).alloc (.cells #[.int .i64 m.1.fr,.slice (some ⟨gm,om,none⟩) nm Cm] 106)
  have hmb:=Xs.new wx #[.int .i64 m.1.fr,.slice (some ⟨gm,om,none⟩) nm Cm] 106
  obtain ⟨mb,hmb2⟩:∃ x,wx.heap.size=x:=⟨_,rfl⟩
  rw [hW6] at hxw hmb
  rw [hmb2] at hmb
  rw [hW6,hmb2]
  clear hW6
  have cz6:=(hxw.cell (p:=⟨gm,om+n1,none⟩) hgm).trans cz
  have hgm6:=Nat.lt_of_lt_of_le hgm hxw.size
  have G6:=Yw (G0.out.ext hxw)
  have C6:=Yw (Hc.out.trans (hxw.chg U))
  have Hmb:=Yw hmb
  have hsx:s < mb:=by have:=G0.out.src.lt;omega
  have Hmb2:=Yw hmb2
  clear hmb2
  have hgs:gm≠s:=by have:=hU s G0.out.us;have:=Hgm.out;omega
  obtain ⟨T2,hT2c,hTi,hT2⟩:∃ T2:Tbl,Ve T2=(Ve T).set 11 dv∧T2.ign=T.ign∧∀ W,Wl B s W6 W→Xm W (fun _=>True) T2:=⟨{T with proV:=dv,pro:=dec.map Subtype.val},rfl,rfl,fun W t=>by
   have h1:Xm W (fun k=>¬ U k∧k < w.heap.size) T:=(HT.out.chg G6.out.chg (fun k hk e=>hk.1 e)).chg t.chg (fun k hk e=>hk.1 (e ▸ G6.out.us))
   have g:=G6.out.to t
   exact ⟨Rd.mono h1.cat fun _ _ _=>trivial,Rd.mono h1.cls fun _ _ _=>trivial,Rd.mono h1.joi fun _ _ _=>trivial,Rd.mono h1.bid fun _ _ _=>trivial,Rd.mono h1.scr fun _ _ _=>trivial,Rd.mono h1.sta fun _ _ _=>trivial,Rd.mono h1.ign fun _ _ _=>trivial,
    ⟨Rd.mono h1.ext.1 fun _ _ _=>trivial,fun m hm=>Rd.mono (h1.ext.2 m hm) fun _ _ _=>trivial⟩,⟨Rd.mono h1.map.1 fun _ _ _=>trivial,fun m hm=>Rd.mono (h1.map.2 m hm) fun _ _ _=>trivial⟩,⟨Rd.mono h1.dec.1 fun _ _ _=>trivial,fun m hm=>Rd.mono (h1.dec.2 m hm) fun _ _ _=>trivial⟩,Rd.mono h1.exc fun _ _ _=>trivial,
    ⟨by have:=g.dOwn.rd;exact Rd.mono (show Rd W _ 2 dv (dec.map Subtype.val).length (Wh (dec.map Subtype.val)) by rw [Zq];exact this) fun _ _ _=>trivial,fun q hq=>by
      obtain ⟨x,hx,rfl⟩:=List.mem_map.1 hq
      exact Rd.mono (g.tos x hx).1 fun _ _ _=>trivial⟩⟩⟩
  have HTi:=Yw hTi
  clear hTi
  have HB:=fun (W:World) (t:Wl B s W6 W)=>(show Q9 W b T2 from ⟨(G6.out.to t).box.lt,fun k hk=>by rw [hT2c];exact (G6.out.to t).box.at_ k (by simpa [Ve] using hk)⟩)
  have HM:=fun (W:World) (t:Wl B s W6 W)=>Hmb.out.chg t.chg (show ¬ mb=s by omega)
  have HC:=fun (W:World) (t:Wl B s W6 W)=>(t.chg.cell (p:=⟨gm,om+n1,none⟩) hgm6 hgs).trans cz6
  have T0:=Yw (Wl.start (B:=B) (b:=s) G6.out.src)
  clear hxw hmb cz cz6 p0 p1 hrow
  go_cut [46] (fun o wc=>∃ q:Bool,o=.bool q∧Wl B s W6 wc∧(q=false→(Wv T.ign m.1.fr == 1)=false∧(Wv T.ign z == 1)=false))
  case first =>
   obtain ⟨z0,z1,z2,z3,z4,z5,z6,z7,z8,z9,z10,z11⟩:=Zqq (HB W6 T0.out)
   have k0:=(HM W6 T0.out).at_ 0 (by simp)
   have k1:=(HM W6 T0.out).at_ 1 (by simp)
   have k2:=HC W6 T0.out
   simp only [Zx,Zw] at k0 k1
   obtain ⟨v7,hv7,A7⟩:=Zp1 s 3 (by omega) (by omega) W6.drew B T0.out.drew.src
   by_cases hv0:v7=0
   ·subst hv0
    refine wp_region_held_drew (S:=fun w'=>w'.cell? ⟨b,0,none⟩=some T2.catV∧w'.cell? ⟨b,1,none⟩=some T2.clsV∧w'.cell? ⟨b,2,none⟩=some T2.joiV∧w'.cell? ⟨b,3,none⟩=some T2.bidV∧w'.cell? ⟨b,4,none⟩=some T2.scrV∧w'.cell? ⟨b,5,none⟩=some T2.staV∧w'.cell? ⟨b,6,none⟩=some T2.ignV∧w'.cell? ⟨b,7,none⟩=some T2.extV∧w'.cell? ⟨b,8,none⟩=some T2.mapV∧w'.cell? ⟨b,9,none⟩=some T2.decV∧w'.cell? ⟨b,10,none⟩=some T2.excV∧w'.cell? ⟨b,11,none⟩=some T2.proV∧w'.cell? ⟨mb,0,none⟩=some (.int .i64 m.1.fr)∧w'.cell? ⟨mb,1,none⟩=some (.slice (some ⟨gm,om,none⟩) nm Cm)∧w'.cell? ⟨gm,om+n1,none⟩=some (.int .i64 z)) (by kernel_rfl) ?_ (fun hHeld=>?_)
    ·exact ⟨z0,z1,z2,z3,z4,z5,z6,z7,z8,z9,z10,z11,k0,k1,k2⟩
    refine Xw [0] 24 (by rfl) (by kernel_rfl) (by kernel_rfl) (fun _ _ d _ _ h=>by cases d<;>exact h) (by assumption) ?_;simp only [Z1,Z2,Z3,Zw,Zx];(repeat ((first|(refine Xu (v:=?_) (by rfl) ?_ ?_;rotate_left;(focus ((intro wT hST;(try dsimp only at hST);go_simp);(first|done|(with_reducible rfl)))))|(refine Vj (by rfl) ?_));try simp only [Act.put,Zv,Zu,Zt]));refine Xt ?_
    refine wpAnyH_ready (rs:=[1]) (by kernel_rfl) (by simp) ?_;refine Ys (o:=_) rfl (fun K hK=>?_) Yr;go_simp
    refine A7.mono ?_;rintro e w7 ⟨rfl,h7⟩;have T7:=Yw (T0.out.drew.trans h7);obtain ⟨z0a,z1a,z2a,z3a,z4a,z5a,z6a,z7a,z8a,z9a,z10a,z11a⟩:=Zqq (HB w7 T7.out);have k0a:=(HM w7 T7.out).at_ 0 (by simp);have k1a:=(HM w7 T7.out).at_ 1 (by simp);have k2a:=HC w7 T7.out;(simp only [Zx,Zw] at k0a k1a);clear h7
    (try go_wp2_with fail);refine hK.out _ _ ?_ (fun hHeld=>?_);(focus ((try dsimp only);(first|exact ⟨z0,z1,z2,z3,z4,z5,z6,z7,z8,z9,z10,z11,k0,k1,k2⟩|exact ⟨z0a,z1a,z2a,z3a,z4a,z5a,z6a,z7a,z8a,z9a,z10a,z11a,k0a,k1a,k2a⟩|exact ⟨z0b,z1b,z2b,z3b,z4b,z5b,z6b,z7b,z8b,z9b,z10b,z11b,k0b,k1b,k2b⟩|exact ⟨z0c,z1c,z2c,z3c,z4c,z5c,z6c,z7c,z8c,z9c,z10c,z11c,k0c,k1c,k2c⟩)));clear hK K;try simp only [Act.put,Zv,Zu,Zt]
    refine Xw [2,3,4,5,6,7,8,9,10,11,12,13,14,15,16,17,18,19,20,21,22,23,24] 0 (by rfl) (by kernel_rfl) (by kernel_rfl) (fun _ _ d _ _ h=>by cases d<;>exact h) (by assumption) ?_;simp only [Z1,Z2,Z3,Zw,Zx];(repeat ((first|(refine Xu (v:=?_) (by rfl) ?_ ?_;rotate_left;(focus ((intro wT hST;(try dsimp only at hST);go_simp);(first|done|(with_reducible rfl)))))|(refine Vj (by rfl) ?_));try simp only [Act.put,Zv,Zu,Zt]));refine Xt ?_
    refine wpAnyH_done (by kernel_rfl) ?_ _
    go_wp2_with fail
    go_meet
    exact ⟨_,rfl,T7.out,fun h=>by cases h⟩
   have e1:((v7:Int) == 0)=false:=by simp;omega
   have e2:(v7 == 0)=false:=by simp;omega
   have e3:¬ (v7:Int)=0:=by omega
   clear hv0
   cases hq8:(Wv T2.ign m.1.fr == 1)
   ·have Hq8:=Yw hq8
    refine wp_region_held_drew (S:=fun w'=>w'.cell? ⟨b,0,none⟩=some T2.catV∧w'.cell? ⟨b,1,none⟩=some T2.clsV∧w'.cell? ⟨b,2,none⟩=some T2.joiV∧w'.cell? ⟨b,3,none⟩=some T2.bidV∧w'.cell? ⟨b,4,none⟩=some T2.scrV∧w'.cell? ⟨b,5,none⟩=some T2.staV∧w'.cell? ⟨b,6,none⟩=some T2.ignV∧w'.cell? ⟨b,7,none⟩=some T2.extV∧w'.cell? ⟨b,8,none⟩=some T2.mapV∧w'.cell? ⟨b,9,none⟩=some T2.decV∧w'.cell? ⟨b,10,none⟩=some T2.excV∧w'.cell? ⟨b,11,none⟩=some T2.proV∧w'.cell? ⟨mb,0,none⟩=some (.int .i64 m.1.fr)∧w'.cell? ⟨mb,1,none⟩=some (.slice (some ⟨gm,om,none⟩) nm Cm)∧w'.cell? ⟨gm,om+n1,none⟩=some (.int .i64 z)) (by kernel_rfl) ?_ (fun hHeld=>?_)
    ·exact ⟨z0,z1,z2,z3,z4,z5,z6,z7,z8,z9,z10,z11,k0,k1,k2⟩
    refine Xw [0] 24 (by rfl) (by kernel_rfl) (by kernel_rfl) (fun _ _ d _ _ h=>by cases d<;>exact h) (by assumption) ?_;simp only [Z1,Z2,Z3,Zw,Zx];(repeat ((first|(refine Xu (v:=?_) (by rfl) ?_ ?_;rotate_left;(focus ((intro wT hST;(try dsimp only at hST);go_simp);(first|done|(with_reducible rfl)))))|(refine Vj (by rfl) ?_));try simp only [Act.put,Zv,Zu,Zt]));refine Xt ?_
    refine wpAnyH_ready (rs:=[1]) (by kernel_rfl) (by simp) ?_;refine Ys (o:=_) rfl (fun K hK=>?_) Yr;go_simp
    refine A7.mono ?_;rintro e w7 ⟨rfl,h7⟩;have T7:=Yw (T0.out.drew.trans h7);obtain ⟨z0a,z1a,z2a,z3a,z4a,z5a,z6a,z7a,z8a,z9a,z10a,z11a⟩:=Zqq (HB w7 T7.out);have k0a:=(HM w7 T7.out).at_ 0 (by simp);have k1a:=(HM w7 T7.out).at_ 1 (by simp);have k2a:=HC w7 T7.out;(simp only [Zx,Zw] at k0a k1a);clear h7
    (try go_wp2_with fail);refine hK.out _ _ ?_ (fun hHeld=>?_);(focus ((try dsimp only);(first|exact ⟨z0,z1,z2,z3,z4,z5,z6,z7,z8,z9,z10,z11,k0,k1,k2⟩|exact ⟨z0a,z1a,z2a,z3a,z4a,z5a,z6a,z7a,z8a,z9a,z10a,z11a,k0a,k1a,k2a⟩|exact ⟨z0b,z1b,z2b,z3b,z4b,z5b,z6b,z7b,z8b,z9b,z10b,z11b,k0b,k1b,k2b⟩|exact ⟨z0c,z1c,z2c,z3c,z4c,z5c,z6c,z7c,z8c,z9c,z10c,z11c,k0c,k1c,k2c⟩)));clear hK K;try simp only [Act.put,Zv,Zu,Zt]
    refine Xw [2,3,4,5,6,7,8] 16 (by rfl) (by kernel_rfl) (by kernel_rfl) (fun _ _ d _ _ h=>by cases d<;>exact h) (by assumption) ?_;simp only [Z1,Z2,Z3,Zw,Zx];(repeat ((first|(refine Xu (v:=?_) (by rfl) ?_ ?_;rotate_left;(focus ((intro wT hST;(try dsimp only at hST);go_simp);(first|done|(with_reducible rfl)))))|(refine Vj (by rfl) ?_));try simp only [Act.put,Zv,Zu,Zt]));refine Xt ?_
    refine wpAnyH_ready (rs:=[9]) (by kernel_rfl) (by simp) ?_;refine Ys (o:=_) rfl (fun K hK=>?_) Yr;go_simp
    refine (Vk T2 m.1.fr _ (hT2 _ T7.out)).mono ?_;rintro e w8 ⟨rfl,hx8⟩;have T8:=Yw (T7.out.ext hx8);rw [hq8];obtain ⟨z0b,z1b,z2b,z3b,z4b,z5b,z6b,z7b,z8b,z9b,z10b,z11b⟩:=Zqq (HB w8 T8.out);have k0b:=(HM w8 T8.out).at_ 0 (by simp);have k1b:=(HM w8 T8.out).at_ 1 (by simp);have k2b:=HC w8 T8.out;(simp only [Zx,Zw] at k0b k1b);clear hx8
    (try go_wp2_with fail);refine hK.out _ _ ?_ (fun hHeld=>?_);(focus ((try dsimp only);(first|exact ⟨z0,z1,z2,z3,z4,z5,z6,z7,z8,z9,z10,z11,k0,k1,k2⟩|exact ⟨z0a,z1a,z2a,z3a,z4a,z5a,z6a,z7a,z8a,z9a,z10a,z11a,k0a,k1a,k2a⟩|exact ⟨z0b,z1b,z2b,z3b,z4b,z5b,z6b,z7b,z8b,z9b,z10b,z11b,k0b,k1b,k2b⟩|exact ⟨z0c,z1c,z2c,z3c,z4c,z5c,z6c,z7c,z8c,z9c,z10c,z11c,k0c,k1c,k2c⟩)));clear hK K;try simp only [Act.put,Zv,Zu,Zt]
    refine Xw [10,11,12,13,14,15,16,17,18,19,20,21,22] 2 (by rfl) (by kernel_rfl) (by kernel_rfl) (fun _ _ d _ _ h=>by cases d<;>exact h) (by assumption) ?_;simp only [Z1,Z2,Z3,Zw,Zx];(repeat ((first|(refine Xu (v:=?_) (by rfl) ?_ ?_;rotate_left;(focus ((intro wT hST;(try dsimp only at hST);go_simp);(first|done|(with_reducible rfl)))))|(refine Vj (by rfl) ?_));try simp only [Act.put,Zv,Zu,Zt]));refine Xt ?_
    refine wpAnyH_ready (rs:=[23]) (by kernel_rfl) (by simp) ?_;refine Ys (o:=_) rfl (fun K hK=>?_) Yr;go_simp
    refine (Vk T2 z _ (hT2 _ T8.out)).mono ?_;rintro e w9 ⟨rfl,hx9⟩;have T9:=Yw (T8.out.ext hx9);obtain ⟨q9,hq9⟩:∃ q,(Wv T2.ign z == 1)=q:=⟨_,rfl⟩;have Hq9:=Yw hq9;rw [hq9];obtain ⟨z0c,z1c,z2c,z3c,z4c,z5c,z6c,z7c,z8c,z9c,z10c,z11c⟩:=Zqq (HB w9 T9.out);have k0c:=(HM w9 T9.out).at_ 0 (by simp);have k1c:=(HM w9 T9.out).at_ 1 (by simp);have k2c:=HC w9 T9.out;(simp only [Zx,Zw] at k0c k1c);clear hx9
    (try go_wp2_with fail);refine hK.out _ _ ?_ (fun hHeld=>?_);(focus ((try dsimp only);(first|exact ⟨z0,z1,z2,z3,z4,z5,z6,z7,z8,z9,z10,z11,k0,k1,k2⟩|exact ⟨z0a,z1a,z2a,z3a,z4a,z5a,z6a,z7a,z8a,z9a,z10a,z11a,k0a,k1a,k2a⟩|exact ⟨z0b,z1b,z2b,z3b,z4b,z5b,z6b,z7b,z8b,z9b,z10b,z11b,k0b,k1b,k2b⟩|exact ⟨z0c,z1c,z2c,z3c,z4c,z5c,z6c,z7c,z8c,z9c,z10c,z11c,k0c,k1c,k2c⟩)));clear hK K;try simp only [Act.put,Zv,Zu,Zt]
    refine Xw [24] 0 (by rfl) (by kernel_rfl) (by kernel_rfl) (fun _ _ d _ _ h=>by cases d<;>exact h) (by assumption) ?_;simp only [Z1,Z2,Z3,Zw,Zx];(repeat ((first|(refine Xu (v:=?_) (by rfl) ?_ ?_;rotate_left;(focus ((intro wT hST;(try dsimp only at hST);go_simp);(first|done|(with_reducible rfl)))))|(refine Vj (by rfl) ?_));try simp only [Act.put,Zv,Zu,Zt]));refine Xt ?_
    refine wpAnyH_done (by kernel_rfl) ?_ _
    go_wp2_with fail
    go_meet
    exact ⟨_,rfl,T9.out,fun h=>⟨by rw [← HTi.out];exact Hq8.out,by rw [← HTi.out];exact Hq9.out.trans h⟩⟩
   refine wp_region_held_drew (S:=fun w'=>w'.cell? ⟨b,0,none⟩=some T2.catV∧w'.cell? ⟨b,1,none⟩=some T2.clsV∧w'.cell? ⟨b,2,none⟩=some T2.joiV∧w'.cell? ⟨b,3,none⟩=some T2.bidV∧w'.cell? ⟨b,4,none⟩=some T2.scrV∧w'.cell? ⟨b,5,none⟩=some T2.staV∧w'.cell? ⟨b,6,none⟩=some T2.ignV∧w'.cell? ⟨b,7,none⟩=some T2.extV∧w'.cell? ⟨b,8,none⟩=some T2.mapV∧w'.cell? ⟨b,9,none⟩=some T2.decV∧w'.cell? ⟨b,10,none⟩=some T2.excV∧w'.cell? ⟨b,11,none⟩=some T2.proV∧w'.cell? ⟨mb,0,none⟩=some (.int .i64 m.1.fr)∧w'.cell? ⟨mb,1,none⟩=some (.slice (some ⟨gm,om,none⟩) nm Cm)∧w'.cell? ⟨gm,om+n1,none⟩=some (.int .i64 z)) (by kernel_rfl) ?_ (fun hHeld=>?_)
   ·exact ⟨z0,z1,z2,z3,z4,z5,z6,z7,z8,z9,z10,z11,k0,k1,k2⟩
   refine Xw [0] 24 (by rfl) (by kernel_rfl) (by kernel_rfl) (fun _ _ d _ _ h=>by cases d<;>exact h) (by assumption) ?_;simp only [Z1,Z2,Z3,Zw,Zx];(repeat ((first|(refine Xu (v:=?_) (by rfl) ?_ ?_;rotate_left;(focus ((intro wT hST;(try dsimp only at hST);go_simp);(first|done|(with_reducible rfl)))))|(refine Vj (by rfl) ?_));try simp only [Act.put,Zv,Zu,Zt]));refine Xt ?_
   refine wpAnyH_ready (rs:=[1]) (by kernel_rfl) (by simp) ?_;refine Ys (o:=_) rfl (fun K hK=>?_) Yr;go_simp
   refine A7.mono ?_;rintro e w7 ⟨rfl,h7⟩;have T7:=Yw (T0.out.drew.trans h7);obtain ⟨z0a,z1a,z2a,z3a,z4a,z5a,z6a,z7a,z8a,z9a,z10a,z11a⟩:=Zqq (HB w7 T7.out);have k0a:=(HM w7 T7.out).at_ 0 (by simp);have k1a:=(HM w7 T7.out).at_ 1 (by simp);have k2a:=HC w7 T7.out;(simp only [Zx,Zw] at k0a k1a);clear h7
   (try go_wp2_with fail);refine hK.out _ _ ?_ (fun hHeld=>?_);(focus ((try dsimp only);(first|exact ⟨z0,z1,z2,z3,z4,z5,z6,z7,z8,z9,z10,z11,k0,k1,k2⟩|exact ⟨z0a,z1a,z2a,z3a,z4a,z5a,z6a,z7a,z8a,z9a,z10a,z11a,k0a,k1a,k2a⟩|exact ⟨z0b,z1b,z2b,z3b,z4b,z5b,z6b,z7b,z8b,z9b,z10b,z11b,k0b,k1b,k2b⟩|exact ⟨z0c,z1c,z2c,z3c,z4c,z5c,z6c,z7c,z8c,z9c,z10c,z11c,k0c,k1c,k2c⟩)));clear hK K;try simp only [Act.put,Zv,Zu,Zt]
   refine Xw [2,3,4,5,6,7,8] 16 (by rfl) (by kernel_rfl) (by kernel_rfl) (fun _ _ d _ _ h=>by cases d<;>exact h) (by assumption) ?_;simp only [Z1,Z2,Z3,Zw,Zx];(repeat ((first|(refine Xu (v:=?_) (by rfl) ?_ ?_;rotate_left;(focus ((intro wT hST;(try dsimp only at hST);go_simp);(first|done|(with_reducible rfl)))))|(refine Vj (by rfl) ?_));try simp only [Act.put,Zv,Zu,Zt]));refine Xt ?_
   refine wpAnyH_ready (rs:=[9]) (by kernel_rfl) (by simp) ?_;refine Ys (o:=_) rfl (fun K hK=>?_) Yr;go_simp
   refine (Vk T2 m.1.fr _ (hT2 _ T7.out)).mono ?_;rintro e w8 ⟨rfl,hx8⟩;have T8:=Yw (T7.out.ext hx8);rw [hq8];obtain ⟨z0b,z1b,z2b,z3b,z4b,z5b,z6b,z7b,z8b,z9b,z10b,z11b⟩:=Zqq (HB w8 T8.out);have k0b:=(HM w8 T8.out).at_ 0 (by simp);have k1b:=(HM w8 T8.out).at_ 1 (by simp);have k2b:=HC w8 T8.out;(simp only [Zx,Zw] at k0b k1b);clear hx8
   (try go_wp2_with fail);refine hK.out _ _ ?_ (fun hHeld=>?_);(focus ((try dsimp only);(first|exact ⟨z0,z1,z2,z3,z4,z5,z6,z7,z8,z9,z10,z11,k0,k1,k2⟩|exact ⟨z0a,z1a,z2a,z3a,z4a,z5a,z6a,z7a,z8a,z9a,z10a,z11a,k0a,k1a,k2a⟩|exact ⟨z0b,z1b,z2b,z3b,z4b,z5b,z6b,z7b,z8b,z9b,z10b,z11b,k0b,k1b,k2b⟩|exact ⟨z0c,z1c,z2c,z3c,z4c,z5c,z6c,z7c,z8c,z9c,z10c,z11c,k0c,k1c,k2c⟩)));clear hK K;try simp only [Act.put,Zv,Zu,Zt]
   refine Xw [10,11,12,13,14,15,16,17,18,19,20,21,22,23,24] 0 (by rfl) (by kernel_rfl) (by kernel_rfl) (fun _ _ d _ _ h=>by cases d<;>exact h) (by assumption) ?_;simp only [Z1,Z2,Z3,Zw,Zx];(repeat ((first|(refine Xu (v:=?_) (by rfl) ?_ ?_;rotate_left;(focus ((intro wT hST;(try dsimp only at hST);go_simp);(first|done|(with_reducible rfl)))))|(refine Vj (by rfl) ?_));try simp only [Act.put,Zv,Zu,Zt]));refine Xt ?_
   refine wpAnyH_done (by kernel_rfl) ?_ _
   go_wp2_with fail
   go_meet
   exact ⟨_,rfl,T8.out,fun h=>by cases h⟩
  obtain ⟨q,rfl,hT,hig⟩:=hcut
  have Hig:=Yw hig
  clear hig
  rename World=>wk
  have G7:=Yw (G6.out.to hT)
  have C7:=Yw (C6.out.thenB hT.chg (fun k _ e=>e ▸ H.out.us))
  have Hb7:=Yw (Hmb.out.chg hT.chg (show ¬ mb=s by omega))
  have Hr7:=Yw (show Xz wk (fun k=>w.heap.size≤k∧dv.ownBlock≠some k) (.slice (some ⟨gm,om,none⟩) nm Cm) m.1.to_ from by
   have h1:Xz W5 (fun k=>w.heap.size≤k∧k < W5.heap.size) m.1.tv m.1.to_:=Rd.mono (HLt.out m (Zy hm)).1 fun k hk hl=>⟨hk,hl⟩
   have h2:=Xz.chg h1 C7.out (fun k hk e=>by have:=hU k e;omega)
   rw [Htv.out] at h2
   have h3:Xz wk (fun k=>w.heap.size≤k∧dv.ownBlock≠some k) (.slice (some ⟨gm,om,none⟩) m.1.to_.length Cm) m.1.to_:=Rd.mono h2 fun k hk _=>⟨hk.1,fun e=>by have:=Hn.out k e;omega⟩
   rwa [Hnm.out] at h3)
  clear hT
  cases q with
  | true =>
   go_wp2_with fail
   go_roundw
   case rel=>exact ⟨j+1,dv,dec,by omega,by go_num,G7.out,by have:=Hl.out;omega,C7.out,Hn.out,Hpp.out.up⟩
   case measure=>(simp [intOf];omega)
  | false =>
   obtain ⟨A11,C11,rfl,hlC11,hC11⟩:=G7.out.dOwn.shape
   have c11:=G7.out.cx (by simp [Ve])
   obtain ⟨n11,hn11⟩:∃ n,dec.length=n:=⟨_,rfl⟩
   rw [hn11] at c11 G7 Hr7 hlC11 Hn
   have Hn11:=Yw hn11
   have hn5:n11≤5:=by have:=Hl.out;omega
   clear hn11
   have c11a:(wk.alloc (.cells #[.int .i64 m.1.fr,.slice (some ⟨gm,om,none⟩) nm Cm] 106)).cell? ⟨b,11,none⟩=some (.slice A11 n11 C11):=(G7.out.ext ((Yl _).alloc _)).cx (by simp [Ve])
   have k0:=Hb7.out.at_ 0 (by simp)
   have k1:=Hb7.out.at_ 1 (by simp)
   simp only [Zx,Zw] at k0 k1
   go_upto_region 4 with fail
   go_region_law (first
    | ((refine Xa mpE (.tmp 51) (.tmp 53) 32 (by rfl) (by rfl) (by rfl) (by rfl) (G7.out.dOwn.ext ((Yl _).drew.alloc _)) (by rfl) (Zwd wk.drew m.1.fr (some ⟨gm,om,none⟩) nm Cm m.1.to_ _ _ rfl) (by rw [Hn11.out];show n11+1≤_;omega) (by show 32≤1000;omega) (by have:=G7.out.chg.size;simp;omega) ?_);intro A8 n8 c8 w8 hg8;have G8:=Yw ((G7.out.ext (Yl _).drew).grow (by simp [Ve]) (Hr7.out.ext (Yl _).drew) (by show m.1.to_.length≤18;rw [Hnm.out];omega) hg8);have c8':w8.cell? ⟨b,11,none⟩=some (.slice A11 n11 C11):=((((G7.out.ext (Yl _).drew).ext ((Yl _).alloc _)).box.chg hg8.chg (fun e=>by have:=(G7.out.dOwn.lt b e).1;have:=hU b G7.out.ub;omega)).at_ 11 (by simp [Ve])).trans (by simp [Ve]);have f8:=((((G7.out.ext (Yl _).drew).ext ((Yl _).alloc _)).box.chg hg8.chg (fun e=>by have:=(G7.out.dOwn.lt b e).1;have:=hU b G7.out.ub;omega)).fz);have K8:=Yw hg8;clear hg8))
   all_goals
    go_wp2_with fail
    go_roundw
    case rel =>
     refine ⟨j+1,_,_,by omega,by go_num,G8.out,by rw [Zs,Hn11.out];show n11+1≤j+1;have:=Hl.out;have:=Hn11.out;omega,((C7.out.drew.alloc _).thenB K8.out.chg (fun k hk e=>by have:=Hn.out k e;omega)).setCell (.inl H.out.ub) _,fun k hk=>?_,by rw [Z9];exact Hpp.out.more (m:=⟨m.1.fr,.slice (some ⟨gm,om,none⟩) nm Cm,m.1.to_⟩) Hmj.out (Hig.out rfl).1 (by rw [Hzl.out];exact (Hig.out rfl).2)⟩
     rcases K8.out.at_ with h1|h1
     ·rw [h1] at hk;exact Hn.out k hk
     rw [h1] at hk
     have:=Option.some.inj hk
     have:=C7.out.size
     simp at *
     omega
    case measure=>(simp [intOf];omega)
 have hd_j:decide ((j:Int) < (5:Int))=false:=Yg (by omega)
 go_wp2_with fail
 refine Yt (v:=.tuple #[]) (by simp [results,Tryz.results49,go_sem]) rfl ⟨dv,dec,rfl,G0.out,by have:=Hl.out;omega,by have:=Hpp.out;rwa [show j=5 by omega] at this⟩
end
end Go.Proofs.YtnbclgbicnpmnaaGreat
