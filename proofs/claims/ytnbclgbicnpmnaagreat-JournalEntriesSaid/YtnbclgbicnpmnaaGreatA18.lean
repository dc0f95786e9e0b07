/- Lemmas of this claim: Re2, Rf2, Sd. Conditions: as named. -/
import Derived.Test.YtnbclgbicnpmnaaGreatA04
import Derived.Test.YtnbclgbicnpmnaaGreatA05
import Derived.Test.YtnbclgbicnpmnaaGreatA15
import Derived.Test.YtnbclgbicnpmnaaGreatA16
import Derived.Test.YtnbclgbicnpmnaaGreatA17
namespace Go.Proofs.YtnbclgbicnpmnaaGreat
open Go.RowKit Go.Sort
open List renaming getElem?_eq_getElem → Zz, mem_of_getElem? → Zy, length_append → Zs, mem_append → Zj, mem_singleton → Zi, length_set → Zf
open Lib renaming hid → Yw
open Go renaming bodyPost_ret → Yt
open Nat renaming le_refl → Yo
open _root_.ByteArray renaming size_append → Ym
open Ext renaming refl → Yl, alloc → Yk, drewN → Yj, drew → Yi, trans → Yh
set_option maxHeartbeats 40000000
set_option maxRecDepth 100000
set_option linter.all false
def It (w:World) (e:Ending) (w':World):Prop:=∃ (v:Value) (ls:List (List Int)) (p x:Int),e=.returned (.tuple #[v,.int .i64 p,.int .i64 x])∧Zz1 w' v ls∧ls.length≤4097∧(∀ y∈ls,y.length≤4096)∧Ext w w'
theorem Qr {w w':World} (p x:Int) (h:Ext w w'):It w (.returned (.tuple #[.slice none 0 0,.int .i64 p,.int .i64 x])) w' :=
 ⟨_,[],p,x,rfl,⟨[],Rd.nil _ _ _,rfl,fun j s x h=>by simp at h⟩,Nat.zero_le _,fun y hy=>by simp at hy,h⟩
theorem Gx {S:Nat→Prop} (T:Tbl) (hf:Few T) (hu:Uq T) (s:ByteArray) (w:World) (h:Xm w S T):Calls Tryz.prog 200 #[Wc T,.string s] w (It w):=by
 have X0:=Yw ((Yl w).alloc (Xf T))
 have H:=Yw (h.up X0.out)
 have Hb0:=Yw (Xq w T)
 clear h
 have Hf:=Yw hf
 have Hu:=Yw hu
 clear hf hu
 go_enter Tryz.func200,Tryz.ntmps200
 go_wp2_with (first|(refine Xy rfl ?_)|(refine Y4 Hb0.out rfl ?_))
 refine (check_any T Hf.out Hu.out _ H.out).mono ?_
 rintro e w1 ⟨x,rfl,_,hx1⟩
 have Hx1:=Yw hx1
 clear hx1
 by_cases h0:x=0
 ·subst h0
  cases he:s.toList.isEmpty
  rotate_left
  ·go_wp2_with fail
   go_ret3
   exact Qr _ _ (X0.out.trans Hx1.out)
  go_wp2_with fail
  clear he
  refine (Rf s _).mono ?_
  rintro e w2 ⟨u,l1,p1,x1,rfl,hl1,hn1,_,hx2⟩
  have Hx2:=Yw (Hx1.out.trans hx2)
  clear hx2 Hx1
  by_cases h1:x1=0
  ·subst h1
   go_wp2_with (refine Y4 (Hb0.out.ext Hx2.out) rfl ?_)
   refine (Zw1 T Hf.out Hu.out u l1 _ (H.out.up Hx2.out) hl1).mono ?_
   rintro e w3 ⟨u2,l2,p2,x2,rfl,hl2,hn2,_,hx3⟩
   have Hx3:=Yw (Hx2.out.trans hx3)
   clear hx3 Hx2 hl1 hn1
   by_cases h2:x2=0
   ·subst h2
    go_wp2_with (refine Y4 (Hb0.out.ext Hx3.out) rfl ?_)
    refine (Zuq T Hf.out Hu.out u2 l2 _ (H.out.up Hx3.out) hl2).mono ?_
    rintro e w4 ⟨u3,l3,x3,rfl,hl3,hn3,_,hx4⟩
    have Hx4:=Yw (Hx3.out.trans hx4)
    clear hx4 Hx3 hl2 hn2
    by_cases h3:x3=0
    ·subst h3
     go_wp2_with fail
     refine (Zyy u3 l3 _ hl3 hn3).mono ?_
     rintro e w5 ⟨v,vs,rfl,hown,hx5⟩
     have hm1:=Pr l3
     have hm2:(K0 l3).length≤4097:=Nat.le_trans (Px l3) (by omega)
     have hmem:∀ y∈K0 l3,y.length≤4096:=fun y hy=>Nat.le_trans (Of l3 y hy) hn3
     obtain ⟨B,hB⟩:∃ B,w4.heap.size=B:=⟨_,rfl⟩
     rw [hB] at hown
     have HB:=Yw hB
     obtain ⟨g,C,rfl,hg1,hg2,hg3,hg4⟩:=hown.1.some_ (by rw [hown.2.1];omega)
     obtain ⟨m,hm⟩:∃ m,(K0 l3).length=m:=⟨_,rfl⟩
     have hvm:vs.length=m:=by rw [hown.2.1,hm]
     rw [hm] at hm1 hm2
     rw [hvm] at hown hg3 ⊢
     have Hown:=Yw hown
     have Hm:=Yw hm
     have Hmem:=Yw hmem
     have Hx5:=Yw hx5
     unfold maxLen at hg4
     clear hown hm hmem hvm hx5 hB hl3 hg2
     go_wp2_with fail
     go_loopw [57,9] (fun o ev wr=>∃ (i:Nat) (vs:List Sl) (ls:List (List Int)) (z:Int),i≤m∧o=.int .i64 (i:Int)∧ev=.int .i64 z∧Ln wr B (.slice (some ⟨g,0,none⟩) m C) vs ls∧ls.length=m∧(∀ y∈ls,y.length≤4096)∧Ext w4 wr) (fun o _ _=>m - (intOf o).toNat)
     case atStart=>exact ⟨0,vs,K0 l3,0,by omega,rfl,rfl,Hown.out,Hm.out,Hmem.out,Hx5.out⟩
     clear Hown Hm Hmem Hx5
     obtain ⟨i,vs,ls,z,hi,rfl,rfl,ho,hlm,hmem,hx⟩:=hrel
     have Ho:=Yw ho
     have Hlm:=Yw hlm
     have Hmem:=Yw hmem
     have Hx:=Yw hx
     clear ho hlm hmem hx
     by_cases hlt:i < m
     ·have hd_i:decide ((i:Int) < (m:Int))=true:=Yf (by omega)
      have i0_i:(0:Int)≤(i:Int):=by omega
      have i1_i:(i:Int) < (m:Int):=by omega
      obtain ⟨s0,hs0⟩:∃ s,vs[i]?=some s:=⟨vs[i]'(by have:=Ho.out.2.1;have:=Hlm.out;omega),Zz _⟩
      obtain ⟨x,hx0⟩:∃ x,ls[i]?=some x:=⟨ls[i]'(by have:=Hlm.out;omega),Zz _⟩
      have hi0:=Ho.out.2.2 i s0 x hs0 hx0
      have c0:=Ho.out.1.at_ (Ep hs0)
      obtain ⟨a0,n0,k0⟩:=s0
      have hn0:n0=x.length:=by
       obtain ⟨_,_,e,_⟩:=hi0.shape
       simp only [Sl.v,Ye] at e
       exact e.2.1
      subst hn0
      simp only [Sl.v] at c0 hi0
      have hl0:=Hmem.out x (Zy hx0)
      obtain ⟨y0,hy0⟩:∃ y,x.length=y:=⟨_,rfl⟩
      have Hi0:=Yw (show Xz wr _ (.slice a0 y0 k0) x by rw [← hy0];exact hi0)
      rw [hy0] at c0 hl0
      have Hy0:=Yw hy0
      have hgw:=Ho.out.1.blk.2
      clear hs0 hx0 hi0 hy0
      cases ha:Zri x
      ·go_wp2_with (go_at_call 212;refine (U9 _ x _ Hi0.out).mono ?_;rintro e w6 ⟨rfl,hx6⟩;rw [ha])
       have Ho6:=Yw (Ho.out.ext hx6)
       have Hx6:=Yw (Hx.out.trans hx6)
       clear hx6 c0 hgw
       obtain ⟨s5,hs5⟩:∃ s,(vs)[i]?=some s:=⟨(vs)[i]'(by have:=(Ho6).out.2.1;have:=(Hlm).out;omega),Zz _⟩
       obtain ⟨x5,hx5⟩:∃ x,(ls)[i]?=some x:=⟨(ls)[i]'(by have:=(Hlm).out;omega),Zz _⟩
       have hi5:=(Ho6).out.2.2 i s5 x5 hs5 hx5
       have c5:=(Ho6).out.1.at_ (Ep hs5)
       obtain ⟨a5,n5,k5⟩:=s5
       have hn5:n5=x5.length:=by
        obtain ⟨_,_,e,_⟩:=hi5.shape
        simp only [Sl.v,Ye] at e
        exact e.2.1
       subst hn5
       simp only [Sl.v] at c5 hi5
       have Hi5:=Yw hi5
       have Hl5:=Yw ((Hmem).out x5 (Zy hx5))
       obtain ⟨y5,hy5⟩:∃ y,x5.length=y:=⟨_,rfl⟩
       have Hi6:=Yw (show Xz w6 _ (.slice a5 y5 k5) x5 by rw [← hy5];exact hi5)
       rw [hy5] at c5
       have hg5:=(Ho6).out.1.blk.2
       clear hs5 hx5 hi5 hy5
       have HE:=Yw (Hx4.out.trans (Hx6).out)
       have z0:(w6).cell? ⟨w.heap.size,0,none⟩=some T.catV:=(Hb0.out.ext HE.out).at_ 0 (by omega)
       have z1:(w6).cell? ⟨w.heap.size,1,none⟩=some T.clsV:=(Hb0.out.ext HE.out).at_ 1 (by omega)
       have z2:(w6).cell? ⟨w.heap.size,2,none⟩=some T.joiV:=(Hb0.out.ext HE.out).at_ 2 (by omega)
       have z3:(w6).cell? ⟨w.heap.size,3,none⟩=some T.bidV:=(Hb0.out.ext HE.out).at_ 3 (by omega)
       have z4:(w6).cell? ⟨w.heap.size,4,none⟩=some T.scrV:=(Hb0.out.ext HE.out).at_ 4 (by omega)
       have z5:(w6).cell? ⟨w.heap.size,5,none⟩=some T.staV:=(Hb0.out.ext HE.out).at_ 5 (by omega)
       have z6:(w6).cell? ⟨w.heap.size,6,none⟩=some T.ignV:=(Hb0.out.ext HE.out).at_ 6 (by omega)
       have z7:(w6).cell? ⟨w.heap.size,7,none⟩=some T.extV:=(Hb0.out.ext HE.out).at_ 7 (by omega)
       have z8:(w6).cell? ⟨w.heap.size,8,none⟩=some T.mapV:=(Hb0.out.ext HE.out).at_ 8 (by omega)
       have z9:(w6).cell? ⟨w.heap.size,9,none⟩=some T.decV:=(Hb0.out.ext HE.out).at_ 9 (by omega)
       have z10:(w6).cell? ⟨w.heap.size,10,none⟩=some T.excV:=(Hb0.out.ext HE.out).at_ 10 (by omega)
       have z11:(w6).cell? ⟨w.heap.size,11,none⟩=some T.proV:=(Hb0.out.ext HE.out).at_ 11 (by omega)
       go_wp2_with fail
       go_cut [9] from 91 to 96 (fun o wx=>∃ er:Int,o=.int .i64 er∧Ext w6 wx)
       case first =>
        rename_i J1 K1 hJ hM
        go_region_with (go_at_call 215;refine (Jp T Hf.out Hu.out _ x5 _ (H.out.up (have hx:=HE.out;(by repeat' first|exact Yl _|assumption|apply Yk|apply Yj|apply Yi|(refine Yh ?_ (by assumption))|(refine Ya ?_ (by first|(simp;done)|(simp;omega)) _)))) (Hi6.out.ext (by repeat' first|exact Yl _|assumption|apply Yk|apply Yj|apply Yi|(refine Yh ?_ (by assumption))|(refine Ya ?_ (by first|(simp;done)|(simp;omega)) _))) (by have:=Hl5.out;omega)).mono ?_;rintro e w7 ⟨er,rfl,hx7⟩)
        all_goals
         go_simp
         refine hM _ _ (hJ _ _ ?_)
         (repeat apply Exists.intro)
         exact ⟨⟨er,rfl,by first|exact hx7|exact (Yl _).drew.trans hx7|exact ((Yl _).drewN _).trans hx7⟩,rfl⟩
       obtain ⟨er,rfl,hxb⟩:=hcut
       clear z0 z1 z2 z3 z4 z5 z6 z7 z8 z9 z10 z11 c5 hg5
       by_cases hz7:er=0
       ·subst hz7
        go_wp2_with fail
        go_roundw
        case rel=>exact ⟨i+1,vs,ls,0,by omega,by go_num,rfl,(Ho6).out.ext hxb,(Hlm).out,(Hmem).out,(Hx6).out.trans hxb⟩
        case measure=>(simp [intOf];omega)
       have hz7b:(!(er == 0))=true:=by simp [hz7]
       have hz7c:(er != 0)=true:=hz7b
       have hz7d:(er == 0)=false:=by simp [hz7]
       have hz7H:=Yw hz7
       clear hz7
       go_wp2_with fail
       go_ret3
       exact Qr _ _ (X0.out.trans (HE.out.trans hxb))
      go_wp2_with (go_at_call 212;refine (U9 _ x _ Hi0.out).mono ?_;rintro e w6 ⟨rfl,hx6⟩;rw [ha])
      have Hx6:=Yw (Hx.out.trans hx6)
      have Ho6:=Yw (Ho.out.ext hx6)
      have Hi6:=Yw (Hi0.out.ext hx6)
      have Hlt:=Yw hlt
      clear hx6 c0 hgw Hx Ho Hi0 ha hlt
      go_loopw [66,13] (fun o t wr=>∃ (j:Nat) (u2:ByteArray),j≤y0∧o=.int .i64 (j:Int)∧t=.string u2∧u2.size=j∧Ext w6 wr) (fun o _ _=>y0 - (intOf o).toNat)
      case atStart=>exact ⟨0,⟨#[]⟩,by omega,rfl,rfl,rfl,Yl _⟩
      obtain ⟨j,u2,hj,rfl,rfl,hu2,hx⟩:=hrel
      have Hy:=Yw hx
      have Hu2:=Yw hu2
      have hus0:u2.size≤100000:=by omega
      have hlo:=Hlt.out
      clear hx hu2
      by_cases hlt2:j < y0
      ·have hd2:decide ((j:Int) < (y0:Int))=true:=Yf (by omega)
       have j0:(0:Int)≤(j:Int):=by omega
       have j1:(j:Int) < (y0:Int):=by omega
       obtain ⟨c,hc0⟩:∃ c,x[j]?=some c:=⟨x[j]'(by rw [Hy0.out];exact hlt2),Zz _⟩
       obtain ⟨g3,o3,c3,hv3,_,_,_,hg3',c4⟩:=(Hi6.out.ext Hy.out).get hc0
       simp only [Ye] at hv3
       obtain ⟨rfl,-,rfl⟩:=hv3
       have hcv:=fun w:World=>V1 (w:=w) [c] 1 rfl _ rfl
       simp only [List.map_cons,List.map_nil] at hcv
       obtain ⟨bz,hbz⟩:∃ b9,bs (u8L [c])=b9:=⟨_,rfl⟩
       have hbs:bz.size=1:=by rw [← hbz];rfl
       rw [hbz] at hcv
       have hus:¬ 9223372036854775807 < u2.size+bz.size:=by omega
       clear hbz hc0
       go_wp2_with fail
       go_roundw
       case rel=>exact ⟨j+1,_,by omega,by go_num,rfl,by rw [Ym,Hu2.out,hbs],Hy.out.alloc _⟩
       case measure=>(simp [intOf];omega)
      have hd2:decide ((j:Int) < (y0:Int))=false:=Yg (by omega)
      go_wp2_with fail
      refine (Zr4 u2 _ hus0).mono ?_
      rintro e w8 ⟨b,rfl,_,hx8⟩
      have Ho8:=Yw (Ho6.out.ext (Hy.out.trans hx8))
      have Hx8:=Yw (Hx6.out.trans (Hy.out.trans hx8))
      clear hx8 hlt2 hd2
      cases b
      ·obtain ⟨s5,hs5⟩:∃ s,(vs)[i]?=some s:=⟨(vs)[i]'(by have:=(Ho8).out.2.1;have:=(Hlm).out;omega),Zz _⟩
       obtain ⟨x5,hx5⟩:∃ x,(ls)[i]?=some x:=⟨(ls)[i]'(by have:=(Hlm).out;omega),Zz _⟩
       have hi5:=(Ho8).out.2.2 i s5 x5 hs5 hx5
       have c5:=(Ho8).out.1.at_ (Ep hs5)
       obtain ⟨a5,n5,k5⟩:=s5
       have hn5:n5=x5.length:=by
        obtain ⟨_,_,e,_⟩:=hi5.shape
        simp only [Sl.v,Ye] at e
        exact e.2.1
       subst hn5
       simp only [Sl.v] at c5 hi5
       have Hi5:=Yw hi5
       have Hl5:=Yw ((Hmem).out x5 (Zy hx5))
       obtain ⟨y5,hy5⟩:∃ y,x5.length=y:=⟨_,rfl⟩
       have Hi6:=Yw (show Xz w8 _ (.slice a5 y5 k5) x5 by rw [← hy5];exact hi5)
       rw [hy5] at c5
       have hg5:=(Ho8).out.1.blk.2
       clear hs5 hx5 hi5 hy5
       have HE:=Yw (Hx4.out.trans (Hx8).out)
       have z0:(w8).cell? ⟨w.heap.size,0,none⟩=some T.catV:=(Hb0.out.ext HE.out).at_ 0 (by omega)
       have z1:(w8).cell? ⟨w.heap.size,1,none⟩=some T.clsV:=(Hb0.out.ext HE.out).at_ 1 (by omega)
       have z2:(w8).cell? ⟨w.heap.size,2,none⟩=some T.joiV:=(Hb0.out.ext HE.out).at_ 2 (by omega)
       have z3:(w8).cell? ⟨w.heap.size,3,none⟩=some T.bidV:=(Hb0.out.ext HE.out).at_ 3 (by omega)
       have z4:(w8).cell? ⟨w.heap.size,4,none⟩=some T.scrV:=(Hb0.out.ext HE.out).at_ 4 (by omega)
       have z5:(w8).cell? ⟨w.heap.size,5,none⟩=some T.staV:=(Hb0.out.ext HE.out).at_ 5 (by omega)
       have z6:(w8).cell? ⟨w.heap.size,6,none⟩=some T.ignV:=(Hb0.out.ext HE.out).at_ 6 (by omega)
       have z7:(w8).cell? ⟨w.heap.size,7,none⟩=some T.extV:=(Hb0.out.ext HE.out).at_ 7 (by omega)
       have z8:(w8).cell? ⟨w.heap.size,8,none⟩=some T.mapV:=(Hb0.out.ext HE.out).at_ 8 (by omega)
       have z9:(w8).cell? ⟨w.heap.size,9,none⟩=some T.decV:=(Hb0.out.ext HE.out).at_ 9 (by omega)
       have z10:(w8).cell? ⟨w.heap.size,10,none⟩=some T.excV:=(Hb0.out.ext HE.out).at_ 10 (by omega)
       have z11:(w8).cell? ⟨w.heap.size,11,none⟩=some T.proV:=(Hb0.out.ext HE.out).at_ 11 (by omega)
       go_wp2_with fail
       go_cut [9] from 91 to 96 (fun o wx=>∃ er:Int,o=.int .i64 er∧Ext w8 wx)
       case first =>
        rename_i J1 K1 hJ hM
        go_region_with (go_at_call 215;refine (Jp T Hf.out Hu.out _ x5 _ (H.out.up (have hx:=HE.out;(by repeat' first|exact Yl _|assumption|apply Yk|apply Yj|apply Yi|(refine Yh ?_ (by assumption))|(refine Ya ?_ (by first|(simp;done)|(simp;omega)) _)))) (Hi6.out.ext (by repeat' first|exact Yl _|assumption|apply Yk|apply Yj|apply Yi|(refine Yh ?_ (by assumption))|(refine Ya ?_ (by first|(simp;done)|(simp;omega)) _))) (by have:=Hl5.out;omega)).mono ?_;rintro e w7 ⟨er,rfl,hx7⟩)
        all_goals
         go_simp
         refine hM _ _ (hJ _ _ ?_)
         (repeat apply Exists.intro)
         exact ⟨⟨er,rfl,by first|exact hx7|exact (Yl _).drew.trans hx7|exact ((Yl _).drewN _).trans hx7⟩,rfl⟩
       obtain ⟨er,rfl,hxb⟩:=hcut
       clear z0 z1 z2 z3 z4 z5 z6 z7 z8 z9 z10 z11 c5 hg5
       by_cases hz7:er=0
       ·subst hz7
        go_wp2_with fail
        go_roundw
        case rel=>exact ⟨i+1,vs,ls,0,by omega,by go_num,rfl,(Ho8).out.ext hxb,(Hlm).out,(Hmem).out,(Hx8).out.trans hxb⟩
        case measure=>(simp [intOf];omega)
       have hz7b:(!(er == 0))=true:=by simp [hz7]
       have hz7c:(er != 0)=true:=hz7b
       have hz7d:(er == 0)=false:=by simp [hz7]
       have hz7H:=Yw hz7
       clear hz7
       go_wp2_with fail
       go_ret3
       exact Qr _ _ (X0.out.trans (HE.out.trans hxb))
      go_wp2_with fail
      refine (Zzd u2 _ rfl hus0 _).mono ?_
      rintro e w9 ⟨v9,l9,x9,rfl,hv9,hl9,hx9⟩
      obtain ⟨a9,c9,rfl,_,_⟩:=hv9.shape
      have ho9:=Ho8.out.ext hx9
      have hiv:i < vs.length:=by have:=Ho8.out.2.1;have:=Hlm.out;omega
      obtain ⟨s9,hs9⟩:∃ s,vs[i]?=some s:=⟨vs[i]'hiv,Zz _⟩
      have hcel:=ho9.1.at_ (Ep hs9)
      clear hs9
      have htw:=ho9.1.thaw i
      have hgw:=ho9.1.blk.2
      have hg8:=Ho8.out.1.blk.2
      have ho10:Ln (w9.setCell ⟨g,i,none⟩ (.slice a9 l9.length c9)) B (.slice (some ⟨g,0,none⟩) m C) (vs.set i ⟨a9,l9.length,c9⟩) (ls.set i l9):=by
       refine ⟨ho9.1.put rfl hiv ⟨a9,l9.length,c9⟩ rfl,Oh ?_ ?_ i⟩
       ·exact ho9.2.chg ((Chg.refl (· = g) w9).setCell (p:=⟨g,i,none⟩) (.inl rfl) _) fun k hk e=>hk (by rw [e];rfl)
       have h1:Xz w9 (fun k=>(Value.slice (some ⟨g,0,none⟩) m C).ownBlock≠some k) (.slice a9 l9.length c9) l9:=Rd.mono hv9 fun k hk _ e=>by
        have:g=k:=by simpa [Value.ownBlock] using e
        omega
       exact h1.chg ((Chg.refl (· = g) w9).setCell (p:=⟨g,i,none⟩) (.inl rfl) _) fun k hk e=>hk (by rw [e];rfl)
      have hx10:Ext w4 (w9.setCell ⟨g,i,none⟩ (.slice a9 l9.length c9)):=Ya (Hx8.out.trans hx9) (by show w4.heap.size≤g;rw [HB.out];exact hg1) _
      have hlm10:(ls.set i l9).length=m:=by rw [Zf];exact Hlm.out
      have hmem10:∀ y∈ls.set i l9,y.length≤4096:=fun y hy=>by
       rcases List.mem_or_eq_of_mem_set hy with h|h
       ·exact Hmem.out y h
       rw [h];omega
      obtain ⟨n9,hn9⟩:∃ k,l9.length=k:=⟨_,rfl⟩
      rw [hn9] at ho10 hx10 ⊢
      obtain ⟨W,hW⟩:∃ W,w9.setCell ⟨g,i,none⟩ (.slice a9 n9 c9)=W:=⟨_,rfl⟩
      rw [hW] at ho10 hx10
      have HoW:=Yw ho10
      have HxW:=Yw hx10
      have HlmW:=Yw hlm10
      have HmemW:=Yw hmem10
      have HW9:=Yw hW
      clear ho9 ho10 hx10 hlm10 hmem10 hW hx9 hv9 hn9
      by_cases h9:x9=0
      ·subst h9
       go_wp2_with fail
       rw [HW9.out]
       obtain ⟨s5,hs5⟩:∃ s,((vs.set i ⟨a9,n9,c9⟩))[i]?=some s:=⟨((vs.set i ⟨a9,n9,c9⟩))[i]'(by have:=(HoW).out.2.1;have:=(HlmW).out;omega),Zz _⟩
       obtain ⟨x5,hx5⟩:∃ x,((ls.set i l9))[i]?=some x:=⟨((ls.set i l9))[i]'(by have:=(HlmW).out;omega),Zz _⟩
       have hi5:=(HoW).out.2.2 i s5 x5 hs5 hx5
       have c5:=(HoW).out.1.at_ (Ep hs5)
       obtain ⟨a5,n5,k5⟩:=s5
       have hn5:n5=x5.length:=by
        obtain ⟨_,_,e,_⟩:=hi5.shape
        simp only [Sl.v,Ye] at e
        exact e.2.1
       subst hn5
       simp only [Sl.v] at c5 hi5
       have Hi5:=Yw hi5
       have Hl5:=Yw ((HmemW).out x5 (Zy hx5))
       obtain ⟨y5,hy5⟩:∃ y,x5.length=y:=⟨_,rfl⟩
       have Hi6:=Yw (show Xz W _ (.slice a5 y5 k5) x5 by rw [← hy5];exact hi5)
       rw [hy5] at c5
       have hg5:=(HoW).out.1.blk.2
       clear hs5 hx5 hi5 hy5
       have HE:=Yw (Hx4.out.trans (HxW).out)
       have z0:(W).cell? ⟨w.heap.size,0,none⟩=some T.catV:=(Hb0.out.ext HE.out).at_ 0 (by omega)
       have z1:(W).cell? ⟨w.heap.size,1,none⟩=some T.clsV:=(Hb0.out.ext HE.out).at_ 1 (by omega)
       have z2:(W).cell? ⟨w.heap.size,2,none⟩=some T.joiV:=(Hb0.out.ext HE.out).at_ 2 (by omega)
       have z3:(W).cell? ⟨w.heap.size,3,none⟩=some T.bidV:=(Hb0.out.ext HE.out).at_ 3 (by omega)
       have z4:(W).cell? ⟨w.heap.size,4,none⟩=some T.scrV:=(Hb0.out.ext HE.out).at_ 4 (by omega)
       have z5:(W).cell? ⟨w.heap.size,5,none⟩=some T.staV:=(Hb0.out.ext HE.out).at_ 5 (by omega)
       have z6:(W).cell? ⟨w.heap.size,6,none⟩=some T.ignV:=(Hb0.out.ext HE.out).at_ 6 (by omega)
       have z7:(W).cell? ⟨w.heap.size,7,none⟩=some T.extV:=(Hb0.out.ext HE.out).at_ 7 (by omega)
       have z8:(W).cell? ⟨w.heap.size,8,none⟩=some T.mapV:=(Hb0.out.ext HE.out).at_ 8 (by omega)
       have z9:(W).cell? ⟨w.heap.size,9,none⟩=some T.decV:=(Hb0.out.ext HE.out).at_ 9 (by omega)
       have z10:(W).cell? ⟨w.heap.size,10,none⟩=some T.excV:=(Hb0.out.ext HE.out).at_ 10 (by omega)
       have z11:(W).cell? ⟨w.heap.size,11,none⟩=some T.proV:=(Hb0.out.ext HE.out).at_ 11 (by omega)
       go_wp2_with fail
       go_cut [9] from 91 to 96 (fun o wx=>∃ er:Int,o=.int .i64 er∧Ext W wx)
       case first =>
        rename_i J1 K1 hJ hM
        go_region_with (go_at_call 215;refine (Jp T Hf.out Hu.out _ x5 _ (H.out.up (have hx:=HE.out;(by repeat' first|exact Yl _|assumption|apply Yk|apply Yj|apply Yi|(refine Yh ?_ (by assumption))|(refine Ya ?_ (by first|(simp;done)|(simp;omega)) _)))) (Hi6.out.ext (by repeat' first|exact Yl _|assumption|apply Yk|apply Yj|apply Yi|(refine Yh ?_ (by assumption))|(refine Ya ?_ (by first|(simp;done)|(simp;omega)) _))) (by have:=Hl5.out;omega)).mono ?_;rintro e w7 ⟨er,rfl,hx7⟩)
        all_goals
         go_simp
         refine hM _ _ (hJ _ _ ?_)
         (repeat apply Exists.intro)
         exact ⟨⟨er,rfl,by first|exact hx7|exact (Yl _).drew.trans hx7|exact ((Yl _).drewN _).trans hx7⟩,rfl⟩
       obtain ⟨er,rfl,hxb⟩:=hcut
       clear z0 z1 z2 z3 z4 z5 z6 z7 z8 z9 z10 z11 c5 hg5
       by_cases hz7:er=0
       ·subst hz7
        go_wp2_with fail
        go_roundw
        case rel=>exact ⟨i+1,(vs.set i ⟨a9,n9,c9⟩),(ls.set i l9),0,by omega,by go_num,rfl,(HoW).out.ext hxb,(HlmW).out,(HmemW).out,(HxW).out.trans hxb⟩
        case measure=>(simp [intOf];omega)
       have hz7b:(!(er == 0))=true:=by simp [hz7]
       have hz7c:(er != 0)=true:=hz7b
       have hz7d:(er == 0)=false:=by simp [hz7]
       have hz7H:=Yw hz7
       clear hz7
       go_wp2_with fail
       go_ret3
       exact Qr _ _ (X0.out.trans (HE.out.trans hxb))
      have h9b:(!(x9 == 0))=true:=by simp [h9]
      have h9c:(x9 != 0)=true:=h9b
      have h9d:(x9 == 0)=false:=by simp [h9]
      have h9H:=Yw h9
      clear h9
      go_wp2_with fail
      rw [HW9.out]
      go_ret3
      exact Qr _ _ (X0.out.trans (Hx4.out.trans HxW.out))
     have hd_i:decide ((i:Int) < (m:Int))=false:=Yg (by omega)
     have hx:=Hx.out
     go_wp2_with (refine Y4 (Hb0.out.ext (Hx4.out.trans Hx.out)) rfl ?_)
     refine (Zyk T Hf.out Hu.out _ ls _ (H.out.up (Hx4.out.trans Hx.out)) (show Zz1 wr (.slice (some ⟨g,0,none⟩) m C) ls from Ho.out.at_)).mono ?_
     rintro e w6 ⟨y,z6,rfl,hx6⟩
     by_cases hz6:z6=0
     ·subst hz6
      go_wp2_with fail
      go_ret3
      exact ⟨_,ls,0,0,rfl,Ho.out.at_.ext hx6,by rw [Hlm.out];exact hm2,Hmem.out,X0.out.trans ((Hx4.out.trans Hx.out).trans hx6)⟩
     have hz6b:(!(z6 == 0))=true:=by simp [hz6]
     have hz6c:(z6 != 0)=true:=hz6b
     have hz6d:(z6 == 0)=false:=by simp [hz6]
     have hz6H:=Yw hz6
     clear hz6
     go_wp2_with fail
     go_ret3
     exact Qr _ _ (X0.out.trans ((Hx4.out.trans Hx.out).trans hx6))
    have h3b:(!(x3 == 0))=true:=by simp [h3]
    have h3c:(x3 != 0)=true:=h3b
    have h3d:(x3 == 0)=false:=by simp [h3]
    have h3H:=Yw h3
    clear h3
    go_wp2_with fail
    go_ret3
    exact Qr _ _ (X0.out.trans Hx4.out)
   have h2b:(!(x2 == 0))=true:=by simp [h2]
   have h2c:(x2 != 0)=true:=h2b
   have h2d:(x2 == 0)=false:=by simp [h2]
   have h2H:=Yw h2
   clear h2
   go_wp2_with fail
   go_ret3
   exact Qr _ _ (X0.out.trans Hx3.out)
  have h1b:(!(x1 == 0))=true:=by simp [h1]
  have h1c:(x1 != 0)=true:=h1b
  have h1d:(x1 == 0)=false:=by simp [h1]
  have h1H:=Yw h1
  clear h1
  go_wp2_with fail
  go_ret3
  exact Qr _ _ (X0.out.trans Hx2.out)
 have h0b:(!(x == 0))=true:=by simp [h0]
 have h0c:(x != 0)=true:=h0b
 have h0d:(x == 0)=false:=by simp [h0]
 have h0H:=Yw h0
 clear h0
 go_wp2_with fail
 go_ret3
 exact Qr _ _ (X0.out.trans Hx1.out)
def Rr (N:Nat) (w:World) (e:Ending) (w':World):Prop:=∃ (s:ByteArray) (p x:Int),e=.returned (.tuple #[.string s,.int .i64 p,.int .i64 x])∧s.size≤N∧Ext w w'
theorem Me {N:Nat} {w w':World} (p x:Int) (h:Ext w w'):Rr N w (.returned (.tuple #[.string ⟨#[]⟩,.int .i64 p,.int .i64 x])) w':=⟨_,p,x,rfl,Nat.zero_le _,h⟩
theorem Ztd (w:World) (s:ByteArray) (t:TypeId) (g:Nat) (hg:w.heap.size=g):RdE Wr (w.alloc (.cells #[.string s] t)) (fun _=>True) (.slice (some ⟨g,0,none⟩) 1 1) [s]:=by
 subst hg
 have h1:(w.alloc (.cells #[.string s] t)).heap[w.heap.size]?=some (.cells #[.string s] t):=heap_alloc_new w _
 refine ⟨rfl,_,_,rfl,Yo _,by unfold maxLen;show 1≤_;omega,fun _=>⟨_,_,rfl,trivial,(Array.getElem?_eq_some_iff.1 h1).1,fun j u hu=>?_⟩⟩
 simp only [World.cell?,h1]
 rw [Nat.zero_add,← hu]
 show _=([Value.string s]:List Value)[j]?
 simp
theorem F5 {S:Nat→Prop} (T:Tbl) (hf:Few T) (hu:Uq T) (s:ByteArray) (w:World) (h:Xm w S T):Calls Tryz.prog 199 #[Wc T,.string s] w (Rr 400000 w):=by
 have X0:=Yw ((Yl w).alloc (Xf T))
 have H:=Yw (h.up X0.out)
 have Hb0:=Yw (Xq w T)
 clear h
 have Hf:=Yw hf
 have Hu:=Yw hu
 clear hf hu
 go_enter Tryz.func199,Tryz.ntmps199
 go_wp2_with (first|(refine Xy rfl ?_)|(refine Y4 Hb0.out rfl ?_))
 refine (Gx T Hf.out Hu.out s _ H.out).mono ?_
 rintro e w1 ⟨v,ls,p,x,rfl,hls,hlen,hmem,hx1⟩
 have Hx1:=Yw hx1
 clear hx1
 by_cases h0:x=0
 ·subst h0
  obtain ⟨A,C,rfl,hlC,hC⟩:=hls.shape
  obtain ⟨n,hnn⟩:∃ n,ls.length=n:=⟨_,rfl⟩
  have Hh:=Yw hls
  rw [hnn] at hlC hlen ⊢
  have Hnn:=Yw hnn
  have Hmem:=Yw hmem
  obtain ⟨B,hB⟩:∃ B,w1.heap.size=B:=⟨_,rfl⟩
  have HB:=Yw hB
  unfold maxLen at hC
  clear hls hnn hmem hB
  go_wp2_with fail
  go_loopw [32,10] (fun o u wr=>∃ (i:Nat) (ss:List ByteArray),i≤n∧o=.int .i64 (i:Int)∧Own Wr wr B u ss∧ss.length≤i∧(∀ s∈ss,s.size≤63)∧Ext w1 wr) (fun o _ _=>n - (intOf o).toNat)
  case atStart=>exact ⟨0,[],by omega,rfl,Own.nil _ _ _,by simp,by simp,Yl _⟩
  obtain ⟨i,ss,hi,rfl,ho,hsl,hss,hx⟩:=hrel
  obtain ⟨A2,C2,rfl,hlC2,hC2⟩:=ho.shape
  obtain ⟨m,hm⟩:∃ m,ss.length=m:=⟨_,rfl⟩
  have hoI:Own Wr wr B (.slice A2 m C2) ss:=by rw [← hm];exact ho
  rw [hm] at hlC2 hsl ⊢
  have Hx:=Yw hx
  have Ho:=Yw hoI
  have Hm:=Yw hm
  have Hss:=Yw hss
  have hBw:B≤wr.heap.size:=by rw [← HB.out];exact hx.size
  unfold maxLen at hC2
  clear hx ho hoI hm hss
  by_cases hlt:i < n
  ·have hd_i:decide ((i:Int) < (n:Int))=true:=Yf (by omega)
   have i0_i:(0:Int)≤(i:Int):=by omega
   have i1_i:(i:Int) < (n:Int):=by omega
   obtain ⟨x,hx0⟩:∃ x,ls[i]?=some x:=⟨ls[i]'(by rw [Hnn.out];exact hlt),Zz _⟩
   obtain ⟨g,o,c,u,hv,_,_,hg,c0,hxu⟩:=Hh.out.get hx0
   simp only [Ye] at hv
   obtain ⟨rfl,-,rfl⟩:=hv
   replace c0:=(Hx.out.cell (p:=⟨g,o+i,none⟩) hg).trans c0
   have Hxu:=Yw hxu
   have hxl:=Hmem.out x (Zy hx0)
   clear hxu hx0
   go_wp2_with fail
   refine (Pc _ x _ (Hxu.out.ext Hx.out) (by omega)).mono ?_
   rintro e w2 ⟨t,y,rfl,ht,_,hx2⟩
   have Hx2:=Yw (Hx.out.trans hx2)
   have Ho2:=Yw (Ho.out.ext hx2)
   have hs2:=hx2.size
   clear hx2
   by_cases hy:y=0
   ·subst hy
    go_wp2_with (at_builtin;refine Xx Wr _ _ _ rfl rfl rfl rfl (Ho2.out.ext ((Yl _).alloc _)) rfl (Ztd w2 t _ _ rfl) (by rw [Hm.out];show m+1≤_;omega) (by show 16≤1000;omega) (by simp;omega) ?_;intro A5 n5 c5 w5 hg5;have Hx5:=Yw (hg5.ext w1 (Hx2.out.alloc _) (by rw [HB.out];exact Yo _));have Hg5:=Yw hg5;clear hg5)
    go_roundw
    case rel =>
     refine ⟨i+1,_,by omega,by go_num,Hg5.out.own,by rw [Zs,Hm.out];show m+1≤_;omega,fun s hs=>?_,Hx5.out⟩
     rcases Zj.1 hs with h1|h1
     ·exact Hss.out s h1
     rw [Zi.1 h1];exact ht
    case measure=>(simp [intOf];omega)
   have hyb:(!(y == 0))=true:=by simp [hy]
   have hyc:(y != 0)=true:=hyb
   have hyd:(y == 0)=false:=by simp [hy]
   have hyH:=Yw hy
   clear hy
   go_wp2_with fail
   go_ret3
   exact Me _ _ (X0.out.trans (Hx1.out.trans Hx2.out))
  have hd_i:decide ((i:Int) < (n:Int))=false:=Yg (by omega)
  go_wp2_with fail
  refine (Kw _ ss _ (show RdE Wr wr _ (.slice A2 m C2) ss by have:=Ho.out.rd;rw [← Hm.out] at this ⊢;exact this) (by rw [Hm.out];omega) Hss.out).mono ?_
  rintro e w2 ⟨y,z,rfl,hx2⟩
  have Hx2:=Yw (Hx.out.trans hx2)
  have Ho2:=Yw (Ho.out.ext hx2)
  clear hx2
  by_cases hz:z=0
  ·subst hz
   go_wp2_with fail
   refine (Zzz _ ss _ (show RdE Wr w2 _ (.slice A2 m C2) ss by have:=Ho2.out.rd;rw [← Hm.out] at this ⊢;exact this) (by rw [Hm.out];omega) Hss.out).mono ?_
   rintro e w3 ⟨t,y3,rfl,ht,hx3⟩
   go_wp2_with fail
   go_ret3
   exact ⟨t,_,_,rfl,ht,X0.out.trans (Hx1.out.trans (Hx2.out.trans hx3))⟩
  have hzb:(!(z == 0))=true:=by simp [hz]
  have hzc:(z != 0)=true:=hzb
  have hzd:(z == 0)=false:=by simp [hz]
  have hzH:=Yw hz
  clear hz
  go_wp2_with fail
  go_ret3
  exact Me _ _ (X0.out.trans (Hx1.out.trans Hx2.out))
 have h0b:(!(x == 0))=true:=by simp [h0]
 have h0c:(x != 0)=true:=h0b
 have h0d:(x == 0)=false:=by simp [h0]
 have h0H:=Yw h0
 clear h0
 go_wp2_with fail
 go_ret3
 exact Me _ _ (X0.out.trans Hx1.out)
theorem Nu {S:Nat→Prop} (T:Tbl) (hf:Few T) (hu:Uq T) (s:ByteArray) (w:World) (h:Xm w S T):Calls Tryz.prog 203 #[Wc T,.string s] w (Rr 100000000 w):=by
 have X0:=Yw ((Yl w).alloc (Xf T))
 have H:=Yw (h.up X0.out)
 have Hb0:=Yw (Xq w T)
 clear h
 have Hf:=Yw hf
 have Hu:=Yw hu
 clear hf hu
 go_enter Tryz.func203,Tryz.ntmps203
 go_wp2_with (first|(refine Xy rfl ?_)|(refine Y4 Hb0.out rfl ?_))
 refine (F5 T Hf.out Hu.out s _ H.out).mono ?_
 rintro e w1 ⟨t,p,x,rfl,_,hx1⟩
 have Hx1:=Yw hx1
 clear hx1
 by_cases h0:x=0
 ·subst h0
  go_wp2_with (refine Y4 (Hb0.out.ext Hx1.out) rfl ?_)
  refine (Gx T Hf.out Hu.out s _ (H.out.up Hx1.out)).mono ?_
  rintro e w2 ⟨v,ls,p2,x2,rfl,hls,hlen,hmem,hx2⟩
  have Hx2:=Yw (Hx1.out.trans hx2)
  clear hx2
  go_wp2_with fail
  refine (Zsb v ls _ hls hlen hmem).mono ?_
  rintro e w3 ⟨u,l,rfl,hl,hl3,hx3⟩
  have Hx3:=Yw (Hx2.out.trans hx3)
  clear hx3
  go_wp2_with fail
  refine (Bk u l _ hl).mono ?_
  rintro e w4 ⟨t4,x4,rfl,ht4,hx4⟩
  go_wp2_with fail
  go_ret3
  exact ⟨t4,_,_,rfl,by omega,X0.out.trans (Hx3.out.trans hx4)⟩
 have h0b:(!(x == 0))=true:=by simp [h0]
 have h0c:(x != 0)=true:=h0b
 have h0d:(x == 0)=false:=by simp [h0]
 have h0H:=Yw h0
 clear h0
 go_wp2_with fail
 go_ret3
 exact Me _ _ (X0.out.trans Hx1.out)
def Zvo (w:World) (e:Ending) (w':World):Prop:=∃ (a u k:ByteArray) (x:Int),e=.returned (.tuple #[.agg #[.string a,.string u,.string k],.int .i64 x])∧a.size≤400000∧u.size≤100000000∧k.size≤16384∧Ext w w'
structure BZ (w:World) (b:Nat):Prop where
 lt:b < w.heap.size
 fz:∀ i,w.frozen? ⟨b,i,none⟩=false
 c0:w.cell? ⟨b,0,none⟩=some (.string ⟨#[]⟩)
 c1:w.cell? ⟨b,1,none⟩=some (.string ⟨#[]⟩)
 c2:w.cell? ⟨b,2,none⟩=some (.string ⟨#[]⟩)
theorem BZ.ext {w w':World} {b:Nat} (h:BZ w b) (x:Ext w w'):BZ w' b :=
 ⟨Nat.lt_of_lt_of_le h.lt x.size,fun i=>(x.frozen (p:=⟨b,i,none⟩) h.lt).trans (h.fz i),(x.cell (p:=⟨b,0,none⟩) h.lt).trans h.c0,(x.cell (p:=⟨b,1,none⟩) h.lt).trans h.c1,(x.cell (p:=⟨b,2,none⟩) h.lt).trans h.c2⟩
theorem Zob (w:World) (t:TypeId) (b:Nat) (hb:w.heap.size=b):BZ (w.alloc (.cells #[.string ⟨#[]⟩,.string ⟨#[]⟩,.string ⟨#[]⟩] t)) b:=by
 subst hb
 exact ⟨by simp,fun i=>by go_simp,by go_simp,by go_simp,by go_simp⟩
theorem Zwx {S:Nat→Prop} (T:Tbl) (hf:Few T) (hu:Uq T) (s:ByteArray) (w:World) (h:Xm w S T):Calls Tryz.prog 191 #[Wc T,.string s] w (Zvo w):=by
 have X0:=Yw ((Yl w).alloc (Xf T))
 have H:=Yw (h.up X0.out)
 have Hb0:=Yw (Xq w T)
 clear h
 have Hf:=Yw hf
 have Hu:=Yw hu
 clear hf hu
 go_enter Tryz.func191,Tryz.ntmps191
 go_wp2_with (first|(refine Xy rfl ?_)|(refine Y4 (Hb0.out.ext ((Yl _).alloc _)) rfl ?_))
 have hbz:=Zob (w.alloc (Xf T)) 109 (w.heap.size+1) (by simp)
 have hx0:=X0.out.alloc (.cells #[.string ⟨#[]⟩,.string ⟨#[]⟩,.string ⟨#[]⟩] 109)
 have h01:=(Yl (w.alloc (Xf T))).alloc (.cells #[.string ⟨#[]⟩,.string ⟨#[]⟩,.string ⟨#[]⟩] 109)
 obtain ⟨W0,hW0⟩:∃ W,(w.alloc (Xf T)).alloc (.cells #[.string ⟨#[]⟩,.string ⟨#[]⟩,.string ⟨#[]⟩] 109)=W:=⟨_,rfl⟩
 rw [hW0] at hbz hx0 h01 ⊢
 obtain ⟨b,hb⟩:∃ b,w.heap.size+1=b:=⟨_,rfl⟩
 rw [hb] at hbz ⊢
 have HX0:=Yw hx0
 have H1:=Yw (H.out.up h01)
 have Hb1:=Yw (Hb0.out.ext h01)
 have HBZ:=Yw hbz
 have hbw:w.heap.size≤b:=by omega
 have Hbw:=Yw hbw
 clear hbz hx0 h01 hW0 hb hbw X0 H Hb0
 refine (F5 T Hf.out Hu.out s _ H1.out).mono ?_
 rintro e w1 ⟨a,p,x,rfl,hal,hx1⟩
 have Hx1:=Yw hx1
 clear hx1
 by_cases h0:x=0
 ·subst h0
  go_wp2_with (refine Y4 (Hb1.out.ext Hx1.out) rfl ?_)
  refine (Gx T Hf.out Hu.out s _ (H1.out.up Hx1.out)).mono ?_
  rintro e w2 ⟨v,ls,p2,x2,rfl,hls,hlen,hmem,hx2⟩
  have Hx2:=Yw (Hx1.out.trans hx2)
  clear hx2 Hx1
  obtain ⟨A,C,rfl,hlC,hC⟩:=hls.shape
  obtain ⟨n,hnn⟩:∃ n,ls.length=n:=⟨_,rfl⟩
  have Hh:=Yw (show Zz1 w2 (.slice A n C) ls by rw [← hnn];exact hls)
  rw [hnn] at hlC hlen ⊢
  have Hnn:=Yw hnn
  have Hmem:=Yw hmem
  clear hls hnn hmem hC
  by_cases hn1:n=1
  ·subst hn1
   obtain ⟨l,hl0⟩:∃ x,ls[0]?=some x:=⟨ls[0]'(by rw [Hnn.out];omega),Zz _⟩
   obtain ⟨g,o,c,u,hv,_,_,hg,c0',hxu⟩:=Hh.out.get hl0
   rw [Hnn.out] at hv
   simp only [Ye] at hv
   obtain ⟨rfl,-,rfl⟩:=hv
   rw [Nat.add_zero] at c0'
   have hll:=Hmem.out l (Zy hl0)
   obtain ⟨A3,C3,rfl,hl3,hc3⟩:=hxu.shape
   have Hxu:=Yw hxu
   obtain ⟨k,hk⟩:∃ k,l.length=k:=⟨_,rfl⟩
   have Hxk:=Yw (show Xz w2 (fun _=>True) (.slice A3 k C3) l by rw [← hk];exact hxu)
   rw [hk] at c0'
   clear hxu hl0 hk Hh
   have hbq:=Hb1.out.ext Hx2.out
   have z0:(w2).cell? ⟨w.heap.size,0,none⟩=some T.catV:=(hbq).at_ 0 (by omega)
   have z1:(w2).cell? ⟨w.heap.size,1,none⟩=some T.clsV:=(hbq).at_ 1 (by omega)
   have z2:(w2).cell? ⟨w.heap.size,2,none⟩=some T.joiV:=(hbq).at_ 2 (by omega)
   have z3:(w2).cell? ⟨w.heap.size,3,none⟩=some T.bidV:=(hbq).at_ 3 (by omega)
   have z4:(w2).cell? ⟨w.heap.size,4,none⟩=some T.scrV:=(hbq).at_ 4 (by omega)
   have z5:(w2).cell? ⟨w.heap.size,5,none⟩=some T.staV:=(hbq).at_ 5 (by omega)
   have z6:(w2).cell? ⟨w.heap.size,6,none⟩=some T.ignV:=(hbq).at_ 6 (by omega)
   have z7:(w2).cell? ⟨w.heap.size,7,none⟩=some T.extV:=(hbq).at_ 7 (by omega)
   have z8:(w2).cell? ⟨w.heap.size,8,none⟩=some T.mapV:=(hbq).at_ 8 (by omega)
   have z9:(w2).cell? ⟨w.heap.size,9,none⟩=some T.decV:=(hbq).at_ 9 (by omega)
   have z10:(w2).cell? ⟨w.heap.size,10,none⟩=some T.excV:=(hbq).at_ 10 (by omega)
   have z11:(w2).cell? ⟨w.heap.size,11,none⟩=some T.proV:=(hbq).at_ 11 (by omega)
   go_wp2_with fail
   go_cut [12,13] from 41 to 47 (fun o ev wx=>∃ y z:Int,o=.int .i64 y∧ev=.int .i64 z∧Ext w2 wx)
   case first =>
    rename_i J1 K1 hJ hM
    go_region_with (go_at_call 201;refine (Zvt T Hf.out Hu.out _ l _ (H1.out.up (have hx:=Hx2.out;(by repeat' first|exact Yl _|assumption|apply Yk|apply Yj|apply Yi|(refine Yh ?_ (by assumption))|(refine Ya ?_ (by first|(simp;done)|(simp;omega)) _)))) (Hxk.out.ext (by repeat' first|exact Yl _|assumption|apply Yk|apply Yj|apply Yi|(refine Yh ?_ (by assumption))|(refine Ya ?_ (by first|(simp;done)|(simp;omega)) _)))).mono ?_;rintro e w7 ⟨y,z,rfl,hx7⟩)
    all_goals
     go_simp
     refine hM _ _ (hJ _ _ ?_)
     (repeat apply Exists.intro)
     exact ⟨⟨y,z,rfl,rfl,by first|exact hx7|exact (Yl _).drew.trans hx7|exact ((Yl _).drewN _).trans hx7⟩,rfl⟩
   obtain ⟨y,z,rfl,rfl,hxb⟩:=hcut
   have Hx3:=Yw (Hx2.out.trans hxb)
   have c0'':=(hxb.cell (p:=⟨g,o,none⟩) hg).trans c0'
   have Hx23:=Yw hxb
   clear z0 z1 z2 z3 z4 z5 z6 z7 z8 z9 z10 z11 c0' hxb hbq
   by_cases hy:4 < y
   ·have d1:decide (4 < y)=true:=Yf hy
    obtain ⟨bl,fz,c0,c1,c2⟩:=HBZ.out.ext Hx3.out
    go_wp2_with fail
    refine Yt (v:=.tuple #[.agg #[.string ⟨#[]⟩,.string ⟨#[]⟩,.string ⟨#[]⟩],.int .i64 20]) (by simp [results,Tryz.results191,go_sem, *]) rfl ⟨⟨#[]⟩,⟨#[]⟩,⟨#[]⟩,20,rfl,(by first|assumption|exact Nat.zero_le _),(by first|assumption|exact Nat.zero_le _),(by first|assumption|exact Nat.zero_le _),?_⟩
    (repeat refine Ya ?_ Hbw.out _)
    exact HX0.out.trans Hx3.out
   have d1:decide (4 < y)=false:=Yg hy
   have hbq:=Hb1.out.ext Hx3.out
   rename World=>w3
   have z0:(w3).cell? ⟨w.heap.size,0,none⟩=some T.catV:=(hbq).at_ 0 (by omega)
   have z1:(w3).cell? ⟨w.heap.size,1,none⟩=some T.clsV:=(hbq).at_ 1 (by omega)
   have z2:(w3).cell? ⟨w.heap.size,2,none⟩=some T.joiV:=(hbq).at_ 2 (by omega)
   have z3:(w3).cell? ⟨w.heap.size,3,none⟩=some T.bidV:=(hbq).at_ 3 (by omega)
   have z4:(w3).cell? ⟨w.heap.size,4,none⟩=some T.scrV:=(hbq).at_ 4 (by omega)
   have z5:(w3).cell? ⟨w.heap.size,5,none⟩=some T.staV:=(hbq).at_ 5 (by omega)
   have z6:(w3).cell? ⟨w.heap.size,6,none⟩=some T.ignV:=(hbq).at_ 6 (by omega)
   have z7:(w3).cell? ⟨w.heap.size,7,none⟩=some T.extV:=(hbq).at_ 7 (by omega)
   have z8:(w3).cell? ⟨w.heap.size,8,none⟩=some T.mapV:=(hbq).at_ 8 (by omega)
   have z9:(w3).cell? ⟨w.heap.size,9,none⟩=some T.decV:=(hbq).at_ 9 (by omega)
   have z10:(w3).cell? ⟨w.heap.size,10,none⟩=some T.excV:=(hbq).at_ 10 (by omega)
   have z11:(w3).cell? ⟨w.heap.size,11,none⟩=some T.proV:=(hbq).at_ 11 (by omega)
   go_wp2_with fail
   go_cut [14,8] from 52 to 58 (fun o ev wx=>∃ (t:ByteArray) (z:Int),o=.string t∧ev=.int .i64 z∧t.size≤16384∧Ext w3 wx)
   case first =>
    rename_i J1 K1 hJ hM
    go_region_with (go_at_call 202;refine (Zp3 T Hf.out Hu.out _ l _ (H1.out.up (have hx:=Hx3.out;(by repeat' first|exact Yl _|assumption|apply Yk|apply Yj|apply Yi|(refine Yh ?_ (by assumption))|(refine Ya ?_ (by first|(simp;done)|(simp;omega)) _)))) (Hxk.out.ext (have hx:=Hx23.out;(by repeat' first|exact Yl _|assumption|apply Yk|apply Yj|apply Yi|(refine Yh ?_ (by assumption))|(refine Ya ?_ (by first|(simp;done)|(simp;omega)) _))))).mono ?_;rintro e w7 ⟨t,z,rfl,ht,hx7⟩)
    all_goals
     go_simp
     refine hM _ _ (hJ _ _ ?_)
     (repeat apply Exists.intro)
     exact ⟨⟨t,z,rfl,rfl,ht,by first|exact hx7|exact (Yl _).drew.trans hx7|exact ((Yl _).drewN _).trans hx7⟩,rfl⟩
   obtain ⟨t,z',rfl,rfl,ht,hxb⟩:=hcut
   have Hx4:=Yw (Hx3.out.trans hxb)
   clear z0 z1 z2 z3 z4 z5 z6 z7 z8 z9 z10 z11 c0'' hxb hbq
   by_cases hz:z'=0
   ·subst hz
    cases he:t.toList.isEmpty
    rotate_left
    ·obtain ⟨bl,fz,c0,c1,c2⟩:=HBZ.out.ext Hx4.out
     go_wp2_with fail
     refine Yt (v:=.tuple #[.agg #[.string ⟨#[]⟩,.string ⟨#[]⟩,.string ⟨#[]⟩],.int .i64 10]) (by simp [results,Tryz.results191,go_sem, *]) rfl ⟨⟨#[]⟩,⟨#[]⟩,⟨#[]⟩,10,rfl,(by first|assumption|exact Nat.zero_le _),(by first|assumption|exact Nat.zero_le _),(by first|assumption|exact Nat.zero_le _),?_⟩
     (repeat refine Ya ?_ Hbw.out _)
     exact HX0.out.trans Hx4.out
    go_wp2_with (refine Y4 (Hb1.out.ext Hx4.out) rfl ?_)
    refine (Nu T Hf.out Hu.out s _ (H1.out.up Hx4.out)).mono ?_
    rintro e w8 ⟨t8,p8,x8,rfl,ht8,hx8⟩
    have Hx8:=Yw (Hx4.out.trans hx8)
    clear hx8
    obtain ⟨bl,fz,c0,c1,c2⟩:=HBZ.out.ext Hx8.out
    go_wp2_with fail
    refine Yt (v:=.tuple #[.agg #[.string a,.string t8,.string t],.int .i64 0]) (by simp [results,Tryz.results191,go_sem, *]) rfl ⟨a,t8,t,0,rfl,(by first|assumption|exact Nat.zero_le _),(by first|assumption|exact Nat.zero_le _),(by first|assumption|exact Nat.zero_le _),?_⟩
    (repeat refine Ya ?_ Hbw.out _)
    exact HX0.out.trans Hx8.out
   have hzb:(!(z' == 0))=true:=by simp [hz]
   have hzc:(z' != 0)=true:=hzb
   have hzd:(z' == 0)=false:=by simp [hz]
   have hzH:=Yw hz
   clear hz
   obtain ⟨bl,fz,c0,c1,c2⟩:=HBZ.out.ext Hx4.out
   go_wp2_with fail
   refine Yt (v:=.tuple #[.agg #[.string ⟨#[]⟩,.string ⟨#[]⟩,.string ⟨#[]⟩],.int .i64 z']) (by simp [results,Tryz.results191,go_sem, *]) rfl ⟨⟨#[]⟩,⟨#[]⟩,⟨#[]⟩,z',rfl,(by first|assumption|exact Nat.zero_le _),(by first|assumption|exact Nat.zero_le _),(by first|assumption|exact Nat.zero_le _),?_⟩
   (repeat refine Ya ?_ Hbw.out _)
   exact HX0.out.trans Hx4.out
  have d1:(!((n:Int) == 1))=true:=by simp;omega
  have d2:((n:Int) != 1)=true:=d1
  have d3:(!(n == 1))=true:=by simp;omega
  have d4:(n != 1)=true:=d3
  have d5:¬ (n:Int)=1:=by omega
  obtain ⟨bl,fz,c0,c1,c2⟩:=HBZ.out.ext Hx2.out
  go_wp2_with fail
  refine Yt (v:=.tuple #[.agg #[.string ⟨#[]⟩,.string ⟨#[]⟩,.string ⟨#[]⟩],.int .i64 21]) (by simp [results,Tryz.results191,go_sem, *]) rfl ⟨⟨#[]⟩,⟨#[]⟩,⟨#[]⟩,21,rfl,(by first|assumption|exact Nat.zero_le _),(by first|assumption|exact Nat.zero_le _),(by first|assumption|exact Nat.zero_le _),?_⟩
  (repeat refine Ya ?_ Hbw.out _)
  exact HX0.out.trans Hx2.out
 have h0b:(!(x == 0))=true:=by simp [h0]
 have h0c:(x != 0)=true:=h0b
 have h0d:(x == 0)=false:=by simp [h0]
 have h0H:=Yw h0
 clear h0
 obtain ⟨bl,fz,c0,c1,c2⟩:=HBZ.out.ext Hx1.out
 go_wp2_with fail
 refine Yt (v:=.tuple #[.agg #[.string ⟨#[]⟩,.string ⟨#[]⟩,.string ⟨#[]⟩],.int .i64 x]) (by simp [results,Tryz.results191,go_sem, *]) rfl ⟨⟨#[]⟩,⟨#[]⟩,⟨#[]⟩,x,rfl,(by first|assumption|exact Nat.zero_le _),(by first|assumption|exact Nat.zero_le _),(by first|assumption|exact Nat.zero_le _),?_⟩
 (repeat refine Ya ?_ Hbw.out _)
 exact HX0.out.trans Hx1.out
end Go.Proofs.YtnbclgbicnpmnaaGreat
