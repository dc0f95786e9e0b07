/- Lemmas of this claim: Re2. Conditions: as named. -/
import Derived.Test.YtnbclgbicnpmnaaGreatA09
import Derived.Test.YtnbclgbicnpmnaaGreatA28
import Derived.Test.YtnbclgbicnpmnaaGreatA31
import Derived.Test.YtnbclgbicnpmnaaGreatA32
namespace Go.Proofs.YtnbclgbicnpmnaaGreat
open Go.RowKit Go.Sort
set_option maxHeartbeats 0
set_option maxRecDepth 100000
set_option linter.all false
def Zmh(T:Tbl)(s:ByteArray):Nat:=(Kf (Zmd T (Gq T (dec s).1))).length
def Cv(N:Nat)(w:World)(e:Ending)(w':World):Prop:=∃ (v:Value) (ls:List (List Int)) (p x:Int),e=.returned (.tuple #[v,.int .i64 p,.int .i64 x])∧Zyy w' v ls∧(ls.length≤4097∧(ls.length=0∨ls.length=N))∧(∀ y∈ls,y.length≤4096)∧Ext w w'
theorem Q1{N:Nat}{w w':World}(p x:Int)(h:Ext w w'):Cv N w (.returned (.tuple #[.slice none 0 0,.int .i64 p,.int .i64 x])) w' :=
 ⟨_,[],p,x,rfl,⟨[],Rd.nil _ _ _,rfl,fun j s x h=>by simp at h⟩,⟨Zlx _,.inl rfl⟩,fun y hy=>by simp at hy,h⟩
theorem Ga{S:Nat→Prop}(T:Tbl)(hf:Few T)(hu:Uq T)(s:ByteArray)(w:World)(h:Xl w S T):Calls Tryz.prog 200 #[Vu T,.string s] w (Cv (Zmh T s) w):=by
 have X0:=Y4 ((Yl w).alloc (Xe T));have H:=Y4 (h.up X0.o);have Hb0:=Y4 (Xm w T);clear h;have Hf:=Y4 hf;have Hu:=Y4 hu;clear hf hu;go_enter Tryz.func200,Tryz.ntmps200;go_wp2_with (first|(refine Xw rfl ?_)|(refine Xz Hb0.o rfl ?_));refine(check_any T Hf.o Hu.o _ H.o).mono ?_;rintro e w1 ⟨x,rfl,_,hx1⟩;have Hx1:=Y4 hx1;clear hx1;by_cases h0:x=0
 ·subst h0;cases he:s.toList.isEmpty
  rotate_left
  ·go_wp2_with fail;go_ret3;exact Q1 _ _ (X0.o.trans Hx1.o)
  go_wp2_with fail;clear he;refine(Tn s _).mono ?_;rintro e w2 ⟨u,l1,p1,x1,rfl,hl1,hn1,hd1,hx2⟩;have HD1:=Y4 hd1;clear hd1;have Hx2:=Y4 (Hx1.o.trans hx2);clear hx2 Hx1;by_cases h1:x1=0
  ·subst h1;go_wp2_with (refine Xz (Hb0.o.ext Hx2.o) rfl ?_);refine(Zuz T Hf.o Hu.o u l1 _ (H.o.up Hx2.o) hl1).mono ?_;rintro e w3 ⟨u2,l2,p2,x2,rfl,hl2,hn2,hd2,hx3⟩;have HD2:=Y4 hd2;clear hd2;have Hx3:=Y4 (Hx2.o.trans hx3);clear hx3 Hx2 hl1 hn1;by_cases h2:x2=0
   ·subst h2;go_wp2_with (refine Xz (Hb0.o.ext Hx3.o) rfl ?_);refine(Zur T Hf.o Hu.o u2 l2 _ (H.o.up Hx3.o) hl2).mono ?_;rintro e w4 ⟨u3,l3,x3,rfl,hl3,hn3,hd3,hx4⟩;have HD3:=Y4 hd3;clear hd3;have Hx4:=Y4 (Hx3.o.trans hx4);clear hx4 Hx3 hl2 hn2;by_cases h3:x3=0
    ·subst h3;go_wp2_with fail;refine(Zy3 u3 l3 _ hl3 hn3).mono ?_;rintro e w5 ⟨v,vs,rfl,hown,hx5⟩;have hm1:=Rr l3;have hm2:(Kf l3).length≤4097:=Zm5 (Rt l3) (by omega);have hmem:∀ y∈Kf l3,y.length≤4096:=fun y hy=>Zm5 (Rs l3 y hy) hn3
     obtain⟨B,hB⟩:=gnX (w4.heap.size);rw[hB]at hown;have HB:=Y4 hB;obtain⟨g,C,rfl,hg1,hg2,hg3,hg4⟩:=hown.1.some_ (by rw[hown.2.1];omega);obtain⟨m,hm⟩:=gnX ((Kf l3).length);have hvm:vs.length=m:=by rw[hown.2.1,hm]
     rw[hm]at hm1 hm2;rw[hvm]at hown hg3⊢;have Hown:=Y4 hown;have Hm:=Y4 hm;have HN:=Y4 (show m=Zmh T s by rw[← hm,HD3.o (by first|exact True.intro|rfl),HD2.o (by first|exact True.intro|rfl),HD1.o (by first|exact True.intro|rfl)];rfl);have Hmem:=Y4 hmem;have Hx5:=Y4 hx5;unfold maxLen at hg4;clear hown hm hmem hvm hx5 hB hl3 hg2;go_wp2_with fail;go_loopw [57,9] (fun o ev wr=>∃ (i:Nat) (vs:List Sl) (ls:List (List Int)) (z:Int),i≤m∧o=.int .i64 (i:Int)∧ev=.int .i64 z∧Mv wr B (.slice (some ⟨g,0,none⟩) m C) vs ls∧ls.length=m∧(∀ y∈ls,y.length≤4096)∧Ext w4 wr) (fun o _ _=>m-(intOf o).toNat);case atStart=>exact⟨0,vs,Kf l3,0,by omega,rfl,rfl,Hown.o,Hm.o,Hmem.o,Hx5.o⟩
     clear Hown Hm Hmem Hx5;obtain⟨i,vs,ls,z,hi,rfl,rfl,ho,hlm,hmem,hx⟩:=hrel;have Ho:=Y4 ho;have Hlm:=Y4 hlm;have Hmem:=Y4 hmem;have Hx:=Y4 hx;clear ho hlm hmem hx;by_cases hlt:i<m
     ·obtain⟨hd_i,i0_i,i1_i⟩:=LTl i m;obtain⟨s0,hs0⟩:=geX (l:=vs) (i:=i) (by have:=Ho.o.2.1;have:=Hlm.o;omega);obtain⟨x,hx0⟩:=geX (l:=ls) (i:=i) (by have:=Hlm.o;omega);have hi0:=Ho.o.2.2 i s0 x hs0 hx0;have c0:=Ho.o.1.at_ (Dj hs0);obtain⟨a0,n0,k0⟩:=s0;have hn0:n0=x.length:=by
       obtain⟨_,_,e,_⟩:=hi0.shape;simp only[Sl.v,Ye]at e;exact e.2.1
      subst hn0;simp only[Sl.v]at c0 hi0;have hl0:=Hmem.o x (Zy hx0);obtain⟨y0,hy0⟩:=gnX (x.length);have Hi0:=Y4 (show Xx wr _ (.slice a0 y0 k0) x by rw[← hy0];exact hi0);rw[hy0]at c0 hl0;have Hy0:=Y4 hy0;have hgw:=Ho.o.1.blk.2;clear hs0 hx0 hi0 hy0;cases ha:Zqk x
      ·go_wp2_with (go_at_call 212;refine(Gi _ x _ Hi0.o).mono ?_;rintro e w6 ⟨rfl,hx6⟩;rw[ha]);have Ho6:=Y4 (Ho.o.ext hx6);have Hx6:=Y4 (Hx.o.trans hx6);clear hx6 c0 hgw;obtain⟨s5,hs5⟩:=geX (l:=(vs)) (i:=i) (by have:=(Ho6).o.2.1;have:=(Hlm).o;omega);obtain⟨x5,hx5⟩:=geX (l:=(ls)) (i:=i) (by have:=(Hlm).o;omega);have hi5:=(Ho6).o.2.2 i s5 x5 hs5 hx5;have c5:=(Ho6).o.1.at_ (Dj hs5);obtain⟨a5,n5,k5⟩:=s5;have hn5:n5=x5.length:=by
        obtain⟨_,_,e,_⟩:=hi5.shape;simp only[Sl.v,Ye]at e;exact e.2.1
       subst hn5;simp only[Sl.v]at c5 hi5;have Hi5:=Y4 hi5;have Hl5:=Y4 ((Hmem).o x5 (Zy hx5));obtain⟨y5,hy5⟩:=gnX (x5.length);have Hi6:=Y4 (show Xx w6 _ (.slice a5 y5 k5) x5 by rw[← hy5];exact hi5);rw[hy5]at c5;have hg5:=(Ho6).o.1.blk.2;clear hs5 hx5 hi5 hy5;have HE:=Y4 (Hx4.o.trans (Hx6).o);have z0:(w6).cell? ⟨w.heap.size,0,none⟩=some T.catV:=(Hb0.o.ext HE.o).at_ 0 (by omega);have z1:(w6).cell? ⟨w.heap.size,1,none⟩=some T.clsV:=(Hb0.o.ext HE.o).at_ 1 (by omega);have z2:(w6).cell? ⟨w.heap.size,2,none⟩=some T.joiV:=(Hb0.o.ext HE.o).at_ 2 (by omega);have z3:(w6).cell? ⟨w.heap.size,3,none⟩=some T.bidV:=(Hb0.o.ext HE.o).at_ 3 (by omega);have z4:(w6).cell? ⟨w.heap.size,4,none⟩=some T.scrV:=(Hb0.o.ext HE.o).at_ 4 (by omega);have z5:(w6).cell? ⟨w.heap.size,5,none⟩=some T.staV:=(Hb0.o.ext HE.o).at_ 5 (by omega);have z6:(w6).cell? ⟨w.heap.size,6,none⟩=some T.ignV:=(Hb0.o.ext HE.o).at_ 6 (by omega);have z7:(w6).cell? ⟨w.heap.size,7,none⟩=some T.extV:=(Hb0.o.ext HE.o).at_ 7 (by omega);have z8:(w6).cell? ⟨w.heap.size,8,none⟩=some T.mapV:=(Hb0.o.ext HE.o).at_ 8 (by omega);have z9:(w6).cell? ⟨w.heap.size,9,none⟩=some T.decV:=(Hb0.o.ext HE.o).at_ 9 (by omega);have z10:(w6).cell? ⟨w.heap.size,10,none⟩=some T.excV:=(Hb0.o.ext HE.o).at_ 10 (by omega);have z11:(w6).cell? ⟨w.heap.size,11,none⟩=some T.proV:=(Hb0.o.ext HE.o).at_ 11 (by omega);go_wp2_with fail;go_cut [9] from 91 to 96 (fun o wx=>∃ er:Int,o=.int .i64 er∧Ext w6 wx)
       case first =>
        rename_i J1 K1 hJ hM;go_region_with (go_at_call 215;refine(Jc T Hf.o Hu.o _ x5 _ (H.o.up (have hx:=HE.o;(by repeat' first|exact Yl _|assumption|apply Yk|apply Yj|apply Yi|(refine Yh ?_ (by assumption))|(refine Ya ?_ (by first|(simp;done)|(simp;omega)) _)))) (Hi6.o.ext (by repeat' first|exact Yl _|assumption|apply Yk|apply Yj|apply Yi|(refine Yh ?_ (by assumption))|(refine Ya ?_ (by first|(simp;done)|(simp;omega)) _))) (by have:=Hl5.o;omega)).mono ?_;rintro e w7 ⟨er,rfl,hx7⟩);all_goals
         go_simp;refine hM _ _ (hJ _ _ ?_);(repeat apply Exists.intro)
         exact⟨⟨er,rfl,by first|exact hx7|exact(Yl _).drew.trans hx7|exact((Yl _).drewN _).trans hx7⟩,rfl⟩
       obtain⟨er,rfl,hxb⟩:=hcut;clear z0 z1 z2 z3 z4 z5 z6 z7 z8 z9 z10 z11 c5 hg5;by_cases hz7:er=0
       ·subst hz7;go_wp2_with fail;go_roundw;case rel=>exact⟨i+1,vs,ls,0,by omega,by go_num,rfl,(Ho6).o.ext hxb,(Hlm).o,(Hmem).o,(Hx6).o.trans hxb⟩
        (simp[intOf];omega)
       have hz7b:(!(er==0))=true:=by simp[hz7]
       have hz7c:(er !=0)=true:=hz7b;have hz7d:(er==0)=false:=by simp[hz7]
       have hz7H:=Y4 hz7;clear hz7;go_wp2_with fail;go_ret3;exact Q1 _ _ (X0.o.trans (HE.o.trans hxb))
      go_wp2_with (go_at_call 212;refine(Gi _ x _ Hi0.o).mono ?_;rintro e w6 ⟨rfl,hx6⟩;rw[ha]);have Hx6:=Y4 (Hx.o.trans hx6);have Ho6:=Y4 (Ho.o.ext hx6);have Hi6:=Y4 (Hi0.o.ext hx6);have Hlt:=Y4 hlt;clear hx6 c0 hgw Hx Ho Hi0 ha hlt;go_loopw [66,13] (fun o t wr=>∃ (j:Nat) (u2:ByteArray),j≤y0∧o=.int .i64 (j:Int)∧t=.string u2∧u2.size=j∧Ext w6 wr) (fun o _ _=>y0-(intOf o).toNat);case atStart=>exact⟨0,⟨#[]⟩,by omega,rfl,rfl,rfl,Yl _⟩
      obtain⟨j,u2,hj,rfl,rfl,hu2,hx⟩:=hrel;have Hy:=Y4 hx;have Hu2:=Y4 hu2;have hus0:u2.size≤100000:=by omega
      have hlo:=Hlt.o;clear hx hu2;by_cases hlt2:j<y0
      ·have hd2:=LTd j y0;have j0:(0:Int)≤(j:Int):=by omega
       have j1:(j:Int)<(y0:Int):=by omega
       obtain⟨c,hc0⟩:=geX (l:=x) (i:=j) (by rw[Hy0.o];exact hlt2);obtain⟨g3,o3,c3,hv3,_,_,_,hg3',c4⟩:=(Hi6.o.ext Hy.o).get hc0;simp only[Ye]at hv3;obtain⟨rfl,-,rfl⟩:=hv3;have hcv:=fun w:World=>Qs (w:=w) [c] 1 rfl _ rfl
       simp only[Zlg,Zl2]at hcv;obtain⟨bz,hbz⟩:=gnX (bs (u8L [c]));have hbs:bz.size=1:=by rw[← hbz];rfl
       rw[hbz]at hcv;have hus:¬ 9223372036854775807<u2.size+bz.size:=by omega
       clear hbz hc0;go_wp2_with fail;go_roundw;case rel=>exact⟨j+1,_,by omega,by go_num,rfl,by rw[Ym,Hu2.o,hbs],Hy.o.alloc _⟩
       (simp[intOf];omega)
      have hd2:=GEl j y0;go_wp2_with fail;refine(Zqg u2 _ hus0).mono ?_;rintro e w8 ⟨b,rfl,_,hx8⟩;have Ho8:=Y4 (Ho6.o.ext (Hy.o.trans hx8));have Hx8:=Y4 (Hx6.o.trans (Hy.o.trans hx8));clear hx8 hlt2 hd2;cases b
      ·obtain⟨s5,hs5⟩:=geX (l:=(vs)) (i:=i) (by have:=(Ho8).o.2.1;have:=(Hlm).o;omega);obtain⟨x5,hx5⟩:=geX (l:=(ls)) (i:=i) (by have:=(Hlm).o;omega);have hi5:=(Ho8).o.2.2 i s5 x5 hs5 hx5;have c5:=(Ho8).o.1.at_ (Dj hs5);obtain⟨a5,n5,k5⟩:=s5;have hn5:n5=x5.length:=by
        obtain⟨_,_,e,_⟩:=hi5.shape;simp only[Sl.v,Ye]at e;exact e.2.1
       subst hn5;simp only[Sl.v]at c5 hi5;have Hi5:=Y4 hi5;have Hl5:=Y4 ((Hmem).o x5 (Zy hx5));obtain⟨y5,hy5⟩:=gnX (x5.length);have Hi6:=Y4 (show Xx w8 _ (.slice a5 y5 k5) x5 by rw[← hy5];exact hi5);rw[hy5]at c5;have hg5:=(Ho8).o.1.blk.2;clear hs5 hx5 hi5 hy5;have HE:=Y4 (Hx4.o.trans (Hx8).o);have z0:(w8).cell? ⟨w.heap.size,0,none⟩=some T.catV:=(Hb0.o.ext HE.o).at_ 0 (by omega);have z1:(w8).cell? ⟨w.heap.size,1,none⟩=some T.clsV:=(Hb0.o.ext HE.o).at_ 1 (by omega);have z2:(w8).cell? ⟨w.heap.size,2,none⟩=some T.joiV:=(Hb0.o.ext HE.o).at_ 2 (by omega);have z3:(w8).cell? ⟨w.heap.size,3,none⟩=some T.bidV:=(Hb0.o.ext HE.o).at_ 3 (by omega);have z4:(w8).cell? ⟨w.heap.size,4,none⟩=some T.scrV:=(Hb0.o.ext HE.o).at_ 4 (by omega);have z5:(w8).cell? ⟨w.heap.size,5,none⟩=some T.staV:=(Hb0.o.ext HE.o).at_ 5 (by omega);have z6:(w8).cell? ⟨w.heap.size,6,none⟩=some T.ignV:=(Hb0.o.ext HE.o).at_ 6 (by omega);have z7:(w8).cell? ⟨w.heap.size,7,none⟩=some T.extV:=(Hb0.o.ext HE.o).at_ 7 (by omega);have z8:(w8).cell? ⟨w.heap.size,8,none⟩=some T.mapV:=(Hb0.o.ext HE.o).at_ 8 (by omega);have z9:(w8).cell? ⟨w.heap.size,9,none⟩=some T.decV:=(Hb0.o.ext HE.o).at_ 9 (by omega);have z10:(w8).cell? ⟨w.heap.size,10,none⟩=some T.excV:=(Hb0.o.ext HE.o).at_ 10 (by omega);have z11:(w8).cell? ⟨w.heap.size,11,none⟩=some T.proV:=(Hb0.o.ext HE.o).at_ 11 (by omega);go_wp2_with fail;go_cut [9] from 91 to 96 (fun o wx=>∃ er:Int,o=.int .i64 er∧Ext w8 wx)
       case first =>
        rename_i J1 K1 hJ hM;go_region_with (go_at_call 215;refine(Jc T Hf.o Hu.o _ x5 _ (H.o.up (have hx:=HE.o;(by repeat' first|exact Yl _|assumption|apply Yk|apply Yj|apply Yi|(refine Yh ?_ (by assumption))|(refine Ya ?_ (by first|(simp;done)|(simp;omega)) _)))) (Hi6.o.ext (by repeat' first|exact Yl _|assumption|apply Yk|apply Yj|apply Yi|(refine Yh ?_ (by assumption))|(refine Ya ?_ (by first|(simp;done)|(simp;omega)) _))) (by have:=Hl5.o;omega)).mono ?_;rintro e w7 ⟨er,rfl,hx7⟩);all_goals
         go_simp;refine hM _ _ (hJ _ _ ?_);(repeat apply Exists.intro)
         exact⟨⟨er,rfl,by first|exact hx7|exact(Yl _).drew.trans hx7|exact((Yl _).drewN _).trans hx7⟩,rfl⟩
       obtain⟨er,rfl,hxb⟩:=hcut;clear z0 z1 z2 z3 z4 z5 z6 z7 z8 z9 z10 z11 c5 hg5;by_cases hz7:er=0
       ·subst hz7;go_wp2_with fail;go_roundw;case rel=>exact⟨i+1,vs,ls,0,by omega,by go_num,rfl,(Ho8).o.ext hxb,(Hlm).o,(Hmem).o,(Hx8).o.trans hxb⟩
        (simp[intOf];omega)
       have hz7b:(!(er==0))=true:=by simp[hz7]
       have hz7c:(er !=0)=true:=hz7b;have hz7d:(er==0)=false:=by simp[hz7]
       have hz7H:=Y4 hz7;clear hz7;go_wp2_with fail;go_ret3;exact Q1 _ _ (X0.o.trans (HE.o.trans hxb))
      go_wp2_with fail;refine(Zxr u2 _ rfl hus0 _).mono ?_;rintro e w9 ⟨v9,l9,x9,rfl,hv9,hl9,hx9⟩;obtain⟨a9,c9,rfl,_,_⟩:=hv9.shape;have ho9:=Ho8.o.ext hx9;have hiv:i<vs.length:=by have:=Ho8.o.2.1;have:=Hlm.o;omega
      obtain⟨s9,hs9⟩:∃ s,vs[i]?=some s:=⟨vs[i]'hiv,Zz _⟩;have hcel:=ho9.1.at_ (Dj hs9);clear hs9;have htw:=ho9.1.thaw i;have hgw:=ho9.1.blk.2;have hg8:=Ho8.o.1.blk.2;have ho10:Mv (w9.setCell ⟨g,i,none⟩ (.slice a9 l9.length c9)) B (.slice (some ⟨g,0,none⟩) m C) (vs.set i ⟨a9,l9.length,c9⟩) (ls.set i l9):=by
       refine⟨ho9.1.put rfl hiv ⟨a9,l9.length,c9⟩ rfl,Rn ?_ ?_ i⟩
       ·exact ho9.2.chg ((Chg.refl (· = g) w9).setCell (p:=⟨g,i,none⟩) (.inl rfl) _) fun k hk e=>hk (by rw[e];rfl)
       have h1:Xx w9 (fun k=>(Value.slice (some ⟨g,0,none⟩) m C).ownBlock≠some k) (.slice a9 l9.length c9) l9:=Rd.mono hv9 fun k hk _ e=>by
        have:g=k:=by simpa[Value.ownBlock]using e
        omega
       exact h1.chg ((Chg.refl (· = g) w9).setCell (p:=⟨g,i,none⟩) (.inl rfl) _) fun k hk e=>hk (by rw[e];rfl)
      have hx10:Ext w4 (w9.setCell ⟨g,i,none⟩ (.slice a9 l9.length c9)):=Ya (Hx8.o.trans hx9) (by show w4.heap.size≤g;rw[HB.o];exact hg1) _;have hlm10:(ls.set i l9).length=m:=by rw[Zf];exact Hlm.o
      have hmem10:∀ y∈ls.set i l9,y.length≤4096:=fun y hy=>by
       rcases Zkm hy with h|h
       ·exact Hmem.o y h
       rw[h];omega
      obtain⟨n9,hn9⟩:=gnX (l9.length);rw[hn9]at ho10 hx10⊢;obtain⟨W,hW⟩:=gnX (w9.setCell ⟨g,i,none⟩ (.slice a9 n9 c9));rw[hW]at ho10 hx10;have HoW:=Y4 ho10;have HxW:=Y4 hx10;have HlmW:=Y4 hlm10;have HmemW:=Y4 hmem10;have HW9:=Y4 hW;clear ho9 ho10 hx10 hlm10 hmem10 hW hx9 hv9 hn9;by_cases h9:x9=0
      ·subst h9;go_wp2_with fail;rw[HW9.o];obtain⟨s5,hs5⟩:=geX (l:=((vs.set i ⟨a9,n9,c9⟩))) (i:=i) (by have:=(HoW).o.2.1;have:=(HlmW).o;omega);obtain⟨x5,hx5⟩:=geX (l:=((ls.set i l9))) (i:=i) (by have:=(HlmW).o;omega);have hi5:=(HoW).o.2.2 i s5 x5 hs5 hx5;have c5:=(HoW).o.1.at_ (Dj hs5);obtain⟨a5,n5,k5⟩:=s5;have hn5:n5=x5.length:=by
        obtain⟨_,_,e,_⟩:=hi5.shape;simp only[Sl.v,Ye]at e;exact e.2.1
       subst hn5;simp only[Sl.v]at c5 hi5;have Hi5:=Y4 hi5;have Hl5:=Y4 ((HmemW).o x5 (Zy hx5));obtain⟨y5,hy5⟩:=gnX (x5.length);have Hi6:=Y4 (show Xx W _ (.slice a5 y5 k5) x5 by rw[← hy5];exact hi5);rw[hy5]at c5;have hg5:=(HoW).o.1.blk.2;clear hs5 hx5 hi5 hy5;have HE:=Y4 (Hx4.o.trans (HxW).o);have z0:(W).cell? ⟨w.heap.size,0,none⟩=some T.catV:=(Hb0.o.ext HE.o).at_ 0 (by omega);have z1:(W).cell? ⟨w.heap.size,1,none⟩=some T.clsV:=(Hb0.o.ext HE.o).at_ 1 (by omega);have z2:(W).cell? ⟨w.heap.size,2,none⟩=some T.joiV:=(Hb0.o.ext HE.o).at_ 2 (by omega);have z3:(W).cell? ⟨w.heap.size,3,none⟩=some T.bidV:=(Hb0.o.ext HE.o).at_ 3 (by omega);have z4:(W).cell? ⟨w.heap.size,4,none⟩=some T.scrV:=(Hb0.o.ext HE.o).at_ 4 (by omega);have z5:(W).cell? ⟨w.heap.size,5,none⟩=some T.staV:=(Hb0.o.ext HE.o).at_ 5 (by omega);have z6:(W).cell? ⟨w.heap.size,6,none⟩=some T.ignV:=(Hb0.o.ext HE.o).at_ 6 (by omega);have z7:(W).cell? ⟨w.heap.size,7,none⟩=some T.extV:=(Hb0.o.ext HE.o).at_ 7 (by omega);have z8:(W).cell? ⟨w.heap.size,8,none⟩=some T.mapV:=(Hb0.o.ext HE.o).at_ 8 (by omega);have z9:(W).cell? ⟨w.heap.size,9,none⟩=some T.decV:=(Hb0.o.ext HE.o).at_ 9 (by omega);have z10:(W).cell? ⟨w.heap.size,10,none⟩=some T.excV:=(Hb0.o.ext HE.o).at_ 10 (by omega);have z11:(W).cell? ⟨w.heap.size,11,none⟩=some T.proV:=(Hb0.o.ext HE.o).at_ 11 (by omega);go_wp2_with fail;go_cut [9] from 91 to 96 (fun o wx=>∃ er:Int,o=.int .i64 er∧Ext W wx)
       case first =>
        rename_i J1 K1 hJ hM;go_region_with (go_at_call 215;refine(Jc T Hf.o Hu.o _ x5 _ (H.o.up (have hx:=HE.o;(by repeat' first|exact Yl _|assumption|apply Yk|apply Yj|apply Yi|(refine Yh ?_ (by assumption))|(refine Ya ?_ (by first|(simp;done)|(simp;omega)) _)))) (Hi6.o.ext (by repeat' first|exact Yl _|assumption|apply Yk|apply Yj|apply Yi|(refine Yh ?_ (by assumption))|(refine Ya ?_ (by first|(simp;done)|(simp;omega)) _))) (by have:=Hl5.o;omega)).mono ?_;rintro e w7 ⟨er,rfl,hx7⟩);all_goals
         go_simp;refine hM _ _ (hJ _ _ ?_);(repeat apply Exists.intro)
         exact⟨⟨er,rfl,by first|exact hx7|exact(Yl _).drew.trans hx7|exact((Yl _).drewN _).trans hx7⟩,rfl⟩
       obtain⟨er,rfl,hxb⟩:=hcut;clear z0 z1 z2 z3 z4 z5 z6 z7 z8 z9 z10 z11 c5 hg5;by_cases hz7:er=0
       ·subst hz7;go_wp2_with fail;go_roundw;case rel=>exact⟨i+1,(vs.set i ⟨a9,n9,c9⟩),(ls.set i l9),0,by omega,by go_num,rfl,(HoW).o.ext hxb,(HlmW).o,(HmemW).o,(HxW).o.trans hxb⟩
        (simp[intOf];omega)
       have hz7b:(!(er==0))=true:=by simp[hz7]
       have hz7c:(er !=0)=true:=hz7b;have hz7d:(er==0)=false:=by simp[hz7]
       have hz7H:=Y4 hz7;clear hz7;go_wp2_with fail;go_ret3;exact Q1 _ _ (X0.o.trans (HE.o.trans hxb))
      have h9b:(!(x9==0))=true:=by simp[h9]
      have h9c:(x9 !=0)=true:=h9b;have h9d:(x9==0)=false:=by simp[h9]
      have h9H:=Y4 h9;clear h9;go_wp2_with fail;rw[HW9.o];go_ret3;exact Q1 _ _ (X0.o.trans (Hx4.o.trans HxW.o))
     have hd_i:=GEl i m;have hx:=Hx.o;go_wp2_with (refine Xz (Hb0.o.ext (Hx4.o.trans Hx.o)) rfl ?_);refine(Zyi T Hf.o Hu.o _ ls _ (H.o.up (Hx4.o.trans Hx.o)) (show Zyy wr (.slice (some ⟨g,0,none⟩) m C) ls from Ho.o.at_)).mono ?_;rintro e w6 ⟨y,z6,rfl,hx6⟩;by_cases hz6:z6=0
     ·subst hz6;go_wp2_with fail;go_ret3;exact⟨_,ls,0,0,rfl,Ho.o.at_.ext hx6,⟨by rw[Hlm.o];exact hm2,.inr (by rw[Hlm.o];exact HN.o)⟩,Hmem.o,X0.o.trans ((Hx4.o.trans Hx.o).trans hx6)⟩
     have hz6b:(!(z6==0))=true:=by simp[hz6]
     have hz6c:(z6 !=0)=true:=hz6b;have hz6d:(z6==0)=false:=by simp[hz6]
     have hz6H:=Y4 hz6;clear hz6;go_wp2_with fail;go_ret3;exact Q1 _ _ (X0.o.trans ((Hx4.o.trans Hx.o).trans hx6))
    have h3b:(!(x3==0))=true:=by simp[h3]
    have h3c:(x3 !=0)=true:=h3b;have h3d:(x3==0)=false:=by simp[h3]
    have h3H:=Y4 h3;clear h3;go_wp2_with fail;go_ret3;exact Q1 _ _ (X0.o.trans Hx4.o)
   have h2b:(!(x2==0))=true:=by simp[h2]
   have h2c:(x2 !=0)=true:=h2b;have h2d:(x2==0)=false:=by simp[h2]
   have h2H:=Y4 h2;clear h2;go_wp2_with fail;go_ret3;exact Q1 _ _ (X0.o.trans Hx3.o)
  have h1b:(!(x1==0))=true:=by simp[h1]
  have h1c:(x1 !=0)=true:=h1b;have h1d:(x1==0)=false:=by simp[h1]
  have h1H:=Y4 h1;clear h1;go_wp2_with fail;go_ret3;exact Q1 _ _ (X0.o.trans Hx2.o)
 have h0b:(!(x==0))=true:=by simp[h0]
 have h0c:(x !=0)=true:=h0b;have h0d:(x==0)=false:=by simp[h0]
 have h0H:=Y4 h0;clear h0;go_wp2_with fail;go_ret3;exact Q1 _ _ (X0.o.trans Hx1.o)
end Go.Proofs.YtnbclgbicnpmnaaGreat
