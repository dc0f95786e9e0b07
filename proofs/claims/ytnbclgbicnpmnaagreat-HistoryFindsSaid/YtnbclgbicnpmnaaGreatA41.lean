/- Lemmas of this claim: Ke, Km, Kq. Conditions: as named. -/
import Derived.Test.YtnbclgbicnpmnaaGreatA32
import Derived.Test.YtnbclgbicnpmnaaGreatA40
namespace Go.Proofs.YtnbclgbicnpmnaaGreat
open Go.RowKit Go.Sort Tryz
set_option maxHeartbeats 0
set_option maxRecDepth 100000
set_option linter.all false
section
section
variable {w0 w w':World} {B b s:Nat} {cs:List Value} {dv ev:Value} {dec:List MpS} {exc:List Int}
theorem F7.c9(h:F7 w0 w B b s cs dv dec ev exc)(hc:10<cs.length):w.cell? ⟨b,9,none⟩=some dv:=by
 rw[h.box.at_ 9 (by simp;omega)];simp[Yv];omega
theorem F7.c10(h:F7 w0 w B b s cs dv dec ev exc)(hc:10<cs.length):w.cell? ⟨b,10,none⟩=some ev:=by
 rw[h.box.at_ 10 (by simp;omega)];simp[Yv];omega
end
theorem Zoc(w:World)(z fr:Int)(t t2:TypeId):Xp ((w.alloc (.cells #[.int .i64 z] t)).alloc (.cells #[.int .i64 fr,.slice (some ⟨w.heap.size,0,none⟩) 1 1] t2)) (w.heap.size+1) [.int .i64 fr,.slice (some ⟨w.heap.size,0,none⟩) 1 1]:=by
 have:=Xp.new (w.alloc (.cells #[.int .i64 z] t)) #[.int .i64 fr,.slice (some ⟨w.heap.size,0,none⟩) 1 1] t2
 rwa [show(w.alloc (.cells #[.int .i64 z] t)).heap.size=w.heap.size+1 by simp]at this
theorem Zyf(w:World)(z:Int)(B:Nat)(hB:B≤w.heap.size):Own Wb (w.alloc (.cells #[.int .i64 z] 3)) B (.slice (some ⟨w.heap.size,0,none⟩) 1 1) [z] :=
 ⟨rfl,.inr ⟨w.heap.size,1,_,rfl,hB,Zjc w _,Yn _,by unfold maxLen;omega,rfl,rfl⟩⟩
theorem Zt5(w:World)(fr:Int)(A:Option Addr)(n c:Nat)(l:List Int)(t:TypeId)(g:Nat)(hg:w.heap.size=g):RdE mpE (w.alloc (.cells #[.int .i64 fr,.slice A n c] t)) (fun _=>True) (.slice (some ⟨g,0,none⟩) 1 1) [⟨⟨fr,.slice A n c,l⟩,rfl⟩]:=by
 subst hg;exact Qr w #[.int .i64 fr,.slice A n c] t 2 rfl
theorem Zs3{α:Type}{E:Enc α}{w w':World}{Z b j:Nat}{dv ev x u:Value}{L:List α}{l:List Int}{o:Obj}{A:Option Addr}{n c:Nat}(h:Xx w (fun k=>Z≤k∧dv.ownBlock≠some k∧ev.ownBlock≠some k) x l)(hg:Grew E (w.alloc o) Z ev L A n c w')(hb:b<Z) :
 Xx (w'.setCell ⟨b,j,none⟩ u) (fun k=>Z≤k∧dv.ownBlock≠some k∧(Value.slice A n c).ownBlock≠some k) x l:=by
 have h3:Xx (w.alloc o) (fun k=>(Z≤k∧dv.ownBlock≠some k∧ev.ownBlock≠some k)∧k<w.heap.size) x l:=Xx.ext (Rd.mono h fun k hk hl=>⟨hk,hl⟩) ((Yl _).alloc o);have h4:=(h3.chg hg.chg (fun k hk e=>hk.1.2.2 e)).chg ((Chg.refl (· = b) w').setCell (p:=⟨b,j,none⟩) (.inl rfl) u) (fun k hk e=>by have:=hk.1.1;omega);exact Rd.mono h4 fun k hk _=>⟨hk.1.1,hk.1.2.1,fun e=>by
  rcases hg.at_ with h1|h1
  ·exact hk.1.2.2 (h1.symm.trans e)
  rw[e]at h1;have:=hk.2;simp at h1;omega⟩
theorem Zml{w:World}{B n c g:Nat}{l:List MpS}(h:Own mpE w B (.slice (some ⟨g,0,none⟩) n c) l){j:Nat}{m:MpS}(hj:l[j]?=some m):w.cell? ⟨g,j*2,none⟩=some (.int .i64 m.1.fr)∧w.cell? ⟨g,j*2+1,none⟩=some m.1.tv:=by
 have hj2:(l.map Subtype.val)[j]?=some m.1:=by rw[Zn,hj];rfl
 obtain⟨h1,h2⟩:=K5 hj2;exact⟨h.at_ h1,h.at_ h2⟩
def I0(w0:World)(B b s:Nat)(cs:List Value)(e:Ending)(w':World):Prop :=
 ∃ (dv:Value) (dec:List MpS) (ev:Value) (exc:List Int),e=.returned (.tuple #[])∧F7 w0 w' B b s cs dv dec ev exc∧dec.length≤5∧(dec.map fun m=>m.1.fr).Nodup∧E6 (dec.map Subtype.val) exc 5
theorem Ci(B b s:Nat)(cs:List Value)(w:World)(hc:10<cs.length)(h:F7 w w B b s cs (.slice none 0 0) [] (.slice none 0 0) []):Calls prog 47 #[.pointer (some ⟨s,0,none⟩),.pointer (some ⟨b,0,none⟩)] w (I0 w B b s cs):=by
 have H:=Y4 h;clear h;go_enter func47,ntmps47;go_wp2_with fail;go_loopw [4] (fun o wr=>∃ (k:Nat) (dv:Value) (dec:List MpS) (ev:Value) (exc:List Int),k≤5∧o=.int .i64 (k:Int)∧F7 w wr B b s cs dv dec ev exc∧dec.length≤k∧exc.length≤k∧(dec.map fun m=>m.1.fr).Nodup∧(∀ m∈dec,m.1.fr<7680+(k:Int))∧E6 (dec.map Subtype.val) exc k) (fun o _=>5-(intOf o).toNat);case atStart=>exact⟨0,_,[],_,[],by omega,rfl,H.o,by simp,by simp,by simp,by simp,E6.nil⟩
 obtain⟨k,dv,dec,ev,exc,hk,rfl,hd,hl1,hl2,hnd,hfr,hdp⟩:=hrel;rename World=>wI
 have D0:=Y4 hd;have Hl1:=Y4 hl1;have Hl2:=Y4 hl2;have Hnd:=Y4 hnd;have Hfr:=Y4 hfr;have Hdp:=Y4 hdp;clear hd hl1 hl2 hnd hfr hdp;by_cases hk5:k<5
 ·have hd_k:decide ((k:Int)<(5:Int))=true:=Yf;have i0_k:(0:Int)≤(k:Int):=by omega
  have i1_k:(k:Int)<(5:Int):=by omega
  go_wp2_with fail;refine(Xh s 4 (by omega) (by omega) _ B D0.o.src).mono ?_;rintro e w1 ⟨v1,hv1,rfl,h1⟩;have T1:=Y4 h1;clear h1;by_cases hv10:v1=0
  ·subst hv10;go_wp2_with fail;go_roundw;case rel=>exact⟨k+1,dv,dec,ev,exc,by omega,by go_num,D0.o.to T1.o,by have:=Hl1.o;omega,by have:=Hl2.o;omega,Hnd.o,fun m hm=>by have:=Hfr.o m hm;omega,Hdp.o.up⟩
   (simp[intOf];omega)
  have e1:((v1:Int)==0)=false:=by simp;omega
  have e2:(v1==0)=false:=by simp;omega
  have e3:¬ (v1:Int)=0:=by omega
  clear hv10;obtain⟨fr,hfr⟩:∃ z:Int,7680+(k:Int)=z:=⟨_,rfl⟩;have rf:IntKind.i64.wrap (7680+(k:Int))=fr:=by rw[Yp _ (by omega)];exact hfr
  go_wp2_with fail;refine(Xh s 2 (by omega) (by omega) _ B T1.o.src).mono ?_;rintro e w2 ⟨v2,hv2,rfl,h2⟩;have T2:=Y4 (T1.o.trans h2);clear h2;obtain⟨z2,hz2⟩:∃ z:Int,97+(v2:Int)=z:=⟨_,rfl⟩;have rz:IntKind.i64.wrap (97+(v2:Int))=z2:=by rw[Yp _ (by omega)];exact hz2
  have Hz2:=Y4 (show z2=97∨z2=98 by omega);clear hz2;have hsl:=D0.o.src.lt;have hw2:=T2.o.chg.size;have M0:=Y4 (show Ou B s wI ((w2.alloc (.cells #[.int .i64 z2] 3)).alloc (.cells #[.int .i64 fr,.slice (some ⟨w2.heap.size,0,none⟩) 1 1] 106)) (w2.heap.size+1) fr (.slice (some ⟨w2.heap.size,0,none⟩) 1 1) [z2] from
   ⟨(T2.o.alloc _).alloc _,Zoc w2 z2 fr _ _,(Zyf w2 z2 _ hw2).ext ((Yl _).alloc _),by simp[Value.ownBlock],by omega,by simp,by simp,hsl⟩)
  go_upto_region 5 with fail;obtain⟨mb,hmb⟩:=gnX (w2.heap.size+1);obtain⟨tb,htb⟩:=gnX (w2.heap.size);obtain⟨W3,hW3⟩:=gnX ((w2.alloc (.cells #[.int .i64 z2] 3)).alloc (.cells #[.int .i64 fr,.slice (some ⟨w2.heap.size,0,none⟩) 1 1] 106));rw[hW3,hmb,htb]at M0;rw[hW3,hmb,htb];clear hW3 hmb htb T1 T2 hsl hw2 rf rz;go_cut [29] (fun o wx=>∃ q:Bool,o=.bool q∧(q=true→0<k)∧Ou B s wI wx mb fr (.slice (some ⟨tb,0,none⟩) 1 1) [z2]);case first =>
   by_cases hk0:0<k
   ·have d0:decide ((0:Int)<(k:Int))=true:=Yf;have d00:decide (0<k)=true:=Yf hk0;go_wp2_with fail;refine(Xh s 3 (by omega) (by omega) _ B M0.o.t.src).mono ?_;rintro e w5 ⟨v5,hv5,rfl,h5⟩;have M5:=Y4 (M0.o.next h5);clear h5;obtain⟨q5,hq5⟩:=gnX (((v5:Int)==0));have hq6:(v5==0)=q5:=by rw[← hq5,Zib];simp
    go_wp2_with fail;go_meet;exact⟨_,rfl,fun _=>hk0,M5.o⟩
   obtain rfl:k=0:=by omega
   go_wp2_with fail;go_meet;exact⟨_,rfl,(by intro h;cases h),M0.o⟩
  obtain⟨q,rfl,hq,hM⟩:=hcut;have M1:=Y4 hM;clear hM M0;rename World=>w3
  go_upto_if 29 with fail;go_cut [] (fun wx=>∃ to2:List Int,to2.length=1∧Ou B s wI wx mb fr (.slice (some ⟨tb,0,none⟩) 1 1) to2∧∃ x,to2=[x]∧(x=97∨x=98∨(7680≤x∧x<fr)));case first =>
   cases q
   ·go_wp2_with fail;go_meet;exact⟨_,rfl,M1.o,z2,rfl,by have:=Hz2.o;omega⟩
   have hk0:0<k:=hq rfl;have c0:=(M1.o).box.at_ 0 (by simp);have c1:=(M1.o).box.at_ 1 (by simp);have fz:=(M1.o).box.fz;simp only[Zx,Zw]at c0 c1;have t0:=M1.o.own.at_ (ints_at (j:=0) rfl);have tf:=M1.o.own.thaw 0;go_upto_region 6 with fail;go_region_with (go_at_call 42;refine(Xh s (k:Int) (by omega) (by omega) _ B (M1.o.ext (Yl _).drew).t.src).mono ?_;rintro e w5 ⟨v5,hv5,rfl,h5⟩;have M5:=Y4 ((M1.o.ext (Yl _).drew).next h5);have c1':=M5.o.box.at_ 1 (by simp);have t0':=M5.o.own.at_ (ints_at (j:=0) rfl);have tf':=M5.o.own.thaw 0;simp only[Zx,Zw]at c1';obtain⟨z5,hz5⟩:∃ z:Int,7680+(v5:Int)=z:=⟨_,rfl⟩;have rz5:IntKind.i64.wrap (7680+(v5:Int))=z5:=(by rw[Yp _ (by omega)];exact hz5);have Hz5:=Y4 (show 7680≤z5∧z5<fr by omega);clear h5 hz5);all_goals
    go_wp2_with fail;go_meet;exact⟨_,rfl,M5.o.put (by simp) z5,z5,rfl,.inr (.inr Hz5.o)⟩
  obtain⟨to2,hto,hM,hx2⟩:=hcut;have Hx2:=Y4 hx2;have M2:=Y4 hM;clear hM M1 hq hx2;rename World=>w4
  go_wp2_with fail;refine(Xh s 8 (by omega) (by omega) _ B M2.o.t.src).mono ?_;rintro e w5 ⟨v5,hv5,rfl,h5⟩;have M3:=Y4 (M2.o.next h5);clear h5 M2;go_upto_if 39 with fail;go_cut [] (fun wx=>∃ (tv:Value) (to3:List Int),Ou B s wI wx mb fr tv to3∧ToP to3 fr);case first =>
   by_cases hv0:0<v5
   ·have d1:decide ((0:Int)<(v5:Int))=true:=Yf;have c0:=(M3.o).box.at_ 0 (by simp);have c1:=(M3.o).box.at_ 1 (by simp);have fz:=(M3.o).box.fz;simp only[Zx,Zw]at c0 c1;go_upto_region 8 with fail;have L5:=fun w:World=>Wn w 3 [769,776,803,837,945] 5 rfl _ rfl (by omega)
    have c1a:(w5.alloc (.cells #[.int .i64 769,.int .i64 776,.int .i64 803,.int .i64 837,.int .i64 945] 3)).cell? ⟨mb,1,none⟩=some (.slice (some ⟨tb,0,none⟩) 1 1):=by
     have:=(M3.o.box.ext ((Yl _).alloc (.cells #[.int .i64 769,.int .i64 776,.int .i64 803,.int .i64 837,.int .i64 945] 3))).at_ 1 (by simp);simpa using this
    have hsl:=M3.o.t.src.lt;go_region_law (first
     | ((refine Vj Wb (.tmp 41) (.tmp 47) 22 (by rfl) (by rfl) (by rfl) (by rfl) (M6.o.own.ext ((Yl _).alloc _)) (by rfl) (Wr w6 z6 _ _ rfl) (by rw[hto];show 1+1≤_;omega) (by show 8≤1000;omega) (by have:=M6.o.t.chg.size;simp;omega) ?_);intro A8 n8 c8 w8 hg8;have M8:=Y4 (M6.o.grow hto hg8);have cm8:=Y4 ((M6.o.box.ext ((Yl _).alloc (.cells #[.int .i64 z6] 3))).chg hg8.chg (fun e=>M6.o.ne e));have c8':=cm8.o.at_ 1 (by simp);have f8:=cm8.o.fz;simp only[Zx,Zw]at c8';clear hg8)
     | (go_simp;go_at_call 42;refine(Xh s 5 (by omega) (by omega) _ B ((M3.o.ext (Yl _).drew).ext ((Yl _).alloc (.cells #[.int .i64 769,.int .i64 776,.int .i64 803,.int .i64 837,.int .i64 945] 3))).t.src).mono ?_;rintro e w6 ⟨v6,hv6,rfl,h6⟩;have M6:=Y4 (((M3.o.ext (Yl _).drew).ext ((Yl _).alloc (.cells #[.int .i64 769,.int .i64 776,.int .i64 803,.int .i64 837,.int .i64 945] 3))).next h6);have L6:RdE Wb w6 (fun k=>w5.heap.size≤k) (.slice (some ⟨w5.heap.size,0,none⟩) 5 5) [769,776,803,837,945]:=Rd.chg (L5 w5.drew) h6.chg (fun k hk e=>by have:w5.heap.size≤k:=hk;omega);obtain⟨z6,hz6⟩:∃ z,([769,776,803,837,945]:List Int)[v6]?=some z:=⟨_,Zz (by simp;omega)⟩;obtain⟨g6,o6,cc6,hvv6,_,_,_,hg6,cz6⟩:=Xx.get L6 hz6;(simp only[Ye,Yd,Zjp,Zjj,Zj6]at hvv6);obtain⟨⟨rfl,rfl⟩,-,rfl⟩:=hvv6;rw[Zjd]at cz6;have k0:(0:Int)≤(v6:Int):=(by omega);have k1:v6<5:=(by omega);have c6':=M6.o.box.at_ 1 (by simp);(simp only[Zx,Zw]at c6');have c6'':=(M6.o.box.ext ((Yl _).alloc (.cells #[.int .i64 z6] 3))).at_ 1 (by simp);(simp only[Zx,Zw]at c6'');have Hz6:=Y4 (Zy hz6);clear hz6 L6 h6)
     | (go_simp;go_at_call 42;refine(Xh s 5 (by omega) (by omega) _ B (M3.o.ext (Yl _).drew).t.src).mono ?_;rintro e wN ⟨v6,hv6,rfl,h6⟩;have MN:=Y4 (((M3.o.ext (Yl _).drew).next h6).ext ((Yl _).alloc (.cells #[.int .i64 769,.int .i64 776,.int .i64 803,.int .i64 837,.int .i64 945] 3)));have hwN:wI.heap.size≤wN.heap.size:=((M3.o.ext (Yl _).drew).next h6).t.chg.size;have L6:=L5 wN;obtain⟨z6,hz6⟩:∃ z,([769,776,803,837,945]:List Int)[v6]?=some z:=⟨_,Zz (by simp;omega)⟩;obtain⟨g6,o6,cc6,hvv6,_,_,_,hg6,cz6⟩:=Xx.get L6 hz6;(simp only[Ye,Yd,Zjp,Zjj,Zj6]at hvv6);obtain⟨⟨rfl,rfl⟩,-,rfl⟩:=hvv6;rw[Zjd]at cz6;have hlv:∀ h,([.int .i64 769,.int .i64 776,.int .i64 803,.int .i64 837,.int .i64 945]:List Value)[v6]'h=Value.int .i64 z6:=(fun h=>Zjy ((Zz h).symm.trans (show(([769,776,803,837,945]:List Int).map (Value.int .i64))[v6]?=some (.int .i64 z6) by rw[Zn,hz6];rfl)));have k0:(0:Int)≤(v6:Int):=(by omega);have k1:v6<5:=(by omega);have c6':=((M3.o.ext (Yl _).drew).next h6).box.at_ 1 (by simp);(simp only[Zx,Zw]at c6');have c6'':=MN.o.box.at_ 1 (by simp);(simp only[Zx,Zw]at c6'');have c6''':=(MN.o.box.ext ((Yl _).alloc (.cells #[.int .i64 z6] 3))).at_ 1 (by simp);(simp only[Zx,Zw]at c6''');have Hz6:=Y4 (Zy hz6);clear hz6 L6 h6)
     | ((refine Vj Wb (.tmp 41) (.tmp 47) 22 (by rfl) (by rfl) (by rfl) (by rfl) (MN.o.own.ext ((Yl _).alloc _)) (by rfl) (Wr (wN.alloc (.cells #[.int .i64 769,.int .i64 776,.int .i64 803,.int .i64 837,.int .i64 945] 3)) z6 _ (wN.heap.size+1) (by simp)) (by rw[hto];show 1+1≤_;omega) (by show 8≤1000;omega) (by simp;omega) ?_);intro A8 n8 c8 w8 hg8;have M8:=Y4 (MN.o.grow hto hg8);have cm8:=Y4 ((MN.o.box.ext ((Yl _).alloc (.cells #[.int .i64 z6] 3))).chg hg8.chg (fun e=>MN.o.ne e));have c8':=cm8.o.at_ 1 (by simp);have f8:=cm8.o.fz;simp only[Zx,Zw]at c8';clear hg8))
    all_goals
     go_wp2_with fail;go_meet;exact⟨_,_,M8.o,ToP.two Hx2.o Hz6.o⟩
   have d1:decide ((0:Int)<(v5:Int))=false:=Yg;go_wp2_with fail;go_meet;exact⟨_,_,M3.o,ToP.one_ Hx2.o⟩
  obtain⟨tv,to3,hM,htp⟩:=hcut;have M4:=Y4 hM;have Htp:=Y4 htp;clear hM M3 htp;rename World=>w6
  go_wp2_with fail;refine(Xh s 6 (by omega) (by omega) _ B M4.o.t.src).mono ?_;rintro e w7 ⟨v7,hv7,rfl,h7⟩;have M5:=Y4 (M4.o.next h7);clear h7 M4;obtain⟨q7,hq7⟩:=gnX (((v7:Int)==0));have hq8:(v7==0)=q7:=by rw[← hq7,Zib];simp
  have D1:=Y4 (D0.o.to M5.o.t);have c9:=D1.o.c9 hc;obtain⟨A9,C9,rfl,hlC9,hC9⟩:=D1.o.dOwn.shape;obtain⟨n9,hn9⟩:=gnX (dec.length);rw[hn9]at c9 D1 hlC9;have Hn9:=Y4 hn9;clear hn9;have Hto:=Y4 (show Xx w7 (fun q=>wI.heap.size≤q) tv to3 from M5.o.own.rd);obtain⟨At,Ct,rfl,hlt3,hct3⟩:=M5.o.own.shape;obtain⟨nt,hnt⟩:=gnX (to3.length);rw[hnt]at M5 hlt3 Hto;have Hnt:=Y4 hnt;have Htl:=Y4 (show to3.length≤2 from M5.o.l2);unfold maxLen at hC9 hct3;have c0:=(M5.o).box.at_ 0 (by simp);have c1:=(M5.o).box.at_ 1 (by simp);have fz:=(M5.o).box.fz;simp only[Zx,Zw]at c0 c1;clear hnt;go_wp2_with fail;go_loopw [58,6] (fun o t wx=>∃ (j:Nat) (q:Bool),j≤n9∧o=.int .i64 (j:Int)∧t=.bool q∧Ext w7 wx∧(q=false→∀ m∈dec.take j,m.1.to_≠to3)) (fun o _ _=>n9-(intOf o).toNat);case atStart=>exact⟨0,_,by omega,rfl,rfl,Yl _,fun _=>by simp⟩
  rename World=>wj
  obtain⟨j,q,hj,rfl,rfl,hxj,htw⟩:=hrel;have Xj:=Y4 hxj;have Htw:=Y4 htw;clear hxj htw c0 c1 c9 fz;by_cases hjn:j<n9
  ·obtain⟨hd_j,i0_j,i1_j⟩:=LTl j n9;obtain⟨m,hm⟩:=geX (l:=dec) (i:=j) (by rw[Hn9.o];exact hjn);have hown:=D1.o.dOwn.ext Xj.o;obtain⟨g9,c9',hv9,hb9,hg9,_,_⟩:=hown.some_ (by rw[Hn9.o];omega);rw[Hn9.o]at hv9;simp only[Ye,Zjj]at hv9;obtain⟨rfl,rfl⟩:=hv9;obtain⟨p0,p1⟩:=Zml hown hm;have hti:=((D1.o.tos m (Zy hm)).1).ext Xj.o
   obtain⟨Am,Cm,htv,hlm,hcm⟩:=hti.shape;rw[htv]at p1 hti;obtain⟨nm,hnm⟩:=gnX (m.1.to_.length);rw[hnm]at p1 hti;have Hti:=Y4 hti;have cm1:=(M5.o.box.ext (Xj.o.alloc (.cells #[.int .i64 m.1.fr,.slice Am nm Cm] 106))).at_ 1 (by simp);simp only[Zx,Zw]at cm1;have hlt7:=M5.o.box.lt;have hxs:=Xj.o.size;have Hmj:=Y4 hm;clear hown hm htv hnm hti;cases q with
   | true =>
    go_wp2_with fail;go_roundw;case rel=>exact⟨j+1,_,by omega,by go_num,rfl,Xj.o.alloc _,fun h=>by cases h⟩
    (simp[intOf];omega)
   | false =>
    go_wp2_with (go_at_call 26;refine(Zs6 _ _ m.1.to_ to3 _ (Hti.o.ext ((Yl _).alloc _)) (Hto.o.ext (Xj.o.alloc _))).mono ?_;rintro e w8 ⟨rfl,hx8⟩;obtain⟨r8,hr8⟩:=gnX (decide (m.1.to_=to3));have Hr8:=Y4 hr8;rw[hr8];clear hr8;have X8:=Y4 ((Xj.o.alloc _).trans hx8);clear hx8);go_roundw;case rel=>exact⟨j+1,_,by omega,by go_num,rfl,X8.o,fun h=>Zlq Hmj.o (by first|exact Htw.o rfl|exact Htw.o trivial) Hr8.o (by simpa using h)⟩
    (simp[intOf];omega)
  have hd_j:=GEl j n9;have Hall:=Y4 (show q=false→∀ x∈dec.map Subtype.val,x.to_≠to3 from fun h x hx=>by
   obtain⟨y,hy,rfl⟩:=Zjs.1 hx;exact Htw.o h y (by rw[Zm (by rw[Hn9.o];omega)];exact hy))
  have D2:=Y4 (D1.o.ext Xj.o);have M6:=Y4 (M5.o.ext Xj.o);have hIsz:=D0.o.dOwn.lt;have hEsz:=D0.o.eOwn.lt;have hZ:=D0.o.chg.size;have Hrow:=Y4 (show Xx wj (fun q=>w.heap.size≤q∧(Value.slice A9 n9 C9).ownBlock≠some q∧ev.ownBlock≠some q) (.slice At nt Ct) to3 from Rd.mono (Hto.o.ext Xj.o) fun q hq _=>⟨by omega,fun e=>by have:=(hIsz q (by rw[Hn9.o];exact e)).2;omega,fun e=>by have:=(hEsz q e).2;omega⟩);clear hIsz hEsz hZ D1 M5 Hto;go_upto_if 71 with fail;go_cut [] (fun wx=>∃ (ev2:Value) (exc2:List Int),F7 w wx B b s cs (.slice A9 n9 C9) dec ev2 exc2∧exc2.length≤k+1∧Xp wx mb [.int .i64 fr,.slice At nt Ct]∧Xx wx (fun q=>w.heap.size≤q∧(Value.slice A9 n9 C9).ownBlock≠some q∧ev2.ownBlock≠some q) (.slice At nt Ct) to3∧exc2=if q then exc++[fr]else exc);case first =>
   cases q
   ·go_wp2_with fail;go_meet;exact⟨_,_,D2.o,by have:=Hl2.o;omega,M6.o.box,Hrow.o,rfl⟩
   go_upto_region 16 with fail;have c10:=D2.o.c10 hc;obtain⟨A10,C10,rfl,hlC10,hC10⟩:=D2.o.eOwn.shape;obtain⟨n10,hn10⟩:=gnX (exc.length);rw[hn10]at c10 D2 Hrow hlC10;have Hn10:=Y4 hn10;have hn5:n10≤5:=by have:=Hl2.o;omega
   clear hn10;have c0:=(M6.o).box.at_ 0 (by simp);have c1:=(M6.o).box.at_ 1 (by simp);have fz:=(M6.o).box.fz;simp only[Zx,Zw]at c0 c1;have c10a:(wj.alloc (.cells #[.int .i64 fr] 3)).cell? ⟨b,10,none⟩=some (.slice A10 n10 C10):=(D2.o.ext ((Yl _).alloc _)).c10 hc;go_region_law (first
    | ((refine Vj Wb (.tmp 76) (.tmp 79) 22 (by rfl) (by rfl) (by rfl) (by rfl) (D2.o.eOwn.ext ((Yl _).drew.alloc _)) (by rfl) (Wr wj.drew fr _ _ rfl) (by rw[Hn10.o];show n10+1≤_;omega) (by show 8≤1000;omega) (by have:=D2.o.chg.size;simp;omega) ?_);intro A8 n8 c8 w8 hg8;have D8:=Y4 ((D2.o.ext (Yl _).drew).growE hc hg8);have c8':w8.cell? ⟨b,10,none⟩=some (.slice A10 n10 C10):=((((D2.o.ext (Yl _).drew).ext ((Yl _).alloc _)).box.chg hg8.chg (fun e=>by have:=(D2.o.eOwn.lt b e).1;have:=D2.o.bl;omega)).at_ 10 (by simp;omega)).trans (by simp[Yv];omega);have f8:=((((D2.o.ext (Yl _).drew).ext ((Yl _).alloc _)).box.chg hg8.chg (fun e=>by have:=(D2.o.eOwn.lt b e).1;have:=D2.o.bl;omega)).fz);have N8:=Y4 hg8.len;have G8:=Y4 hg8;clear hg8))
   all_goals
    go_wp2_with fail;go_meet;refine⟨_,_,D8.o,by rw[Zs,Hn10.o];show n10+1≤k+1;have:=Hl2.o;have:=Hn10.o;omega,?_,Zs3 (Hrow.o.ext (Yl _).drew) G8.o D2.o.bl,rfl⟩;exact(((M6.o.box.ext (Yl _).drew).ext ((Yl _).alloc _)).chg G8.o.chg (fun e=>by have:=(D0.o.eOwn.lt mb (by rw[Hn10.o];exact e)).2;have:=M6.o.lo;omega)).far (by have:=D2.o.bl;have:=D0.o.chg.size;have:=M6.o.lo;omega) _
  obtain⟨ev2,exc2,hD,hl2,hbx,hrw,hex⟩:=hcut;have Hex:=Y4 hex;rename World=>wk
  have D3:=Y4 hD;have Hl3:=Y4 hl2;have Hbx:=Y4 hbx;have Hrw:=Y4 hrw;clear hD hl2 hbx hrw hex;have c9:=D3.o.c9 hc;have c9a:(wk.alloc (.cells #[.int .i64 fr,.slice At nt Ct] 106)).cell? ⟨b,9,none⟩=some (.slice A9 n9 C9):=(D3.o.ext ((Yl _).alloc _)).c9 hc;have c0:=Hbx.o.at_ 0 (by simp);have c1:=Hbx.o.at_ 1 (by simp);simp only[Zx,Zw]at c0 c1;have hn5:n9≤5:=by have:=Hl1.o;have:=Hn9.o;omega
  go_upto_region 17 with fail;go_region_law (first
   | ((refine Vj mpE (.tmp 87) (.tmp 89) 32 (by rfl) (by rfl) (by rfl) (by rfl) (D3.o.dOwn.ext ((Yl _).drew.alloc _)) (by rfl) (Zt5 wk.drew fr At nt Ct to3 _ _ rfl) (by rw[Hn9.o];show n9+1≤_;omega) (by show 32≤1000;omega) (by have:=D3.o.chg.size;simp;omega) ?_);intro A8 n8 c8 w8 hg8;have D8:=Y4 ((D3.o.ext (Yl _).drew).growD hc (Hrw.o.ext (Yl _).drew) Htl.o hg8);have c8':w8.cell? ⟨b,9,none⟩=some (.slice A9 n9 C9):=((((D3.o.ext (Yl _).drew).ext ((Yl _).alloc _)).box.chg hg8.chg (fun e=>by have:=(D3.o.dOwn.lt b e).1;have:=D3.o.bl;omega)).at_ 9 (by simp;omega)).trans (by simp[Yv];omega);have f8:=((((D3.o.ext (Yl _).drew).ext ((Yl _).alloc _)).box.chg hg8.chg (fun e=>by have:=(D3.o.dOwn.lt b e).1;have:=D3.o.bl;omega)).fz);clear hg8))
  all_goals
   go_wp2_with fail;go_roundw;case rel =>
    refine⟨k+1,_,_,_,_,by omega,by go_num,D8.o,by rw[Zs,Hn9.o];show n9+1≤k+1;have:=Hl1.o;have:=Hn9.o;omega,Hl3.o,?_,?_,?_⟩
    ·rw[Yy,Zg2];refine⟨Hnd.o,by simp,fun x hx y hy e=>?_⟩;obtain⟨m,hm,rfl⟩:=Zjs.1 hx;have:=Hfr.o m hm;have hy2:y=fr:=by simpa using hy
     omega
    ·intro m hm;rcases Zj.1 hm with hm|hm
     ·have:=Hfr.o m hm;omega
     rw[Zi.1 hm];show fr<_;omega
    rw[Yy];exact Hdp.o.more (m:=⟨fr,.slice At nt Ct,to3⟩) hfr.symm Htp.o Hall.o Hex.o
   case measure=>(simp[intOf];omega)
 have hd_k:decide ((k:Int)<(5:Int))=false:=Yg;go_wp2_with fail;refine Ys (v:=.tuple #[]) (by simp[results,results47,go_sem]) rfl ⟨dv,dec,ev,exc,rfl,D0.o,by have:=Hl1.o;omega,Hnd.o,by have:=Hdp.o;rwa [show k=5 by omega]at this⟩
end
section
structure Gt(U:Nat→Prop)(w0 w:World)(B b s:Nat)(cs:List Value)(ix:Nat)(dv:Value)(dec:List MpS):Prop where
 src:Src B w s
 chg:Chg U w0 w
 box:Xp w b (cs.set ix dv)
 dOwn:Own mpE w w0.heap.size dv dec
 tos:∀ m∈dec,Xx w (fun k=>w0.heap.size≤k∧dv.ownBlock≠some k) m.1.tv m.1.to_∧m.1.to_.length≤18
 hU:∀ k,U k→k<w0.heap.size
 ub:U b
 us:U s
 bs:b≠s
 bB:B≤b
section
variable {U:Nat→Prop} {w0 w w':World} {B b s ix:Nat} {cs:List Value} {dv:Value} {dec:List MpS}
theorem Gt.to(h:Gt U w0 w B b s cs ix dv dec)(t:Vx B s w w'):Gt U w0 w' B b s cs ix dv dec :=
 have hsl:=h.hU s h.us
 ⟨t.src,h.chg.thenB t.chg (fun k _ e=>e▸h.us),h.box.chg t.chg h.bs,h.dOwn.chg t.chg (fun k hk e=>by have:=(h.dOwn.lt k hk).1;omega),
   fun m hm=>⟨(h.tos m hm).1.chg t.chg (fun k hk e=>by have:=hk.1;omega),(h.tos m hm).2⟩,h.hU,h.ub,h.us,h.bs,h.bB⟩
theorem Gt.ext(h:Gt U w0 w B b s cs ix dv dec)(x:Ext w w'):Gt U w0 w' B b s cs ix dv dec :=
 ⟨h.src.ext x,h.chg.trans (x.chg _),h.box.ext x,h.dOwn.ext x,fun m hm=>⟨(h.tos m hm).1.ext x,(h.tos m hm).2⟩,h.hU,h.ub,h.us,h.bs,h.bB⟩
theorem Gt.far{c j:Nat}(h:Gt U w0 w B b s cs ix dv dec)(hc:U c)(hcb:c≠b)(hcs:c≠s)(hB:B≤c)(u:Value):Gt U w0 (w.setCell ⟨c,j,none⟩ u) B b s cs ix dv dec :=
 have hcl:=h.hU c hc
 ⟨h.src.setCell (by show B≤c;exact hB) hcs u,h.chg.setCell (.inl hc) u,h.box.far (Ne.symm hcb) u,h.dOwn.far (fun e=>by have:=(h.dOwn.lt c e).1;omega) u,
   fun m hm=>⟨(h.tos m hm).1.chg ((Chg.refl (· = c) w).setCell (p:=⟨c,j,none⟩) (.inl rfl) u) (fun k hk e=>by have:=hk.1;omega),(h.tos m hm).2⟩,h.hU,h.ub,h.us,h.bs,h.bB⟩
theorem Gt.cell{j:Nat}{u:Value}(h:Gt U w0 w B b s cs ix dv dec)(hj:j≠ix)(hb:Xp w' b ((cs.set ix dv).set j u))(c:Chg (· = b) w w'):Gt U w0 w' B b s (cs.set j u) ix dv dec :=
 have hbl:=h.hU b h.ub;have hsl:=h.hU s h.us
 ⟨h.src.chg c (fun e=>h.bs e.symm) (fun k hk e=>by have:=h.bB;omega),h.chg.thenB c (fun k _ e=>e▸h.ub),by rw[List.set_comm _ _ hj];exact hb,h.dOwn.chg c (fun k hk e=>by have:=(h.dOwn.lt k hk).1;omega),
   fun m hm=>⟨(h.tos m hm).1.chg c (fun k hk e=>by have:=hk.1;omega),(h.tos m hm).2⟩,h.hU,h.ub,h.us,h.bs,h.bB⟩
theorem Gt.cx(h:Gt U w0 w B b s cs ix dv dec)(hc:ix<cs.length):w.cell? ⟨b,ix,none⟩=some dv:=by
 rw[h.box.at_ ix (by simpa using hc),Yv,Zjx rfl,Zjx hc]
theorem Gt.grow{A:Option Addr}{n c:Nat}{m:MpS}{o:Obj}(h:Gt U w0 w B b s cs ix dv dec)(hix:ix<cs.length)(hm:Xx w (fun k=>w0.heap.size≤k∧dv.ownBlock≠some k) m.1.tv m.1.to_)(hm2:m.1.to_.length≤18)
 (hg:Grew mpE (w.alloc o) w0.heap.size dv (dec++[m]) A n c w'):Gt U w0 (w'.setCell ⟨b,ix,none⟩ (.slice A n c)) B b s cs ix (.slice A n c) (dec++[m]):=by
 have hsl:=h.hU s h.us;have hbl:=h.hU b h.ub;have hlt:∀ k,dv.ownBlock=some k→w0.heap.size≤k:=fun k hk=>(h.dOwn.lt k hk).1
 have hat:∀ k,(Value.slice A n c).ownBlock=some k→dv.ownBlock=some k∨k=(w.alloc o).heap.size:=fun k hk=>by
  rcases hg.at_ with h1|h1
  ·exact .inl (by rw[← h1];exact hk)
  rw[hk]at h1;exact .inr (Zjy h1)
 refine⟨?_,?_,?_,?_,?_,h.hU,h.ub,h.us,h.bs,h.bB⟩
 ·exact(((h.src.alloc o).chg hg.chg (fun e=>by have:=hlt s e;omega) (fun k hk e=>by have:=hlt k e;have:=h.src.ge;omega))).setCell h.bB (by show b≠s;exact h.bs) _
 ·exact((h.chg.alloc o).thenB hg.chg (fun k hk e=>by have:=hlt k e;omega)).setCell (.inl h.ub) _
 ·have h1:=(h.box.ext ((Yl _).alloc o)).chg hg.chg (fun e=>by have:=hlt b e;omega);have h2:=h1.set (j:=ix) (by simpa using hix) (.slice A n c)
  rwa [Zh5]at h2
 ·exact hg.own.far (fun e=>by have:=(hg.own.lt b e).1;omega) _
 intro q hq;have key:∀ {v:Value} {l:List Int},Xx w (fun k=>w0.heap.size≤k∧dv.ownBlock≠some k) v l→Xx (w'.setCell ⟨b,ix,none⟩ (.slice A n c)) (fun k=>w0.heap.size≤k∧(Value.slice A n c).ownBlock≠some k) v l:=by
  intro v l h1;have h3:Xx (w.alloc o) (fun k=>(w0.heap.size≤k∧dv.ownBlock≠some k)∧k<w.heap.size) v l:=Xx.ext (Rd.mono h1 fun k hk hl=>⟨hk,hl⟩) ((Yl _).alloc o);have h4:=(h3.chg hg.chg (fun k hk e=>hk.1.2 e)).chg ((Chg.refl (· = b) w').setCell (p:=⟨b,ix,none⟩) (.inl rfl) (.slice A n c)) (fun k hk e=>by have:=hk.1.1;omega);exact Rd.mono h4 fun k hk _=>⟨hk.1.1,fun e=>by
   rcases hat k e with h5|h5
   ·exact hk.1.2 h5
   have:=hk.2;simp at h5;omega⟩
 rcases Zj.1 hq with hq|hq
 ·exact⟨key (h.tos q hq).1,(h.tos q hq).2⟩
 rw[Zi.1 hq];exact⟨key hm,hm2⟩
theorem Zp7{A:Option Addr}{n c:Nat}{m:MpS}{o:Obj}{u:Value}{l:List Sp}(h:Gt U w0 w B b s cs ix dv dec)(hu:Vp w (fun k=>w0.heap.size≤k∧dv.ownBlock≠some k) u l)(hg:Grew mpE (w.alloc o) w0.heap.size dv (dec++[m]) A n c w')(x:Value) :
 Vp (w'.setCell ⟨b,ix,none⟩ x) (fun k=>w0.heap.size≤k∧(Value.slice A n c).ownBlock≠some k) u l:=by
 have hbl:=h.hU b h.ub;have h3:Vp (w.alloc o) (fun k=>(w0.heap.size≤k∧dv.ownBlock≠some k)∧k<w.heap.size) u l:=Vp.ext (Rd.mono hu fun k hk hl=>⟨hk,hl⟩) ((Yl _).alloc o);have h4:=(h3.chg hg.chg (fun k hk e=>hk.1.2 e)).chg ((Chg.refl (· = b) w').setCell (p:=⟨b,ix,none⟩) (.inl rfl) x) (fun k hk e=>by have:=hk.1.1;omega);exact Rd.mono h4 fun k hk _=>⟨hk.1.1,fun e=>by
  rcases hg.at_ with h1|h1
  ·exact hk.1.2 (h1.symm.trans e)
  rw[e]at h1;have:=hk.2;simp at h1;omega⟩
end
end
abbrev iV:Int→Value:=Value.int .i64
theorem Gt.back{U:Nat→Prop}{w W1 w':World}{B b s ix:Nat}{cs:List Value}{dv:Value}{dec:List MpS}(h:Gt U W1 w' B b s cs ix dv dec)(x:Ext w W1)(hU:∀ k,U k→k<w.heap.size):Gt U w w' B b s cs ix dv dec :=
 ⟨h.src,(x.chg U).trans h.chg,h.box,h.dOwn.base x.size,fun m hm=>⟨Rd.mono (h.tos m hm).1 fun k hk _=>⟨Zjw x.size hk.1,hk.2⟩,(h.tos m hm).2⟩,hU,h.ub,h.us,h.bs,h.bB⟩
def Zv8(U:Nat→Prop)(w0:World)(B b s:Nat)(cs:List Value)(e:Ending)(w':World):Prop :=
 ∃ (dv:Value) (dec:List MpS) (u:Value) (l:List Sp),e=.returned (.tuple #[])∧Gt U w0 w' B b s (cs.set 5 u) 8 dv dec∧dec.length≤28∧Vp w' (fun k=>w0.heap.size≤k) u l∧l.length≤28∧Zom (dec.map Subtype.val) l 28
theorem Ztj(U:Nat→Prop)(B b s gs C:Nat)(cs:List Value)(st:List Int)(w:World)(h:Gt U w w B b s cs 8 (.slice none 0 0) [])(hcl:cs.length=12)(h5:cs[5]?=some (.slice none 0 0))
 (hst:Xp w gs (st.map iV)) (hsl:st.length=28) (hug:U gs) (hgb:gs≠b) (hgs:gs≠s) (hBg:B≤gs) (hC:28≤C) (hs3:∀ z∈st,0≤z∧z≤4∧z≠3) :
 Calls prog 48 #[.pointer (some ⟨s,0,none⟩),.pointer (some ⟨b,0,none⟩),.slice (some ⟨gs,0,none⟩) 28 C] w (Zv8 U w B b s cs):=by
 have H:=Y4 h;have Hst:=Y4 hst;have H5:=Y4 h5;have Hsl:=Y4 hsl;have Hs3:=Y4 hs3;clear h hst h5 hsl hs3;go_enter func48,ntmps48;go_wp2_with fail;refine(Zy2 _).mono ?_;rintro e w1 ⟨pv,rfl,hrow,hx1⟩;obtain⟨Ap,Cp,rfl,hlp,hcp⟩:=Xx.shape hrow;have hp28:Ku.length=28:=rfl;rw[hp28]at hrow hlp⊢;have Hrow:=Y4 hrow;have HX1:=Y4 hx1;unfold maxLen at hcp;have hs1:=hx1.size;have hU:=H.o.hU;have G00:=Y4 (show Gt U w1 w1 B b s (cs.set 5 (.slice none 0 0)) 8 (.slice none 0 0) [] from by
  have g:=H.o.ext hx1;refine⟨g.src,Chg.refl _ _,?_,Own.nil _ _ _,by simp,fun k hk=>Zk8 (hU k hk) hs1,g.ub,g.us,g.bs,g.bB⟩;rw[Gi H5.o];exact g.box)
 have B00:=Y4 (Hst.o.ext hx1);clear hrow hx1 hp28;go_wp2_with fail;go_loopw [13] (fun o wx=>∃ (i:Nat) (dv:Value) (dec:List MpS) (u:Value) (l:List Sp) (st:List Int),i≤28∧o=.int .i64 (i:Int)∧Gt U w1 wx B b s (cs.set 5 u) 8 dv dec∧dec.length≤i∧Vp wx (fun k=>w1.heap.size≤k∧dv.ownBlock≠some k) u l∧l.length≤i∧Xp wx gs (st.map iV)∧st.length=28∧Zom (dec.map Subtype.val) l i∧(∀ (j:Nat) z,i≤j→st[j]?=some z→0≤z∧z≤4∧z≠3)) (fun o _=>28-(intOf o).toNat);case atStart=>exact⟨0,_,[],_,[],st,by omega,rfl,G00.o,by simp,Rd.nil ..,by simp,B00.o,Hsl.o,⟨SpP.nil _ _,by simp,by simp,by simp⟩,fun j z _ h=>Hs3.o z (Zy h)⟩
 rename World=>wx
 clear Hst Hsl B00 G00 Hs3;obtain⟨i,dv,dec,u,l,st,hi,rfl,hg,hl,hsp,hl2,hbs,hsl,hmp,hs3⟩:=hrel;have Hmp:=Y4 hmp;have Hs3:=Y4 hs3;have G0:=Y4 hg;have Hl:=Y4 hl;have S0:=Y4 hsp;have Hl2:=Y4 hl2;have B0:=Y4 hbs;have Hsl:=Y4 hsl;clear hg hl hsp hl2 hbs hsl hmp hs3;by_cases hi28:i<28
 ·have hd_i:decide ((i:Int)<(28:Int))=true:=Yf;have i0_i:(0:Int)≤(i:Int):=by omega
  have i1_i:(i:Int)<(28:Int):=by omega
  obtain⟨c,hc⟩:∃ c,Ku[i]?=some c:=⟨Ku[i]'(show i<28 from hi28),Zz _⟩;have hrow':Xx wx (fun k=>w.heap.size≤k) (.slice Ap 28 Cp) Ku:=Rd.chg Hrow.o G0.o.chg (fun k hk e=>by have:=hU k e;omega);obtain⟨gp,op,cp,hvv,_,_,_,hgp,cz⟩:=Xx.get hrow' hc;rw[show Ku.length=28 from rfl]at hvv;simp only[Ye,Zjj]at hvv;obtain⟨rfl,rfl⟩:=hvv;have Hc:=Y4 hc;clear hc hrow';go_upto_region 4 with fail;go_cut [32] (fun o wq=>∃ q:Bool,o=.bool q∧Vx B s wx wq∧(q=true→c∈([947,7684,128512]:List Int)));case first =>
   by_cases h1:c=128512
   ·have e1:(c==128512)=true:=by simp[h1]
    have Hin:=Y4 (show c∈([947,7684,128512]:List Int) by simp[h1]);clear h1;go_wp2_with fail;go_meet;exact⟨_,rfl,Vx.start G0.o.src,fun _=>Hin.o⟩
   have e1:(c==128512)=false:=by simp[h1]
   clear h1;by_cases h2:c=7684
   ·have e2:(c==7684)=true:=by simp[h2]
    have Hin:=Y4 (show c∈([947,7684,128512]:List Int) by simp[h2]);clear h2;go_wp2_with fail;go_meet;exact⟨_,rfl,Vx.start G0.o.src,fun _=>Hin.o⟩
   have e2:(c==7684)=false:=by simp[h2]
   clear h2;by_cases h3:c=947
   ·have e3:(c==947)=true:=by simp[h3]
    have Hin:=Y4 (show c∈([947,7684,128512]:List Int) by simp[h3]);clear h3;go_wp2_with fail;refine(Xh s 2 (by omega) (by omega) _ B G0.o.src).mono ?_;rintro e w5 ⟨v5,hv5,rfl,h5⟩;obtain⟨q5,hq5⟩:=gnX (((v5:Int)==0));have hq6:(v5==0)=q5:=by rw[← hq5,Zib];simp
    go_wp2_with fail;go_meet;exact⟨_,rfl,h5,fun _=>Hin.o⟩
   have e3:(c==947)=false:=by simp[h3]
   clear h3;go_wp2_with fail;go_meet;exact⟨_,rfl,Vx.start G0.o.src,fun h=>by cases h⟩
  obtain⟨q,rfl,hT,hin⟩:=hcut;have Hin:=Y4 hin;rename World=>wc
  have hsw:=H.o.hU s H.o.us;have G1:=Y4 (G0.o.to hT);have S1:=Y4 (show Vp wc (fun k=>w1.heap.size≤k∧dv.ownBlock≠some k) u l from Rd.chg S0.o hT.chg (fun k hk e=>by have:=hk.1;omega));have B1:=Y4 (B0.o.chg hT.chg (show ¬ gs=s from hgs));obtain⟨si,hsi⟩:=geX (l:=st) (i:=i) (by rw[Hsl.o];exact hi28);have Hsi:=Y4 hsi;have Hsb:=Y4 (Hs3.o i si (Yn _) hsi);clear hT cz hin hsi;go_upto_if 32 with fail;go_cut [] (fun wq=>∃ (dv:Value) (dec:List MpS) (st:List Int) (si:Int),Gt U w1 wq B b s (cs.set 5 u) 8 dv dec∧dec.length≤i+1∧Vp wq (fun k=>w1.heap.size≤k∧dv.ownBlock≠some k) u l∧Xp wq gs (st.map iV)∧st.length=28∧st[i]?=some si∧Zla (dec.map Subtype.val) l i c si∧(∀ (j:Nat) z,i<j→st[j]?=some z→0≤z∧z≤4∧z≠3));case first =>
   cases q with
   | false =>
    go_wp2_with fail;go_meet;exact⟨_,_,_,si,G1.o,by have:=Hl.o;omega,S1.o,B1.o,Hsl.o,Hsi.o,Hmp.o.same c Hsb.o.2.1 Hsb.o.2.2,fun j z hj h=>Hs3.o j z (by omega) h⟩
   | true =>
    go_wp2_with fail;refine(Xh s 3 (by omega) (by omega) _ B G1.o.src).mono ?_;rintro e w2 ⟨v2,hv2,rfl,h2⟩;have T2:=Y4 h2;clear h2;obtain⟨z2,hz2⟩:∃ z:Int,97+(v2:Int)=z:=⟨_,rfl⟩;have rz:IntKind.i64.wrap (97+(v2:Int))=z2:=by rw[Yp _ (by omega)];exact hz2
    have Hz2:=Y4 (show 97≤z2∧z2≤99 by omega);clear hz2;have hslc:=G1.o.src.lt;have hw2:=T2.o.chg.size;have M0:=Y4 (show Ou B s wc ((w2.alloc (.cells #[.int .i64 z2] 3)).alloc (.cells #[.int .i64 c,.slice (some ⟨w2.heap.size,0,none⟩) 1 1] 106)) (w2.heap.size+1) c (.slice (some ⟨w2.heap.size,0,none⟩) 1 1) [z2] from
     ⟨(T2.o.alloc _).alloc _,Zoc w2 z2 c _ _,(Zyf w2 z2 _ hw2).ext ((Yl _).alloc _),by simp[Value.ownBlock],by omega,by simp,by simp,hslc⟩)
    go_upto_region 6 with fail;obtain⟨mb,hmb⟩:=gnX (w2.heap.size+1);obtain⟨tb,htb⟩:=gnX (w2.heap.size);obtain⟨W3,hW3⟩:=gnX ((w2.alloc (.cells #[.int .i64 z2] 3)).alloc (.cells #[.int .i64 c,.slice (some ⟨w2.heap.size,0,none⟩) 1 1] 106));rw[hW3,hmb,htb]at M0;rw[hW3,hmb,htb];clear hW3 hmb htb T2 hslc hw2 rz;go_wp2_with fail;refine(Xh s 2 (by omega) (by omega) _ B M0.o.t.src).mono ?_;rintro e w4 ⟨v4,hv4,rfl,h4⟩;have M1:=Y4 (M0.o.next h4);clear h4 M0;go_upto_if 41 with fail;go_cut [] (fun wq=>∃ (tv:Value) (to3:List Int),Ou B s wc wq mb c tv to3∧∃ v:Int,97≤v∧v≤99∧(to3=[v]∨to3=[v,46]));case first =>
     by_cases hv0:v4=0
     ·subst hv0;have c0:=(M1.o).box.at_ 0 (by simp);have c1:=(M1.o).box.at_ 1 (by simp);have fz:=(M1.o).box.fz;simp only[Zx,Zw]at c0 c1;have hml:=M1.o.box.lt;go_wp2_with (at_builtin;refine Bj Wb _ _ _ rfl rfl rfl rfl (M1.o.own.ext ((Yl _).alloc _)) rfl (Wr w4 46 _ _ rfl) (by show 1+1≤maxLen;unfold maxLen;omega) (by show(1+1)*8≤_;omega) (by have:=M1.o.t.chg.size;simp;omega) ?_;intro A8 n8 c8 w8 hg8;have M8:=Y4 (M1.o.grow rfl hg8);have cm8:=Y4 ((M1.o.box.ext ((Yl _).alloc (.cells #[.int .i64 46] 3))).chg hg8.chg (fun e=>M1.o.ne e));have c8':=cm8.o.at_ 1 (by simp);have f8:=cm8.o.fz;simp only[Zx,Zw]at c8';clear hg8);go_meet;exact⟨_,_,M8.o,z2,Hz2.o.1,Hz2.o.2,.inr rfl⟩
     have e1:((v4:Int)==0)=false:=by simp;omega
     have e2:(v4==0)=false:=by simp;omega
     have e3:¬ (v4:Int)=0:=by omega
     clear hv0;go_wp2_with fail;go_meet;exact⟨_,_,M1.o,z2,Hz2.o.1,Hz2.o.2,.inl rfl⟩
    obtain⟨tv,to3,hM,hto3⟩:=hcut;rename World=>w5
    have M2:=Y4 hM;have Hto3:=Y4 hto3;clear hM M1 hto3;go_wp2_with fail;refine(Xh s 3 (by omega) (by omega) _ B M2.o.t.src).mono ?_;rintro e wk ⟨v6,hv6,rfl,h6⟩;have M3:=Y4 (M2.o.next h6);clear h6 M2;have G3:=Y4 (G1.o.to M3.o.t);have S3:=Y4 (show Vp wk (fun k=>w1.heap.size≤k∧dv.ownBlock≠some k) u l from Rd.chg S1.o M3.o.t.chg (fun k hk e=>by have:=hk.1;omega));have B3:=Y4 (B1.o.chg M3.o.t.chg (show ¬ gs=s from hgs));by_cases hv0:0<v6
    ·have d1:decide ((0:Int)<(v6:Int))=true:=Yf;obtain⟨A11,C11,rfl,hlC11,hC11⟩:=G3.o.dOwn.shape;have c11:=G3.o.cx (by simp[hcl]);have c11a:(wk.alloc (.cells #[.int .i64 c,tv] 106)).cell? ⟨b,8,none⟩=some (.slice A11 dec.length C11):=(G3.o.ext ((Yl _).alloc _)).cx (by simp[hcl]);have Hr7:=Y4 (show Xx wk (fun k=>w1.heap.size≤k∧(Value.slice A11 dec.length C11).ownBlock≠some k) tv to3 from by
      have h1:Xx wk (fun k=>wc.heap.size≤k) tv to3:=M3.o.own.rd;have h2:=G1.o.chg.size;exact Rd.mono h1 fun k hk _=>⟨by omega,fun e=>by have:=(G1.o.dOwn.lt k e).2;omega⟩)
     obtain⟨At,Ct,rfl,hlt3,hct3⟩:=M3.o.own.shape;obtain⟨nt,hnt⟩:=gnX (to3.length);rw[hnt]at M3 hlt3 Hr7 c11a;have Hnt:=Y4 hnt;have Htl:=Y4 (show to3.length≤2 from M3.o.l2);obtain⟨n11,hn11⟩:=gnX (dec.length);rw[hn11]at c11 c11a G3 Hr7 hlC11 S3;have Hn11:=Y4 hn11;have hn5:n11≤28:=by have:=Hl.o;omega
     unfold maxLen at hC11 hct3;have c0:=(M3.o).box.at_ 0 (by simp);have c1:=(M3.o).box.at_ 1 (by simp);have fz:=(M3.o).box.fz;simp only[Zx,Zw]at c0 c1;clear hn11 hnt G1 S1 B1;go_upto_region 9 with fail;go_region_law (first
      | ((refine Vj mpE (.tmp 54) (.tmp 56) 32 (by rfl) (by rfl) (by rfl) (by rfl) (G3.o.dOwn.ext ((Yl _).drew.alloc _)) (by rfl) (Zt5 wk.drew c At nt Ct to3 _ _ rfl) (by rw[Hn11.o];show n11+1≤_;omega) (by show 32≤1000;omega) (by have:=G3.o.chg.size;simp;omega) ?_);intro A8 n8 c8 w8 hg8;have G8:=Y4 ((G3.o.ext (Yl _).drew).grow (by simp[hcl]) (Hr7.o.ext (Yl _).drew) (by show to3.length≤18;have:=Htl.o;omega) hg8);have c8':w8.cell? ⟨b,8,none⟩=some (.slice A11 n11 C11):=((((G3.o.ext (Yl _).drew).ext ((Yl _).alloc _)).box.chg hg8.chg (fun e=>by have:=(G3.o.dOwn.lt b e).1;have:=hU b G3.o.ub;omega)).at_ 8 (by simp[hcl])).trans (by simp[Yv,hcl]);have f8:=((((G3.o.ext (Yl _).drew).ext ((Yl _).alloc _)).box.chg hg8.chg (fun e=>by have:=(G3.o.dOwn.lt b e).1;have:=hU b G3.o.ub;omega)).fz);have S8:=Y4 (Zp7 (G3.o.ext (Yl _).drew) (Vp.ext S3.o (Yl _).drew) hg8 (.slice A8 n8 c8));have B8:=Y4 ((((B3.o.ext (Yl _).drew).ext ((Yl _).alloc _)).chg hg8.chg (fun e=>by have:=(G3.o.dOwn.lt gs e).1;have:=hU gs hug;omega)).far (j:=8) (c:=b) hgb (.slice A8 n8 c8));have fg8:=B8.o.fz i;have cg8:=B8.o.at_ i (by rw[Zq,Hsl.o];exact hi28);clear hg8))
     all_goals
      rw[Zn,Hsi.o]at cg8;simp only[Zil]at cg8;go_wp2_with fail;go_meet;refine⟨_,_,st.set i 3,3,G8.o.far hug hgb hgs hBg _,by rw[Zs,Hn11.o];show n11+1≤i+1;have:=Hl.o;have:=Hn11.o;omega,?_,?_,by rw[Zf];exact Hsl.o,Zc (by rw[Hsl.o];exact hi28),?_,fun j z hj h=>Hs3.o j z (by omega) (by rwa [Zb (by omega)]at h)⟩
      ·exact Rd.chg S8.o ((Chg.refl (· = gs) _).setCell (p:=⟨gs,i,none⟩) (.inl rfl) _) (fun k hk e=>by have:=hk.1;have:=hU gs hug;omega)
      ·have:=B8.o.set (j:=i) (by rw[Zq,Hsl.o];exact hi28) (.int .i64 3);rw[Zi4];exact this
      rw[Yy];exact Hmp.o.more ⟨c,.slice At nt Ct,to3⟩ (by first|exact Hin.o rfl|exact Hin.o trivial) Hto3.o
    have d1:decide ((0:Int)<(v6:Int))=false:=Yg;go_wp2_with fail;go_meet;exact⟨_,_,_,si,G3.o,by have:=Hl.o;omega,S3.o,B3.o,Hsl.o,Hsi.o,Hmp.o.same c Hsb.o.2.1 Hsb.o.2.2,fun j z hj h=>Hs3.o j z (by omega) h⟩
  clear G0 S0 B0 G1 S1 B1 Hl Hsl Hmp Hs3 Hsi Hsb si;obtain⟨dv,dec,st,si,hg,hl,hs,hb,hsl,hsi,hmq,hs3⟩:=hcut;rename World=>w5
  have G4:=Y4 hg;have Hl:=Y4 hl;have S4:=Y4 hs;have B4:=Y4 hb;have Hsl:=Y4 hsl;have Hmq:=Y4 hmq;have Hs3:=Y4 hs3;clear hg hl hs hb hsl hmq hs3;have cg:=B4.o.at_ i (by rw[Zq,Hsl.o];exact hi28);rw[Zn,hsi]at cg;simp only[Zil]at cg;have mg:=lat cg;clear hsi;go_upto_region 11 with fail;go_region_with (go_at_call 46;refine(add_any b 5 ((cs.set 5 u).set 8 dv) u l c c 0 si _ ((G4.o.ext (Yl _).drew).box) (by simp[Yv,hcl]) (Vp.ext S4.o (Yl _).drew) (fun e=>by have:=hU b G4.o.ub;have:=e.1;omega) (by have:=Hl2.o;omega)).mono ?_;rintro e w7 ⟨u7,l7,rfl,hb7,hs7,hl7,hc7⟩;have B7:=Y4 hb7;have S7:=Y4 hs7;have L7:=Y4 hl7;have C7:=Y4 hc7;clear hb7 hs7 hl7 hc7);all_goals
   go_wp2_with fail;go_roundw;case rel =>
    refine⟨i+1,dv,dec,u7,l7,st,by omega,by go_num,?_,Hl.o,?_,by have:=(Hmq.o.next Hc.o (by rcases L7.o with h|h;exact .inl h;exact .inr ⟨by have:=h.1;omega,h.2⟩)).sp.len;omega,?_,Hsl.o,Hmq.o.next Hc.o (by rcases L7.o with h|h;exact .inl h;exact .inr ⟨by have:=h.1;omega,h.2⟩),fun j z hj h=>Hs3.o j z (by omega) h⟩
    ·have:=(G4.o.ext (Yl _).drew).cell (j:=5) (by omega) B7.o C7.o
     rwa [Zh5]at this
    ·exact Rd.mono S7.o fun k hk _=>by
      rcases hk with hk|hk
      ·exact hk
      have h9:=G4.o.chg.size;have hk':w5.heap.size≤k:=hk;exact⟨by omega,fun e=>by have:=(G4.o.dOwn.lt k e).2;omega⟩
    exact((B4.o.ext (Yl _).drew).chg C7.o hgb)
   case measure=>(simp[intOf];omega)
 have hd_i:decide ((i:Int)<(28:Int))=false:=Yg;go_wp2_with fail;refine Ys (v:=.tuple #[]) (by simp[results,results48,go_sem]) rfl ⟨dv,dec,u,l,rfl,G0.o.back HX1.o hU,by have:=Hl.o;omega,Rd.mono S0.o fun k hk _=>by have:=hk.1;omega,by have:=Hl2.o;omega,by have:=Hmp.o;rwa [show i=28 by omega]at this⟩
