/- Lemmas of this claim: Ke, Km, Kq, Kp. Conditions: as named. -/
import Derived.Test.YtnbclgbicnpmnaaGreatA23
namespace Go.Proofs.YtnbclgbicnpmnaaGreat
open Go.RowKit Go.Sort Go.Proofs.Tryz
set_option maxHeartbeats 0
set_option maxRecDepth 100000
set_option linter.all false
section
section
variable {w0 w w':World} {B b s:Nat} {cs:List Value} {dv ev:Value} {dec:List MpS} {exc:List Int}
theorem Mq.c9(h:Mq w0 w B b s cs dv dec ev exc)(hc:10<cs.length):w.cell? ⟨b,9,none⟩=some dv:=by
 rw[h.box.at_ 9 (by simp;omega)];simp[Yv];omega
theorem Mq.c10(h:Mq w0 w B b s cs dv dec ev exc)(hc:10<cs.length):w.cell? ⟨b,10,none⟩=some ev:=by
 rw[h.box.at_ 10 (by simp;omega)];simp[Yv];omega
end
theorem Zkv(w:World)(z fr:Int)(t t2:TypeId):Xm ((w.alloc (.cells #[.int .i64 z] t)).alloc (.cells #[.int .i64 fr,.slice (some ⟨w.heap.size,0,none⟩) 1 1] t2)) (w.heap.size+1) [.int .i64 fr,.slice (some ⟨w.heap.size,0,none⟩) 1 1]:=by
 have:=Xm.new (w.alloc (.cells #[.int .i64 z] t)) #[.int .i64 fr,.slice (some ⟨w.heap.size,0,none⟩) 1 1] t2
 rwa [show(w.alloc (.cells #[.int .i64 z] t)).heap.size=w.heap.size+1 by simp]at this
theorem Zwo(w:World)(z:Int)(B:Nat)(hB:B≤w.heap.size):Own Ww (w.alloc (.cells #[.int .i64 z] 3)) B (.slice (some ⟨w.heap.size,0,none⟩) 1 1) [z] :=
 ⟨rfl,.inr ⟨w.heap.size,1,_,rfl,hB,Zg3 w _,Ym _,by unfold maxLen;omega,rfl,rfl⟩⟩
theorem Zqi(w:World)(fr:Int)(A:Option Addr)(n c:Nat)(l:List Int)(t:TypeId)(g:Nat)(hg:w.heap.size=g):RdE mpE (w.alloc (.cells #[.int .i64 fr,.slice A n c] t)) (fun _=>True) (.slice (some ⟨g,0,none⟩) 1 1) [⟨⟨fr,.slice A n c,l⟩,rfl⟩]:=by
 subst hg;exact Qh w #[.int .i64 fr,.slice A n c] t 2 rfl
theorem Zpg{α:Type}{E:Enc α}{w w':World}{Z b j:Nat}{dv ev x u:Value}{L:List α}{l:List Int}{o:Obj}{A:Option Addr}{n c:Nat}(h:Xw w (fun k=>Z≤k∧dv.ownBlock≠some k∧ev.ownBlock≠some k) x l)(hg:Grew E (w.alloc o) Z ev L A n c w')(hb:b<Z) :
 Xw (w'.setCell ⟨b,j,none⟩ u) (fun k=>Z≤k∧dv.ownBlock≠some k∧(Value.slice A n c).ownBlock≠some k) x l:=by
 have h3:Xw (w.alloc o) (fun k=>(Z≤k∧dv.ownBlock≠some k∧ev.ownBlock≠some k)∧k<w.heap.size) x l:=Xw.ext (Rd.mono h fun k hk hl=>⟨hk,hl⟩) ((Yk _).alloc o);have h4:=(h3.chg hg.chg (fun k hk e=>hk.1.2.2 e)).chg ((Chg.refl (· = b) w').setCell (p:=⟨b,j,none⟩) (.inl rfl) u) (fun k hk e=>by have:=hk.1.1;omega);exact Rd.mono h4 fun k hk _=>⟨hk.1.1,hk.1.2.1,fun e=>by
  rcases hg.at_ with h1|h1
  ·exact hk.1.2.2 (h1.symm.trans e)
  rw[e]at h1;have:=hk.2;simp at h1;omega⟩
theorem Zj8{w:World}{B n c g:Nat}{l:List MpS}(h:Own mpE w B (.slice (some ⟨g,0,none⟩) n c) l){j:Nat}{m:MpS}(hj:l[j]?=some m):w.cell? ⟨g,j*2,none⟩=some (.int .i64 m.1.fr)∧w.cell? ⟨g,j*2+1,none⟩=some m.1.tv:=by
 have hj2:(l.map Subtype.val)[j]?=some m.1:=by rw[Zn,hj];rfl
 obtain⟨h1,h2⟩:=Uh hj2;exact⟨h.at_ h1,h.at_ h2⟩
def Zze(w0:World)(B b s:Nat)(cs:List Value)(e:Ending)(w':World):Prop :=
 ∃ (dv:Value) (dec:List MpS) (ev:Value) (exc:List Int),e=.returned (.tuple #[])∧Mq w0 w' B b s cs dv dec ev exc∧dec.length≤5∧(dec.map fun m=>m.1.fr).Nodup∧Aj (dec.map Subtype.val) exc 5
theorem Zyu(B b s:Nat)(cs:List Value)(w:World)(hc:10<cs.length)(h:Mq w w B b s cs (.slice none 0 0) [] (.slice none 0 0) []):Calls prog 47 #[.pointer (some ⟨s,0,none⟩),.pointer (some ⟨b,0,none⟩)] w (Zze w B b s cs):=by
 have H:=Y8 h;clear h;go_enter func47,ntmps47;go_wp2_with fail;go_loopw [4] (fun o wr=>∃ (k:Nat) (dv:Value) (dec:List MpS) (ev:Value) (exc:List Int),k≤5∧o=.int .i64 (k:Int)∧Mq w wr B b s cs dv dec ev exc∧dec.length≤k∧exc.length≤k∧(dec.map fun m=>m.1.fr).Nodup∧(∀ m∈dec,m.1.fr<7680+(k:Int))∧Aj (dec.map Subtype.val) exc k) (fun o _=>5-(intOf o).toNat);case atStart=>exact⟨0,_,[],_,[],by omega,rfl,H.o,by simp,by simp,by simp,by simp,Aj.nil⟩
 obtain⟨k,dv,dec,ev,exc,hk,rfl,hd,hl1,hl2,hnd,hfr,hdp⟩:=hrel;rename World=>wI
 have D0:=Y8 hd;have Hl1:=Y8 hl1;have Hl2:=Y8 hl2;have Hnd:=Y8 hnd;have Hfr:=Y8 hfr;have Hdp:=Y8 hdp;clear hd hl1 hl2 hnd hfr hdp;by_cases hk5:k<5
 ·have hd_k:decide ((k:Int)<(5:Int))=true:=Ye;have i0_k:(0:Int)≤(k:Int):=by omega
  have i1_k:(k:Int)<(5:Int):=by omega
  go_wp2_with fail;refine(Xc s 4 (by omega) (by omega) _ B D0.o.src).mono ?_;rintro e w1 ⟨v1,hv1,rfl,h1⟩;have T1:=Y8 h1;clear h1;by_cases hv10:v1=0
  ·subst hv10;go_wp2_with fail;go_roundw;case rel=>exact⟨k+1,dv,dec,ev,exc,by omega,by go_num,D0.o.to T1.o,by have:=Hl1.o;omega,by have:=Hl2.o;omega,Hnd.o,fun m hm=>by have:=Hfr.o m hm;omega,Hdp.o.up⟩
   (simp[intOf];omega)
  have e1:((v1:Int)==0)=false:=by simp;omega
  have e2:(v1==0)=false:=by simp;omega
  have e3:¬ (v1:Int)=0:=by omega
  clear hv10;obtain⟨fr,hfr⟩:∃ z:Int,7680+(k:Int)=z:=⟨_,rfl⟩;have rf:IntKind.i64.wrap (7680+(k:Int))=fr:=by rw[Yp _ (by omega)];exact hfr
  go_wp2_with fail;refine(Xc s 2 (by omega) (by omega) _ B T1.o.src).mono ?_;rintro e w2 ⟨v2,hv2,rfl,h2⟩;have T2:=Y8 (T1.o.trans h2);clear h2;obtain⟨z2,hz2⟩:∃ z:Int,97+(v2:Int)=z:=⟨_,rfl⟩;have rz:IntKind.i64.wrap (97+(v2:Int))=z2:=by rw[Yp _ (by omega)];exact hz2
  have Hz2:=Y8 (show z2=97∨z2=98 by omega);clear hz2;have hsl:=D0.o.src.lt;have hw2:=T2.o.chg.size;have M0:=Y8 (show Pd B s wI ((w2.alloc (.cells #[.int .i64 z2] 3)).alloc (.cells #[.int .i64 fr,.slice (some ⟨w2.heap.size,0,none⟩) 1 1] 106)) (w2.heap.size+1) fr (.slice (some ⟨w2.heap.size,0,none⟩) 1 1) [z2] from
   ⟨(T2.o.alloc _).alloc _,Zkv w2 z2 fr _ _,(Zwo w2 z2 _ hw2).ext ((Yk _).alloc _),by simp[Value.ownBlock],by omega,by simp,by simp,hsl⟩)
  go_upto_region 5 with fail;obtain⟨mb,hmb⟩:=gnX (w2.heap.size+1);obtain⟨tb,htb⟩:=gnX (w2.heap.size);obtain⟨W3,hW3⟩:=gnX ((w2.alloc (.cells #[.int .i64 z2] 3)).alloc (.cells #[.int .i64 fr,.slice (some ⟨w2.heap.size,0,none⟩) 1 1] 106));rw[hW3,hmb,htb]at M0;rw[hW3,hmb,htb];clear hW3 hmb htb T1 T2 hsl hw2 rf rz;go_cut [29] (fun o wx=>∃ q:Bool,o=.bool q∧(q=true→0<k)∧Pd B s wI wx mb fr (.slice (some ⟨tb,0,none⟩) 1 1) [z2]);case first =>
   by_cases hk0:0<k
   ·have d0:decide ((0:Int)<(k:Int))=true:=Ye;have d00:decide (0<k)=true:=Ye hk0;go_wp2_with fail;refine(Xc s 3 (by omega) (by omega) _ B M0.o.t.src).mono ?_;rintro e w5 ⟨v5,hv5,rfl,h5⟩;have M5:=Y8 (M0.o.next h5);clear h5;obtain⟨q5,hq5⟩:=gnX (((v5:Int)==0));have hq6:(v5==0)=q5:=by rw[← hq5,Zfd];simp
    go_wp2_with fail;go_meet;exact⟨_,rfl,fun _=>hk0,M5.o⟩
   obtain rfl:k=0:=by omega
   go_wp2_with fail;go_meet;exact⟨_,rfl,(by intro h;cases h),M0.o⟩
  obtain⟨q,rfl,hq,hM⟩:=hcut;have M1:=Y8 hM;clear hM M0;rename World=>w3
  go_upto_if 29 with fail;go_cut [] (fun wx=>∃ to2:List Int,to2.length=1∧Pd B s wI wx mb fr (.slice (some ⟨tb,0,none⟩) 1 1) to2∧∃ x,to2=[x]∧(x=97∨x=98∨(7680≤x∧x<fr)));case first =>
   cases q
   ·go_wp2_with fail;go_meet;exact⟨_,rfl,M1.o,z2,rfl,by have:=Hz2.o;omega⟩
   have hk0:0<k:=hq rfl;have c0:=(M1.o).box.at_ 0 (by simp);have c1:=(M1.o).box.at_ 1 (by simp);have fz:=(M1.o).box.fz;simp only[Zx,Zw]at c0 c1;have t0:=M1.o.own.at_ (ints_at (j:=0) rfl);have tf:=M1.o.own.thaw 0;go_upto_region 6 with fail;go_region_with (go_at_call 42;refine(Xc s (k:Int) (by omega) (by omega) _ B (M1.o.ext (Yk _).drew).t.src).mono ?_;rintro e w5 ⟨v5,hv5,rfl,h5⟩;have M5:=Y8 ((M1.o.ext (Yk _).drew).next h5);have c1':=M5.o.box.at_ 1 (by simp);have t0':=M5.o.own.at_ (ints_at (j:=0) rfl);have tf':=M5.o.own.thaw 0;simp only[Zx,Zw]at c1';obtain⟨z5,hz5⟩:∃ z:Int,7680+(v5:Int)=z:=⟨_,rfl⟩;have rz5:IntKind.i64.wrap (7680+(v5:Int))=z5:=(by rw[Yp _ (by omega)];exact hz5);have Hz5:=Y8 (show 7680≤z5∧z5<fr by omega);clear h5 hz5);all_goals
    go_wp2_with fail;go_meet;exact⟨_,rfl,M5.o.put (by simp) z5,z5,rfl,.inr (.inr Hz5.o)⟩
  obtain⟨to2,hto,hM,hx2⟩:=hcut;have Hx2:=Y8 hx2;have M2:=Y8 hM;clear hM M1 hq hx2;rename World=>w4
  go_wp2_with fail;refine(Xc s 8 (by omega) (by omega) _ B M2.o.t.src).mono ?_;rintro e w5 ⟨v5,hv5,rfl,h5⟩;have M3:=Y8 (M2.o.next h5);clear h5 M2;go_upto_if 39 with fail;go_cut [] (fun wx=>∃ (tv:Value) (to3:List Int),Pd B s wI wx mb fr tv to3∧ToP to3 fr);case first =>
   by_cases hv0:0<v5
   ·have d1:decide ((0:Int)<(v5:Int))=true:=Ye;have c0:=(M3.o).box.at_ 0 (by simp);have c1:=(M3.o).box.at_ 1 (by simp);have fz:=(M3.o).box.fz;simp only[Zx,Zw]at c0 c1;go_upto_region 8 with fail;have L5:=fun w:World=>Wl w 3 [769,776,803,837,945] 5 rfl _ rfl (by omega)
    have c1a:(w5.alloc (.cells #[.int .i64 769,.int .i64 776,.int .i64 803,.int .i64 837,.int .i64 945] 3)).cell? ⟨mb,1,none⟩=some (.slice (some ⟨tb,0,none⟩) 1 1):=by
     have:=(M3.o.box.ext ((Yk _).alloc (.cells #[.int .i64 769,.int .i64 776,.int .i64 803,.int .i64 837,.int .i64 945] 3))).at_ 1 (by simp);simpa using this
    have hsl:=M3.o.t.src.lt;go_region_law (first
     | ((refine Wt Ww (.tmp 41) (.tmp 47) 22 (by rfl) (by rfl) (by rfl) (by rfl) (M6.o.own.ext ((Yk _).alloc _)) (by rfl) (Ws w6 z6 _ _ rfl) (by rw[hto];show 1+1≤_;omega) (by show 8≤1000;omega) (by have:=M6.o.t.chg.size;simp;omega) ?_);intro A8 n8 c8 w8 hg8;have M8:=Y8 (M6.o.grow hto hg8);have cm8:=Y8 ((M6.o.box.ext ((Yk _).alloc (.cells #[.int .i64 z6] 3))).chg hg8.chg (fun e=>M6.o.ne e));have c8':=cm8.o.at_ 1 (by simp);have f8:=cm8.o.fz;simp only[Zx,Zw]at c8';clear hg8)
     | (go_simp;go_at_call 42;refine(Xc s 5 (by omega) (by omega) _ B ((M3.o.ext (Yk _).drew).ext ((Yk _).alloc (.cells #[.int .i64 769,.int .i64 776,.int .i64 803,.int .i64 837,.int .i64 945] 3))).t.src).mono ?_;rintro e w6 ⟨v6,hv6,rfl,h6⟩;have M6:=Y8 (((M3.o.ext (Yk _).drew).ext ((Yk _).alloc (.cells #[.int .i64 769,.int .i64 776,.int .i64 803,.int .i64 837,.int .i64 945] 3))).next h6);have L6:RdE Ww w6 (fun k=>w5.heap.size≤k) (.slice (some ⟨w5.heap.size,0,none⟩) 5 5) [769,776,803,837,945]:=Rd.chg (L5 w5.drew) h6.chg (fun k hk e=>by have:w5.heap.size≤k:=hk;omega);obtain⟨z6,hz6⟩:∃ z,([769,776,803,837,945]:List Int)[v6]?=some z:=⟨_,Zz (by simp;omega)⟩;obtain⟨g6,o6,cc6,hvv6,_,_,_,hg6,cz6⟩:=Xw.get L6 hz6;(simp only[Yd,Yc,Zga,Zg0,Zfw]at hvv6);obtain⟨⟨rfl,rfl⟩,-,rfl⟩:=hvv6;rw[Zg7]at cz6;have k0:(0:Int)≤(v6:Int):=(by omega);have k1:v6<5:=(by omega);have c6':=M6.o.box.at_ 1 (by simp);(simp only[Zx,Zw]at c6');have c6'':=(M6.o.box.ext ((Yk _).alloc (.cells #[.int .i64 z6] 3))).at_ 1 (by simp);(simp only[Zx,Zw]at c6'');have Hz6:=Y8 (Zy hz6);clear hz6 L6 h6)
     | (go_simp;go_at_call 42;refine(Xc s 5 (by omega) (by omega) _ B (M3.o.ext (Yk _).drew).t.src).mono ?_;rintro e wN ⟨v6,hv6,rfl,h6⟩;have MN:=Y8 (((M3.o.ext (Yk _).drew).next h6).ext ((Yk _).alloc (.cells #[.int .i64 769,.int .i64 776,.int .i64 803,.int .i64 837,.int .i64 945] 3)));have hwN:wI.heap.size≤wN.heap.size:=((M3.o.ext (Yk _).drew).next h6).t.chg.size;have L6:=L5 wN;obtain⟨z6,hz6⟩:∃ z,([769,776,803,837,945]:List Int)[v6]?=some z:=⟨_,Zz (by simp;omega)⟩;obtain⟨g6,o6,cc6,hvv6,_,_,_,hg6,cz6⟩:=Xw.get L6 hz6;(simp only[Yd,Yc,Zga,Zg0,Zfw]at hvv6);obtain⟨⟨rfl,rfl⟩,-,rfl⟩:=hvv6;rw[Zg7]at cz6;have hlv:∀ h,([.int .i64 769,.int .i64 776,.int .i64 803,.int .i64 837,.int .i64 945]:List Value)[v6]'h=Value.int .i64 z6:=(fun h=>Zgm ((Zz h).symm.trans (show(([769,776,803,837,945]:List Int).map (Value.int .i64))[v6]?=some (.int .i64 z6) by rw[Zn,hz6];rfl)));have k0:(0:Int)≤(v6:Int):=(by omega);have k1:v6<5:=(by omega);have c6':=((M3.o.ext (Yk _).drew).next h6).box.at_ 1 (by simp);(simp only[Zx,Zw]at c6');have c6'':=MN.o.box.at_ 1 (by simp);(simp only[Zx,Zw]at c6'');have c6''':=(MN.o.box.ext ((Yk _).alloc (.cells #[.int .i64 z6] 3))).at_ 1 (by simp);(simp only[Zx,Zw]at c6''');have Hz6:=Y8 (Zy hz6);clear hz6 L6 h6)
     | ((refine Wt Ww (.tmp 41) (.tmp 47) 22 (by rfl) (by rfl) (by rfl) (by rfl) (MN.o.own.ext ((Yk _).alloc _)) (by rfl) (Ws (wN.alloc (.cells #[.int .i64 769,.int .i64 776,.int .i64 803,.int .i64 837,.int .i64 945] 3)) z6 _ (wN.heap.size+1) (by simp)) (by rw[hto];show 1+1≤_;omega) (by show 8≤1000;omega) (by simp;omega) ?_);intro A8 n8 c8 w8 hg8;have M8:=Y8 (MN.o.grow hto hg8);have cm8:=Y8 ((MN.o.box.ext ((Yk _).alloc (.cells #[.int .i64 z6] 3))).chg hg8.chg (fun e=>MN.o.ne e));have c8':=cm8.o.at_ 1 (by simp);have f8:=cm8.o.fz;simp only[Zx,Zw]at c8';clear hg8))
    all_goals
     go_wp2_with fail;go_meet;exact⟨_,_,M8.o,ToP.two Hx2.o Hz6.o⟩
   have d1:decide ((0:Int)<(v5:Int))=false:=Yf;go_wp2_with fail;go_meet;exact⟨_,_,M3.o,ToP.one_ Hx2.o⟩
  obtain⟨tv,to3,hM,htp⟩:=hcut;have M4:=Y8 hM;have Htp:=Y8 htp;clear hM M3 htp;rename World=>w6
  go_wp2_with fail;refine(Xc s 6 (by omega) (by omega) _ B M4.o.t.src).mono ?_;rintro e w7 ⟨v7,hv7,rfl,h7⟩;have M5:=Y8 (M4.o.next h7);clear h7 M4;obtain⟨q7,hq7⟩:=gnX (((v7:Int)==0));have hq8:(v7==0)=q7:=by rw[← hq7,Zfd];simp
  have D1:=Y8 (D0.o.to M5.o.t);have c9:=D1.o.c9 hc;obtain⟨A9,C9,rfl,hlC9,hC9⟩:=D1.o.dOwn.shape;obtain⟨n9,hn9⟩:=gnX (dec.length);rw[hn9]at c9 D1 hlC9;have Hn9:=Y8 hn9;clear hn9;have Hto:=Y8 (show Xw w7 (fun q=>wI.heap.size≤q) tv to3 from M5.o.own.rd);obtain⟨At,Ct,rfl,hlt3,hct3⟩:=M5.o.own.shape;obtain⟨nt,hnt⟩:=gnX (to3.length);rw[hnt]at M5 hlt3 Hto;have Hnt:=Y8 hnt;have Htl:=Y8 (show to3.length≤2 from M5.o.l2);unfold maxLen at hC9 hct3;have c0:=(M5.o).box.at_ 0 (by simp);have c1:=(M5.o).box.at_ 1 (by simp);have fz:=(M5.o).box.fz;simp only[Zx,Zw]at c0 c1;clear hnt;go_wp2_with fail;go_loopw [58,6] (fun o t wx=>∃ (j:Nat) (q:Bool),j≤n9∧o=.int .i64 (j:Int)∧t=.bool q∧Ext w7 wx∧(q=false→∀ m∈dec.take j,m.1.to_≠to3)) (fun o _ _=>n9-(intOf o).toNat);case atStart=>exact⟨0,_,by omega,rfl,rfl,Yk _,fun _=>by simp⟩
  rename World=>wj
  obtain⟨j,q,hj,rfl,rfl,hxj,htw⟩:=hrel;have Xj:=Y8 hxj;have Htw:=Y8 htw;clear hxj htw c0 c1 c9 fz;by_cases hjn:j<n9
  ·obtain⟨hd_j,i0_j,i1_j⟩:=LTl j n9;obtain⟨m,hm⟩:=geX (l:=dec) (i:=j) (by rw[Hn9.o];exact hjn);have hown:=D1.o.dOwn.ext Xj.o;obtain⟨g9,c9',hv9,hb9,hg9,_,_⟩:=hown.some_ (by rw[Hn9.o];omega);rw[Hn9.o]at hv9;simp only[Yd,Zg0]at hv9;obtain⟨rfl,rfl⟩:=hv9;obtain⟨p0,p1⟩:=Zj8 hown hm;have hti:=((D1.o.tos m (Zy hm)).1).ext Xj.o
   obtain⟨Am,Cm,htv,hlm,hcm⟩:=hti.shape;rw[htv]at p1 hti;obtain⟨nm,hnm⟩:=gnX (m.1.to_.length);rw[hnm]at p1 hti;have Hti:=Y8 hti;have cm1:=(M5.o.box.ext (Xj.o.alloc (.cells #[.int .i64 m.1.fr,.slice Am nm Cm] 106))).at_ 1 (by simp);simp only[Zx,Zw]at cm1;have hlt7:=M5.o.box.lt;have hxs:=Xj.o.size;have Hmj:=Y8 hm;clear hown hm htv hnm hti;cases q with
   | true =>
    go_wp2_with fail;go_roundw;case rel=>exact⟨j+1,_,by omega,by go_num,rfl,Xj.o.alloc _,fun h=>by cases h⟩
    (simp[intOf];omega)
   | false =>
    go_wp2_with (go_at_call 26;refine(Zpb _ _ m.1.to_ to3 _ (Hti.o.ext ((Yk _).alloc _)) (Hto.o.ext (Xj.o.alloc _))).mono ?_;rintro e w8 ⟨rfl,hx8⟩;obtain⟨r8,hr8⟩:=gnX (decide (m.1.to_=to3));have Hr8:=Y8 hr8;rw[hr8];clear hr8;have X8:=Y8 ((Xj.o.alloc _).trans hx8);clear hx8);go_roundw;case rel=>exact⟨j+1,_,by omega,by go_num,rfl,X8.o,fun h=>Zic Hmj.o (by first|exact Htw.o rfl|exact Htw.o trivial) Hr8.o (by simpa using h)⟩
    (simp[intOf];omega)
  have hd_j:=GEl j n9;have Hall:=Y8 (show q=false→∀ x∈dec.map Subtype.val,x.to_≠to3 from fun h x hx=>by
   obtain⟨y,hy,rfl⟩:=Zgg.1 hx;exact Htw.o h y (by rw[Zm (by rw[Hn9.o];omega)];exact hy))
  have D2:=Y8 (D1.o.ext Xj.o);have M6:=Y8 (M5.o.ext Xj.o);have hIsz:=D0.o.dOwn.lt;have hEsz:=D0.o.eOwn.lt;have hZ:=D0.o.chg.size;have Hrow:=Y8 (show Xw wj (fun q=>w.heap.size≤q∧(Value.slice A9 n9 C9).ownBlock≠some q∧ev.ownBlock≠some q) (.slice At nt Ct) to3 from Rd.mono (Hto.o.ext Xj.o) fun q hq _=>⟨by omega,fun e=>by have:=(hIsz q (by rw[Hn9.o];exact e)).2;omega,fun e=>by have:=(hEsz q e).2;omega⟩);clear hIsz hEsz hZ D1 M5 Hto;go_upto_if 71 with fail;go_cut [] (fun wx=>∃ (ev2:Value) (exc2:List Int),Mq w wx B b s cs (.slice A9 n9 C9) dec ev2 exc2∧exc2.length≤k+1∧Xm wx mb [.int .i64 fr,.slice At nt Ct]∧Xw wx (fun q=>w.heap.size≤q∧(Value.slice A9 n9 C9).ownBlock≠some q∧ev2.ownBlock≠some q) (.slice At nt Ct) to3∧exc2=if q then exc++[fr]else exc);case first =>
   cases q
   ·go_wp2_with fail;go_meet;exact⟨_,_,D2.o,by have:=Hl2.o;omega,M6.o.box,Hrow.o,rfl⟩
   go_upto_region 16 with fail;have c10:=D2.o.c10 hc;obtain⟨A10,C10,rfl,hlC10,hC10⟩:=D2.o.eOwn.shape;obtain⟨n10,hn10⟩:=gnX (exc.length);rw[hn10]at c10 D2 Hrow hlC10;have Hn10:=Y8 hn10;have hn5:n10≤5:=by have:=Hl2.o;omega
   clear hn10;have c0:=(M6.o).box.at_ 0 (by simp);have c1:=(M6.o).box.at_ 1 (by simp);have fz:=(M6.o).box.fz;simp only[Zx,Zw]at c0 c1;have c10a:(wj.alloc (.cells #[.int .i64 fr] 3)).cell? ⟨b,10,none⟩=some (.slice A10 n10 C10):=(D2.o.ext ((Yk _).alloc _)).c10 hc;go_region_law (first
    | ((refine Wt Ww (.tmp 76) (.tmp 79) 22 (by rfl) (by rfl) (by rfl) (by rfl) (D2.o.eOwn.ext ((Yk _).drew.alloc _)) (by rfl) (Ws wj.drew fr _ _ rfl) (by rw[Hn10.o];show n10+1≤_;omega) (by show 8≤1000;omega) (by have:=D2.o.chg.size;simp;omega) ?_);intro A8 n8 c8 w8 hg8;have D8:=Y8 ((D2.o.ext (Yk _).drew).growE hc hg8);have c8':w8.cell? ⟨b,10,none⟩=some (.slice A10 n10 C10):=((((D2.o.ext (Yk _).drew).ext ((Yk _).alloc _)).box.chg hg8.chg (fun e=>by have:=(D2.o.eOwn.lt b e).1;have:=D2.o.bl;omega)).at_ 10 (by simp;omega)).trans (by simp[Yv];omega);have f8:=((((D2.o.ext (Yk _).drew).ext ((Yk _).alloc _)).box.chg hg8.chg (fun e=>by have:=(D2.o.eOwn.lt b e).1;have:=D2.o.bl;omega)).fz);have N8:=Y8 hg8.len;have G8:=Y8 hg8;clear hg8))
   all_goals
    go_wp2_with fail;go_meet;refine⟨_,_,D8.o,by rw[Zs,Hn10.o];show n10+1≤k+1;have:=Hl2.o;have:=Hn10.o;omega,?_,Zpg (Hrow.o.ext (Yk _).drew) G8.o D2.o.bl,rfl⟩;exact(((M6.o.box.ext (Yk _).drew).ext ((Yk _).alloc _)).chg G8.o.chg (fun e=>by have:=(D0.o.eOwn.lt mb (by rw[Hn10.o];exact e)).2;have:=M6.o.lo;omega)).far (by have:=D2.o.bl;have:=D0.o.chg.size;have:=M6.o.lo;omega) _
  obtain⟨ev2,exc2,hD,hl2,hbx,hrw,hex⟩:=hcut;have Hex:=Y8 hex;rename World=>wk
  have D3:=Y8 hD;have Hl3:=Y8 hl2;have Hbx:=Y8 hbx;have Hrw:=Y8 hrw;clear hD hl2 hbx hrw hex;have c9:=D3.o.c9 hc;have c9a:(wk.alloc (.cells #[.int .i64 fr,.slice At nt Ct] 106)).cell? ⟨b,9,none⟩=some (.slice A9 n9 C9):=(D3.o.ext ((Yk _).alloc _)).c9 hc;have c0:=Hbx.o.at_ 0 (by simp);have c1:=Hbx.o.at_ 1 (by simp);simp only[Zx,Zw]at c0 c1;have hn5:n9≤5:=by have:=Hl1.o;have:=Hn9.o;omega
  go_upto_region 17 with fail;go_region_law (first
   | ((refine Wt mpE (.tmp 87) (.tmp 89) 32 (by rfl) (by rfl) (by rfl) (by rfl) (D3.o.dOwn.ext ((Yk _).drew.alloc _)) (by rfl) (Zqi wk.drew fr At nt Ct to3 _ _ rfl) (by rw[Hn9.o];show n9+1≤_;omega) (by show 32≤1000;omega) (by have:=D3.o.chg.size;simp;omega) ?_);intro A8 n8 c8 w8 hg8;have D8:=Y8 ((D3.o.ext (Yk _).drew).growD hc (Hrw.o.ext (Yk _).drew) Htl.o hg8);have c8':w8.cell? ⟨b,9,none⟩=some (.slice A9 n9 C9):=((((D3.o.ext (Yk _).drew).ext ((Yk _).alloc _)).box.chg hg8.chg (fun e=>by have:=(D3.o.dOwn.lt b e).1;have:=D3.o.bl;omega)).at_ 9 (by simp;omega)).trans (by simp[Yv];omega);have f8:=((((D3.o.ext (Yk _).drew).ext ((Yk _).alloc _)).box.chg hg8.chg (fun e=>by have:=(D3.o.dOwn.lt b e).1;have:=D3.o.bl;omega)).fz);clear hg8))
  all_goals
   go_wp2_with fail;go_roundw;case rel =>
    refine⟨k+1,_,_,_,_,by omega,by go_num,D8.o,by rw[Zs,Hn9.o];show n9+1≤k+1;have:=Hl1.o;have:=Hn9.o;omega,Hl3.o,?_,?_,?_⟩
    ·rw[Yy,List.nodup_append];refine⟨Hnd.o,by simp,fun x hx y hy e=>?_⟩;obtain⟨m,hm,rfl⟩:=Zgg.1 hx;have:=Hfr.o m hm;have hy2:y=fr:=by simpa using hy
     omega
    ·intro m hm;rcases Zj.1 hm with hm|hm
     ·have:=Hfr.o m hm;omega
     rw[Zi.1 hm];show fr<_;omega
    rw[Yy];exact Hdp.o.more (m:=⟨fr,.slice At nt Ct,to3⟩) hfr.symm Htp.o Hall.o Hex.o
   case measure=>(simp[intOf];omega)
 have hd_k:decide ((k:Int)<(5:Int))=false:=Yf;go_wp2_with fail;refine Ys (v:=.tuple #[]) (by simp[results,results47,go_sem]) rfl ⟨dv,dec,ev,exc,rfl,D0.o,by have:=Hl1.o;omega,Hnd.o,by have:=Hdp.o;rwa [show k=5 by omega]at this⟩
end
section
structure Bt(U:Nat→Prop)(w0 w:World)(B b s:Nat)(cs:List Value)(ix:Nat)(dv:Value)(dec:List MpS):Prop where
 src:Src B w s
 chg:Chg U w0 w
 box:Xm w b (cs.set ix dv)
 dOwn:Own mpE w w0.heap.size dv dec
 tos:∀ m∈dec,Xw w (fun k=>w0.heap.size≤k∧dv.ownBlock≠some k) m.1.tv m.1.to_∧m.1.to_.length≤18
 hU:∀ k,U k→k<w0.heap.size
 ub:U b
 us:U s
 bs:b≠s
 bB:B≤b
section
variable {U:Nat→Prop} {w0 w w':World} {B b s ix:Nat} {cs:List Value} {dv:Value} {dec:List MpS}
theorem Bt.to(h:Bt U w0 w B b s cs ix dv dec)(t:Vv B s w w'):Bt U w0 w' B b s cs ix dv dec :=
 have hsl:=h.hU s h.us
 ⟨t.src,h.chg.thenB t.chg (fun k _ e=>e▸h.us),h.box.chg t.chg h.bs,h.dOwn.chg t.chg (fun k hk e=>by have:=(h.dOwn.lt k hk).1;omega),
   fun m hm=>⟨(h.tos m hm).1.chg t.chg (fun k hk e=>by have:=hk.1;omega),(h.tos m hm).2⟩,h.hU,h.ub,h.us,h.bs,h.bB⟩
theorem Bt.ext(h:Bt U w0 w B b s cs ix dv dec)(x:Ext w w'):Bt U w0 w' B b s cs ix dv dec :=
 ⟨h.src.ext x,h.chg.trans (x.chg _),h.box.ext x,h.dOwn.ext x,fun m hm=>⟨(h.tos m hm).1.ext x,(h.tos m hm).2⟩,h.hU,h.ub,h.us,h.bs,h.bB⟩
theorem Bt.far{c j:Nat}(h:Bt U w0 w B b s cs ix dv dec)(hc:U c)(hcb:c≠b)(hcs:c≠s)(hB:B≤c)(u:Value):Bt U w0 (w.setCell ⟨c,j,none⟩ u) B b s cs ix dv dec :=
 have hcl:=h.hU c hc
 ⟨h.src.setCell (by show B≤c;exact hB) hcs u,h.chg.setCell (.inl hc) u,h.box.far (Ne.symm hcb) u,h.dOwn.far (fun e=>by have:=(h.dOwn.lt c e).1;omega) u,
   fun m hm=>⟨(h.tos m hm).1.chg ((Chg.refl (· = c) w).setCell (p:=⟨c,j,none⟩) (.inl rfl) u) (fun k hk e=>by have:=hk.1;omega),(h.tos m hm).2⟩,h.hU,h.ub,h.us,h.bs,h.bB⟩
theorem Bt.cell{j:Nat}{u:Value}(h:Bt U w0 w B b s cs ix dv dec)(hj:j≠ix)(hb:Xm w' b ((cs.set ix dv).set j u))(c:Chg (· = b) w w'):Bt U w0 w' B b s (cs.set j u) ix dv dec :=
 have hbl:=h.hU b h.ub;have hsl:=h.hU s h.us
 ⟨h.src.chg c (fun e=>h.bs e.symm) (fun k hk e=>by have:=h.bB;omega),h.chg.thenB c (fun k _ e=>e▸h.ub),by rw[List.set_comm _ _ hj];exact hb,h.dOwn.chg c (fun k hk e=>by have:=(h.dOwn.lt k hk).1;omega),
   fun m hm=>⟨(h.tos m hm).1.chg c (fun k hk e=>by have:=hk.1;omega),(h.tos m hm).2⟩,h.hU,h.ub,h.us,h.bs,h.bB⟩
theorem Bt.cx(h:Bt U w0 w B b s cs ix dv dec)(hc:ix<cs.length):w.cell? ⟨b,ix,none⟩=some dv:=by
 rw[h.box.at_ ix (by simpa using hc),Yv,Zgn rfl,Zgn hc]
theorem Bt.grow{A:Option Addr}{n c:Nat}{m:MpS}{o:Obj}(h:Bt U w0 w B b s cs ix dv dec)(hix:ix<cs.length)(hm:Xw w (fun k=>w0.heap.size≤k∧dv.ownBlock≠some k) m.1.tv m.1.to_)(hm2:m.1.to_.length≤18)
 (hg:Grew mpE (w.alloc o) w0.heap.size dv (dec++[m]) A n c w'):Bt U w0 (w'.setCell ⟨b,ix,none⟩ (.slice A n c)) B b s cs ix (.slice A n c) (dec++[m]):=by
 have hsl:=h.hU s h.us;have hbl:=h.hU b h.ub;have hlt:∀ k,dv.ownBlock=some k→w0.heap.size≤k:=fun k hk=>(h.dOwn.lt k hk).1
 have hat:∀ k,(Value.slice A n c).ownBlock=some k→dv.ownBlock=some k∨k=(w.alloc o).heap.size:=fun k hk=>by
  rcases hg.at_ with h1|h1
  ·exact .inl (by rw[← h1];exact hk)
  rw[hk]at h1;exact .inr (Zgm h1)
 refine⟨?_,?_,?_,?_,?_,h.hU,h.ub,h.us,h.bs,h.bB⟩
 ·exact(((h.src.alloc o).chg hg.chg (fun e=>by have:=hlt s e;omega) (fun k hk e=>by have:=hlt k e;have:=h.src.ge;omega))).setCell h.bB (by show b≠s;exact h.bs) _
 ·exact((h.chg.alloc o).thenB hg.chg (fun k hk e=>by have:=hlt k e;omega)).setCell (.inl h.ub) _
 ·have h1:=(h.box.ext ((Yk _).alloc o)).chg hg.chg (fun e=>by have:=hlt b e;omega);have h2:=h1.set (j:=ix) (by simpa using hix) (.slice A n c)
  rwa [Zdt]at h2
 ·exact hg.own.far (fun e=>by have:=(hg.own.lt b e).1;omega) _
 intro q hq;have key:∀ {v:Value} {l:List Int},Xw w (fun k=>w0.heap.size≤k∧dv.ownBlock≠some k) v l→Xw (w'.setCell ⟨b,ix,none⟩ (.slice A n c)) (fun k=>w0.heap.size≤k∧(Value.slice A n c).ownBlock≠some k) v l:=by
  intro v l h1;have h3:Xw (w.alloc o) (fun k=>(w0.heap.size≤k∧dv.ownBlock≠some k)∧k<w.heap.size) v l:=Xw.ext (Rd.mono h1 fun k hk hl=>⟨hk,hl⟩) ((Yk _).alloc o);have h4:=(h3.chg hg.chg (fun k hk e=>hk.1.2 e)).chg ((Chg.refl (· = b) w').setCell (p:=⟨b,ix,none⟩) (.inl rfl) (.slice A n c)) (fun k hk e=>by have:=hk.1.1;omega);exact Rd.mono h4 fun k hk _=>⟨hk.1.1,fun e=>by
   rcases hat k e with h5|h5
   ·exact hk.1.2 h5
   have:=hk.2;simp at h5;omega⟩
 rcases Zj.1 hq with hq|hq
 ·exact⟨key (h.tos q hq).1,(h.tos q hq).2⟩
 rw[Zi.1 hq];exact⟨key hm,hm2⟩
theorem Zlk{A:Option Addr}{n c:Nat}{m:MpS}{o:Obj}{u:Value}{l:List Sp}(h:Bt U w0 w B b s cs ix dv dec)(hu:Vh w (fun k=>w0.heap.size≤k∧dv.ownBlock≠some k) u l)(hg:Grew mpE (w.alloc o) w0.heap.size dv (dec++[m]) A n c w')(x:Value) :
 Vh (w'.setCell ⟨b,ix,none⟩ x) (fun k=>w0.heap.size≤k∧(Value.slice A n c).ownBlock≠some k) u l:=by
 have hbl:=h.hU b h.ub;have h3:Vh (w.alloc o) (fun k=>(w0.heap.size≤k∧dv.ownBlock≠some k)∧k<w.heap.size) u l:=Vh.ext (Rd.mono hu fun k hk hl=>⟨hk,hl⟩) ((Yk _).alloc o);have h4:=(h3.chg hg.chg (fun k hk e=>hk.1.2 e)).chg ((Chg.refl (· = b) w').setCell (p:=⟨b,ix,none⟩) (.inl rfl) x) (fun k hk e=>by have:=hk.1.1;omega);exact Rd.mono h4 fun k hk _=>⟨hk.1.1,fun e=>by
  rcases hg.at_ with h1|h1
  ·exact hk.1.2 (h1.symm.trans e)
  rw[e]at h1;have:=hk.2;simp at h1;omega⟩
end
end
abbrev iV:Int→Value:=Value.int .i64
theorem Bt.back{U:Nat→Prop}{w W1 w':World}{B b s ix:Nat}{cs:List Value}{dv:Value}{dec:List MpS}(h:Bt U W1 w' B b s cs ix dv dec)(x:Ext w W1)(hU:∀ k,U k→k<w.heap.size):Bt U w w' B b s cs ix dv dec :=
 ⟨h.src,(x.chg U).trans h.chg,h.box,h.dOwn.base x.size,fun m hm=>⟨Rd.mono (h.tos m hm).1 fun k hk _=>⟨Zgo x.size hk.1,hk.2⟩,(h.tos m hm).2⟩,hU,h.ub,h.us,h.bs,h.bB⟩
def Zt2(U:Nat→Prop)(w0:World)(B b s:Nat)(cs:List Value)(e:Ending)(w':World):Prop :=
 ∃ (dv:Value) (dec:List MpS) (u:Value) (l:List Sp),e=.returned (.tuple #[])∧Bt U w0 w' B b s (cs.set 5 u) 8 dv dec∧dec.length≤28∧Vh w' (fun k=>w0.heap.size≤k) u l∧l.length≤28∧Zl6 (dec.map Subtype.val) l 28
theorem Zqz(U:Nat→Prop)(B b s gs C:Nat)(cs:List Value)(st:List Int)(w:World)(h:Bt U w w B b s cs 8 (.slice none 0 0) [])(hcl:cs.length=12)(h5:cs[5]?=some (.slice none 0 0))
 (hst:Xm w gs (st.map iV)) (hsl:st.length=28) (hug:U gs) (hgb:gs≠b) (hgs:gs≠s) (hBg:B≤gs) (hC:28≤C) (hs3:∀ z∈st,0≤z∧z≤4∧z≠3) :
 Calls prog 48 #[.pointer (some ⟨s,0,none⟩),.pointer (some ⟨b,0,none⟩),.slice (some ⟨gs,0,none⟩) 28 C] w (Zt2 U w B b s cs):=by
 have H:=Y8 h;have Hst:=Y8 hst;have H5:=Y8 h5;have Hsl:=Y8 hsl;have Hs3:=Y8 hs3;clear h hst h5 hsl hs3;go_enter func48,ntmps48;go_wp2_with fail;refine(Zwe _).mono ?_;rintro e w1 ⟨pv,rfl,hrow,hx1⟩;obtain⟨Ap,Cp,rfl,hlp,hcp⟩:=Xw.shape hrow;have hp28:Ka.length=28:=rfl;rw[hp28]at hrow hlp⊢;have Hrow:=Y8 hrow;have HX1:=Y8 hx1;unfold maxLen at hcp;have hs1:=hx1.size;have hU:=H.o.hU;have G00:=Y8 (show Bt U w1 w1 B b s (cs.set 5 (.slice none 0 0)) 8 (.slice none 0 0) [] from by
  have g:=H.o.ext hx1;refine⟨g.src,Chg.refl _ _,?_,Own.nil _ _ _,by simp,fun k hk=>Zgp (hU k hk) hs1,g.ub,g.us,g.bs,g.bB⟩;rw[Bj H5.o];exact g.box)
 have B00:=Y8 (Hst.o.ext hx1);clear hrow hx1 hp28;go_wp2_with fail;go_loopw [13] (fun o wx=>∃ (i:Nat) (dv:Value) (dec:List MpS) (u:Value) (l:List Sp) (st:List Int),i≤28∧o=.int .i64 (i:Int)∧Bt U w1 wx B b s (cs.set 5 u) 8 dv dec∧dec.length≤i∧Vh wx (fun k=>w1.heap.size≤k∧dv.ownBlock≠some k) u l∧l.length≤i∧Xm wx gs (st.map iV)∧st.length=28∧Zl6 (dec.map Subtype.val) l i∧(∀ (j:Nat) z,i≤j→st[j]?=some z→0≤z∧z≤4∧z≠3)) (fun o _=>28-(intOf o).toNat);case atStart=>exact⟨0,_,[],_,[],st,by omega,rfl,G00.o,by simp,Rd.nil ..,by simp,B00.o,Hsl.o,⟨SpP.nil _ _,by simp,by simp,by simp⟩,fun j z _ h=>Hs3.o z (Zy h)⟩
 rename World=>wx
 clear Hst Hsl B00 G00 Hs3;obtain⟨i,dv,dec,u,l,st,hi,rfl,hg,hl,hsp,hl2,hbs,hsl,hmp,hs3⟩:=hrel;have Hmp:=Y8 hmp;have Hs3:=Y8 hs3;have G0:=Y8 hg;have Hl:=Y8 hl;have S0:=Y8 hsp;have Hl2:=Y8 hl2;have B0:=Y8 hbs;have Hsl:=Y8 hsl;clear hg hl hsp hl2 hbs hsl hmp hs3;by_cases hi28:i<28
 ·have hd_i:decide ((i:Int)<(28:Int))=true:=Ye;have i0_i:(0:Int)≤(i:Int):=by omega
  have i1_i:(i:Int)<(28:Int):=by omega
  obtain⟨c,hc⟩:∃ c,Ka[i]?=some c:=⟨Ka[i]'(show i<28 from hi28),Zz _⟩;have hrow':Xw wx (fun k=>w.heap.size≤k) (.slice Ap 28 Cp) Ka:=Rd.chg Hrow.o G0.o.chg (fun k hk e=>by have:=hU k e;omega);obtain⟨gp,op,cp,hvv,_,_,_,hgp,cz⟩:=Xw.get hrow' hc;rw[show Ka.length=28 from rfl]at hvv;simp only[Yd,Zg0]at hvv;obtain⟨rfl,rfl⟩:=hvv;have Hc:=Y8 hc;clear hc hrow';go_upto_region 4 with fail;go_cut [32] (fun o wq=>∃ q:Bool,o=.bool q∧Vv B s wx wq∧(q=true→c∈([947,7684,128512]:List Int)));case first =>
   by_cases h1:c=128512
   ·have e1:(c==128512)=true:=by simp[h1]
    have Hin:=Y8 (show c∈([947,7684,128512]:List Int) by simp[h1]);clear h1;go_wp2_with fail;go_meet;exact⟨_,rfl,Vv.start G0.o.src,fun _=>Hin.o⟩
   have e1:(c==128512)=false:=by simp[h1]
   clear h1;by_cases h2:c=7684
   ·have e2:(c==7684)=true:=by simp[h2]
    have Hin:=Y8 (show c∈([947,7684,128512]:List Int) by simp[h2]);clear h2;go_wp2_with fail;go_meet;exact⟨_,rfl,Vv.start G0.o.src,fun _=>Hin.o⟩
   have e2:(c==7684)=false:=by simp[h2]
   clear h2;by_cases h3:c=947
   ·have e3:(c==947)=true:=by simp[h3]
    have Hin:=Y8 (show c∈([947,7684,128512]:List Int) by simp[h3]);clear h3;go_wp2_with fail;refine(Xc s 2 (by omega) (by omega) _ B G0.o.src).mono ?_;rintro e w5 ⟨v5,hv5,rfl,h5⟩;obtain⟨q5,hq5⟩:=gnX (((v5:Int)==0));have hq6:(v5==0)=q5:=by rw[← hq5,Zfd];simp
    go_wp2_with fail;go_meet;exact⟨_,rfl,h5,fun _=>Hin.o⟩
   have e3:(c==947)=false:=by simp[h3]
   clear h3;go_wp2_with fail;go_meet;exact⟨_,rfl,Vv.start G0.o.src,fun h=>by cases h⟩
  obtain⟨q,rfl,hT,hin⟩:=hcut;have Hin:=Y8 hin;rename World=>wc
  have hsw:=H.o.hU s H.o.us;have G1:=Y8 (G0.o.to hT);have S1:=Y8 (show Vh wc (fun k=>w1.heap.size≤k∧dv.ownBlock≠some k) u l from Rd.chg S0.o hT.chg (fun k hk e=>by have:=hk.1;omega));have B1:=Y8 (B0.o.chg hT.chg (show ¬ gs=s from hgs));obtain⟨si,hsi⟩:=geX (l:=st) (i:=i) (by rw[Hsl.o];exact hi28);have Hsi:=Y8 hsi;have Hsb:=Y8 (Hs3.o i si (Ym _) hsi);clear hT cz hin hsi;go_upto_if 32 with fail;go_cut [] (fun wq=>∃ (dv:Value) (dec:List MpS) (st:List Int) (si:Int),Bt U w1 wq B b s (cs.set 5 u) 8 dv dec∧dec.length≤i+1∧Vh wq (fun k=>w1.heap.size≤k∧dv.ownBlock≠some k) u l∧Xm wq gs (st.map iV)∧st.length=28∧st[i]?=some si∧Zhx (dec.map Subtype.val) l i c si∧(∀ (j:Nat) z,i<j→st[j]?=some z→0≤z∧z≤4∧z≠3));case first =>
   cases q with
   | false =>
    go_wp2_with fail;go_meet;exact⟨_,_,_,si,G1.o,by have:=Hl.o;omega,S1.o,B1.o,Hsl.o,Hsi.o,Hmp.o.same c Hsb.o.2.1 Hsb.o.2.2,fun j z hj h=>Hs3.o j z (by omega) h⟩
   | true =>
    go_wp2_with fail;refine(Xc s 3 (by omega) (by omega) _ B G1.o.src).mono ?_;rintro e w2 ⟨v2,hv2,rfl,h2⟩;have T2:=Y8 h2;clear h2;obtain⟨z2,hz2⟩:∃ z:Int,97+(v2:Int)=z:=⟨_,rfl⟩;have rz:IntKind.i64.wrap (97+(v2:Int))=z2:=by rw[Yp _ (by omega)];exact hz2
    have Hz2:=Y8 (show 97≤z2∧z2≤99 by omega);clear hz2;have hslc:=G1.o.src.lt;have hw2:=T2.o.chg.size;have M0:=Y8 (show Pd B s wc ((w2.alloc (.cells #[.int .i64 z2] 3)).alloc (.cells #[.int .i64 c,.slice (some ⟨w2.heap.size,0,none⟩) 1 1] 106)) (w2.heap.size+1) c (.slice (some ⟨w2.heap.size,0,none⟩) 1 1) [z2] from
     ⟨(T2.o.alloc _).alloc _,Zkv w2 z2 c _ _,(Zwo w2 z2 _ hw2).ext ((Yk _).alloc _),by simp[Value.ownBlock],by omega,by simp,by simp,hslc⟩)
    go_upto_region 6 with fail;obtain⟨mb,hmb⟩:=gnX (w2.heap.size+1);obtain⟨tb,htb⟩:=gnX (w2.heap.size);obtain⟨W3,hW3⟩:=gnX ((w2.alloc (.cells #[.int .i64 z2] 3)).alloc (.cells #[.int .i64 c,.slice (some ⟨w2.heap.size,0,none⟩) 1 1] 106));rw[hW3,hmb,htb]at M0;rw[hW3,hmb,htb];clear hW3 hmb htb T2 hslc hw2 rz;go_wp2_with fail;refine(Xc s 2 (by omega) (by omega) _ B M0.o.t.src).mono ?_;rintro e w4 ⟨v4,hv4,rfl,h4⟩;have M1:=Y8 (M0.o.next h4);clear h4 M0;go_upto_if 41 with fail;go_cut [] (fun wq=>∃ (tv:Value) (to3:List Int),Pd B s wc wq mb c tv to3∧∃ v:Int,97≤v∧v≤99∧(to3=[v]∨to3=[v,46]));case first =>
     by_cases hv0:v4=0
     ·subst hv0;have c0:=(M1.o).box.at_ 0 (by simp);have c1:=(M1.o).box.at_ 1 (by simp);have fz:=(M1.o).box.fz;simp only[Zx,Zw]at c0 c1;have hml:=M1.o.box.lt;go_wp2_with (at_builtin;refine Pt Ww _ _ _ rfl rfl rfl rfl (M1.o.own.ext ((Yk _).alloc _)) rfl (Ws w4 46 _ _ rfl) (by show 1+1≤maxLen;unfold maxLen;omega) (by show(1+1)*8≤_;omega) (by have:=M1.o.t.chg.size;simp;omega) ?_;intro A8 n8 c8 w8 hg8;have M8:=Y8 (M1.o.grow rfl hg8);have cm8:=Y8 ((M1.o.box.ext ((Yk _).alloc (.cells #[.int .i64 46] 3))).chg hg8.chg (fun e=>M1.o.ne e));have c8':=cm8.o.at_ 1 (by simp);have f8:=cm8.o.fz;simp only[Zx,Zw]at c8';clear hg8);go_meet;exact⟨_,_,M8.o,z2,Hz2.o.1,Hz2.o.2,.inr rfl⟩
     have e1:((v4:Int)==0)=false:=by simp;omega
     have e2:(v4==0)=false:=by simp;omega
     have e3:¬ (v4:Int)=0:=by omega
     clear hv0;go_wp2_with fail;go_meet;exact⟨_,_,M1.o,z2,Hz2.o.1,Hz2.o.2,.inl rfl⟩
    obtain⟨tv,to3,hM,hto3⟩:=hcut;rename World=>w5
    have M2:=Y8 hM;have Hto3:=Y8 hto3;clear hM M1 hto3;go_wp2_with fail;refine(Xc s 3 (by omega) (by omega) _ B M2.o.t.src).mono ?_;rintro e wk ⟨v6,hv6,rfl,h6⟩;have M3:=Y8 (M2.o.next h6);clear h6 M2;have G3:=Y8 (G1.o.to M3.o.t);have S3:=Y8 (show Vh wk (fun k=>w1.heap.size≤k∧dv.ownBlock≠some k) u l from Rd.chg S1.o M3.o.t.chg (fun k hk e=>by have:=hk.1;omega));have B3:=Y8 (B1.o.chg M3.o.t.chg (show ¬ gs=s from hgs));by_cases hv0:0<v6
    ·have d1:decide ((0:Int)<(v6:Int))=true:=Ye;obtain⟨A11,C11,rfl,hlC11,hC11⟩:=G3.o.dOwn.shape;have c11:=G3.o.cx (by simp[hcl]);have c11a:(wk.alloc (.cells #[.int .i64 c,tv] 106)).cell? ⟨b,8,none⟩=some (.slice A11 dec.length C11):=(G3.o.ext ((Yk _).alloc _)).cx (by simp[hcl]);have Hr7:=Y8 (show Xw wk (fun k=>w1.heap.size≤k∧(Value.slice A11 dec.length C11).ownBlock≠some k) tv to3 from by
      have h1:Xw wk (fun k=>wc.heap.size≤k) tv to3:=M3.o.own.rd;have h2:=G1.o.chg.size;exact Rd.mono h1 fun k hk _=>⟨by omega,fun e=>by have:=(G1.o.dOwn.lt k e).2;omega⟩)
     obtain⟨At,Ct,rfl,hlt3,hct3⟩:=M3.o.own.shape;obtain⟨nt,hnt⟩:=gnX (to3.length);rw[hnt]at M3 hlt3 Hr7 c11a;have Hnt:=Y8 hnt;have Htl:=Y8 (show to3.length≤2 from M3.o.l2);obtain⟨n11,hn11⟩:=gnX (dec.length);rw[hn11]at c11 c11a G3 Hr7 hlC11 S3;have Hn11:=Y8 hn11;have hn5:n11≤28:=by have:=Hl.o;omega
     unfold maxLen at hC11 hct3;have c0:=(M3.o).box.at_ 0 (by simp);have c1:=(M3.o).box.at_ 1 (by simp);have fz:=(M3.o).box.fz;simp only[Zx,Zw]at c0 c1;clear hn11 hnt G1 S1 B1;go_upto_region 9 with fail;go_region_law (first
      | ((refine Wt mpE (.tmp 54) (.tmp 56) 32 (by rfl) (by rfl) (by rfl) (by rfl) (G3.o.dOwn.ext ((Yk _).drew.alloc _)) (by rfl) (Zqi wk.drew c At nt Ct to3 _ _ rfl) (by rw[Hn11.o];show n11+1≤_;omega) (by show 32≤1000;omega) (by have:=G3.o.chg.size;simp;omega) ?_);intro A8 n8 c8 w8 hg8;have G8:=Y8 ((G3.o.ext (Yk _).drew).grow (by simp[hcl]) (Hr7.o.ext (Yk _).drew) (by show to3.length≤18;have:=Htl.o;omega) hg8);have c8':w8.cell? ⟨b,8,none⟩=some (.slice A11 n11 C11):=((((G3.o.ext (Yk _).drew).ext ((Yk _).alloc _)).box.chg hg8.chg (fun e=>by have:=(G3.o.dOwn.lt b e).1;have:=hU b G3.o.ub;omega)).at_ 8 (by simp[hcl])).trans (by simp[Yv,hcl]);have f8:=((((G3.o.ext (Yk _).drew).ext ((Yk _).alloc _)).box.chg hg8.chg (fun e=>by have:=(G3.o.dOwn.lt b e).1;have:=hU b G3.o.ub;omega)).fz);have S8:=Y8 (Zlk (G3.o.ext (Yk _).drew) (Vh.ext S3.o (Yk _).drew) hg8 (.slice A8 n8 c8));have B8:=Y8 ((((B3.o.ext (Yk _).drew).ext ((Yk _).alloc _)).chg hg8.chg (fun e=>by have:=(G3.o.dOwn.lt gs e).1;have:=hU gs hug;omega)).far (j:=8) (c:=b) hgb (.slice A8 n8 c8));have fg8:=B8.o.fz i;have cg8:=B8.o.at_ i (by rw[Zq,Hsl.o];exact hi28);clear hg8))
     all_goals
      rw[Zn,Hsi.o]at cg8;simp only[Zev]at cg8;go_wp2_with fail;go_meet;refine⟨_,_,st.set i 3,3,G8.o.far hug hgb hgs hBg _,by rw[Zs,Hn11.o];show n11+1≤i+1;have:=Hl.o;have:=Hn11.o;omega,?_,?_,by rw[Zf];exact Hsl.o,Zc (by rw[Hsl.o];exact hi28),?_,fun j z hj h=>Hs3.o j z (by omega) (by rwa [Zb (by omega)]at h)⟩
      ·exact Rd.chg S8.o ((Chg.refl (· = gs) _).setCell (p:=⟨gs,i,none⟩) (.inl rfl) _) (fun k hk e=>by have:=hk.1;have:=hU gs hug;omega)
      ·have:=B8.o.set (j:=i) (by rw[Zq,Hsl.o];exact hi28) (.int .i64 3);rw[Zey];exact this
      rw[Yy];exact Hmp.o.more ⟨c,.slice At nt Ct,to3⟩ (by first|exact Hin.o rfl|exact Hin.o trivial) Hto3.o
    have d1:decide ((0:Int)<(v6:Int))=false:=Yf;go_wp2_with fail;go_meet;exact⟨_,_,_,si,G3.o,by have:=Hl.o;omega,S3.o,B3.o,Hsl.o,Hsi.o,Hmp.o.same c Hsb.o.2.1 Hsb.o.2.2,fun j z hj h=>Hs3.o j z (by omega) h⟩
  clear G0 S0 B0 G1 S1 B1 Hl Hsl Hmp Hs3 Hsi Hsb si;obtain⟨dv,dec,st,si,hg,hl,hs,hb,hsl,hsi,hmq,hs3⟩:=hcut;rename World=>w5
  have G4:=Y8 hg;have Hl:=Y8 hl;have S4:=Y8 hs;have B4:=Y8 hb;have Hsl:=Y8 hsl;have Hmq:=Y8 hmq;have Hs3:=Y8 hs3;clear hg hl hs hb hsl hmq hs3;have cg:=B4.o.at_ i (by rw[Zq,Hsl.o];exact hi28);rw[Zn,hsi]at cg;simp only[Zev]at cg;have mg:=lat cg;clear hsi;go_upto_region 11 with fail;go_region_with (go_at_call 46;refine(add_any b 5 ((cs.set 5 u).set 8 dv) u l c c 0 si _ ((G4.o.ext (Yk _).drew).box) (by simp[Yv,hcl]) (Vh.ext S4.o (Yk _).drew) (fun e=>by have:=hU b G4.o.ub;have:=e.1;omega) (by have:=Hl2.o;omega)).mono ?_;rintro e w7 ⟨u7,l7,rfl,hb7,hs7,hl7,hc7⟩;have B7:=Y8 hb7;have S7:=Y8 hs7;have L7:=Y8 hl7;have C7:=Y8 hc7;clear hb7 hs7 hl7 hc7);all_goals
   go_wp2_with fail;go_roundw;case rel =>
    refine⟨i+1,dv,dec,u7,l7,st,by omega,by go_num,?_,Hl.o,?_,by have:=(Hmq.o.next Hc.o (by rcases L7.o with h|h;exact .inl h;exact .inr ⟨by have:=h.1;omega,h.2⟩)).sp.len;omega,?_,Hsl.o,Hmq.o.next Hc.o (by rcases L7.o with h|h;exact .inl h;exact .inr ⟨by have:=h.1;omega,h.2⟩),fun j z hj h=>Hs3.o j z (by omega) h⟩
    ·have:=(G4.o.ext (Yk _).drew).cell (j:=5) (by omega) B7.o C7.o
     rwa [Zdt]at this
    ·exact Rd.mono S7.o fun k hk _=>by
      rcases hk with hk|hk
      ·exact hk
      have h9:=G4.o.chg.size;have hk':w5.heap.size≤k:=hk;exact⟨by omega,fun e=>by have:=(G4.o.dOwn.lt k e).2;omega⟩
    exact((B4.o.ext (Yk _).drew).chg C7.o hgb)
   case measure=>(simp[intOf];omega)
 have hd_i:decide ((i:Int)<(28:Int))=false:=Yf;go_wp2_with fail;refine Ys (v:=.tuple #[]) (by simp[results,results48,go_sem]) rfl ⟨dv,dec,u,l,rfl,G0.o.back HX1.o hU,by have:=Hl.o;omega,Rd.mono S0.o fun k hk _=>by have:=hk.1;omega,by have:=Hl2.o;omega,by have:=Hmp.o;rwa [show i=28 by omega]at this⟩
theorem Zpm(w:World)(cs:Array Value)(t:TypeId)(n z:Nat)(h:cs.size=n*z)(hn:n≤1000):Rd (w.alloc (.cells cs t)) (fun k=>w.heap.size≤k) z (.slice (some ⟨w.heap.size,0,none⟩) n n) n cs.toList:=by
 refine⟨by simp[h],_,n,rfl,Ym _,by unfold maxLen;omega,fun _=>⟨w.heap.size,0,rfl,Ym _,by simp,fun j u hu=>?_⟩⟩;rw[Zg7];show(w.alloc (.cells cs t)).cell? ⟨w.heap.size,j,none⟩=some u;have h1:(w.alloc (.cells cs t)).heap[w.heap.size]?=some (.cells cs t):=Zg3 w _;simp only[World.cell?,h1];simpa using hu
theorem Zjm{w:World}{b:Nat}{T:Tbl}(h:Kn w b T):w.cell? ⟨b,0,none⟩=some T.catV∧w.cell? ⟨b,1,none⟩=some T.clsV∧w.cell? ⟨b,2,none⟩=some T.joiV∧w.cell? ⟨b,3,none⟩=some T.bidV∧w.cell? ⟨b,4,none⟩=some T.scrV∧w.cell? ⟨b,5,none⟩=some T.staV∧w.cell? ⟨b,6,none⟩=some T.ignV∧w.cell? ⟨b,7,none⟩=some T.extV∧w.cell? ⟨b,8,none⟩=some T.mapV∧w.cell? ⟨b,9,none⟩=some T.decV∧w.cell? ⟨b,10,none⟩=some T.excV∧w.cell? ⟨b,11,none⟩=some T.proV :=
 ⟨h.at_ 0 (by omega),h.at_ 1 (by omega),h.at_ 2 (by omega),h.at_ 3 (by omega),h.at_ 4 (by omega),h.at_ 5 (by omega),h.at_ 6 (by omega),h.at_ 7 (by omega),h.at_ 8 (by omega),h.at_ 9 (by omega),h.at_ 10 (by omega),h.at_ 11 (by omega)⟩
def Zi6(w:World):World:=(((((w.alloc (.cells #[.int .i64 111] 3)).alloc (.cells #[.int .i64 114,.int .i64 110] 3)).alloc (.cells #[.int .i64 97] 3)).alloc (.cells #[.int .i64 97] 3)).alloc (.cells #[.int .i64 111,.int .i64 803] 3)).alloc (.cells #[.int .i64 48,.slice (some ⟨w.heap.size,0,none⟩) 1 1,.int .i64 109,.slice (some ⟨w.heap.size+1,0,none⟩) 2 2,.int .i64 945,.slice (some ⟨w.heap.size+1+1,0,none⟩) 1 1,.int .i64 1072,.slice (some ⟨w.heap.size+1+1+1,0,none⟩) 1 1,.int .i64 1632,.slice (some ⟨w.heap.size+1+1+1+1,0,none⟩) 2 2] 106)
theorem Zqr(w:World):Ext w (Zi6 w)∧∃ L:List MpS,L.length=5∧RdE mpE (Zi6 w) (fun k=>w.heap.size≤k) (.slice (some ⟨w.heap.size+5,0,none⟩) 5 5) L∧(∀ m∈L,Xw (Zi6 w) (fun k=>w.heap.size≤k) m.1.tv m.1.to_∧1≤m.1.to_.length∧m.1.to_.length≤2)∧(L.map fun m=>(m.1.fr,m.1.to_))=Lw:=by
 have a0:=Wl w 3 [111] 1 rfl _ rfl (by omega);obtain⟨w1,h1⟩:=gnX (w.alloc (.cells #[.int .i64 111] 3));have s1:w1.heap.size=w.heap.size+1:=by rw[← h1];simp
 have a1:=Wl w1 3 [114,110] 2 rfl _ rfl (by omega);obtain⟨w2,h2⟩:=gnX (w1.alloc (.cells #[.int .i64 114,.int .i64 110] 3));have s2:w2.heap.size=w.heap.size+1+1:=by rw[← h2];simp[s1]
 have a2:=Wl w2 3 [97] 1 rfl _ rfl (by omega);obtain⟨w3,h3⟩:=gnX (w2.alloc (.cells #[.int .i64 97] 3));have s3:w3.heap.size=w.heap.size+1+1+1:=by rw[← h3];simp[s2]
 have a3:=Wl w3 3 [97] 1 rfl _ rfl (by omega);obtain⟨w4,h4⟩:=gnX (w3.alloc (.cells #[.int .i64 97] 3));have s4:w4.heap.size=w.heap.size+1+1+1+1:=by rw[← h4];simp[s3]
 have a4:=Wl w4 3 [111,803] 2 rfl _ rfl (by omega);obtain⟨w5,h5⟩:=gnX (w4.alloc (.cells #[.int .i64 111,.int .i64 803] 3));have s5:w5.heap.size=w.heap.size+5:=by rw[← h5];simp[s4]
 have x1:Ext w w1:=by rw[← h1];exact(Yk _).alloc _
 have x2:Ext w1 w2:=by rw[← h2];exact(Yk _).alloc _
 have x3:Ext w2 w3:=by rw[← h3];exact(Yk _).alloc _
 have x4:Ext w3 w4:=by rw[← h4];exact(Yk _).alloc _
 have x5:Ext w4 w5:=by rw[← h5];exact(Yk _).alloc _
 simp only[Zg4,Zfv]at a0 a1 a2 a3 a4;rw[h1]at a0;rw[h2,s1]at a1;rw[h3,s2]at a2;rw[h4,s3]at a3;rw[h5,s4]at a4;have hr:=Zpm w5 #[.int .i64 48,.slice (some ⟨w.heap.size,0,none⟩) 1 1,.int .i64 109,.slice (some ⟨w.heap.size+1,0,none⟩) 2 2,.int .i64 945,.slice (some ⟨w.heap.size+1+1,0,none⟩) 1 1,.int .i64 1072,.slice (some ⟨w.heap.size+1+1+1,0,none⟩) 1 1,.int .i64 1632,.slice (some ⟨w.heap.size+1+1+1+1,0,none⟩) 2 2] 106 5 2 rfl (by omega);have e:Zi6 w=w5.alloc (.cells #[.int .i64 48,.slice (some ⟨w.heap.size,0,none⟩) 1 1,.int .i64 109,.slice (some ⟨w.heap.size+1,0,none⟩) 2 2,.int .i64 945,.slice (some ⟨w.heap.size+1+1,0,none⟩) 1 1,.int .i64 1072,.slice (some ⟨w.heap.size+1+1+1,0,none⟩) 1 1,.int .i64 1632,.slice (some ⟨w.heap.size+1+1+1+1,0,none⟩) 2 2] 106):=by
  rw[← h5,← h4,← h3,← h2,← h1];rfl
 rw[e];rw[s5]at hr;have x6:=(Yk w5).alloc (.cells #[.int .i64 48,.slice (some ⟨w.heap.size,0,none⟩) 1 1,.int .i64 109,.slice (some ⟨w.heap.size+1,0,none⟩) 2 2,.int .i64 945,.slice (some ⟨w.heap.size+1+1,0,none⟩) 1 1,.int .i64 1072,.slice (some ⟨w.heap.size+1+1+1,0,none⟩) 1 1,.int .i64 1632,.slice (some ⟨w.heap.size+1+1+1+1,0,none⟩) 2 2] 106);have x16:=x2.trans (x3.trans (x4.trans (x5.trans x6)));refine⟨x1.trans x16,[⟨⟨48,.slice (some ⟨w.heap.size,0,none⟩) 1 1,[111]⟩,rfl⟩,⟨⟨109,.slice (some ⟨w.heap.size+1,0,none⟩) 2 2,[114,110]⟩,rfl⟩,⟨⟨945,.slice (some ⟨w.heap.size+1+1,0,none⟩) 1 1,[97]⟩,rfl⟩,⟨⟨1072,.slice (some ⟨w.heap.size+1+1+1,0,none⟩) 1 1,[97]⟩,rfl⟩,⟨⟨1632,.slice (some ⟨w.heap.size+1+1+1+1,0,none⟩) 2 2,[111,803]⟩,rfl⟩],rfl,?_,?_,rfl⟩
 ·exact Rd.mono hr fun k hk _=>by omega
 intro m hm;simp only[Zg,Zh,Zfi]at hm;rcases hm with rfl|rfl|rfl|rfl|rfl
 ·exact⟨Rd.mono (RdE.ext a0 x16) fun k hk _=>hk,by simp,by simp⟩
 ·exact⟨Rd.mono (RdE.ext a1 (x3.trans (x4.trans (x5.trans x6)))) fun k hk _=>by omega,by simp,by simp⟩
 ·exact⟨Rd.mono (RdE.ext a2 (x4.trans (x5.trans x6))) fun k hk _=>by omega,by simp,by simp⟩
 ·exact⟨Rd.mono (RdE.ext a3 (x5.trans x6)) fun k hk _=>by omega,by simp,by simp⟩
 exact⟨Rd.mono (RdE.ext a4 x6) fun k hk _=>by omega,by simp,by simp⟩
theorem Zj7{w:World}{S:Nat→Prop}{n c g:Nat}{l:List MpS}(h:RdE mpE w S (.slice (some ⟨g,0,none⟩) n c) l){j:Nat}{m:MpS}(hj:l[j]?=some m):w.cell? ⟨g,j*2,none⟩=some (.int .i64 m.1.fr)∧w.cell? ⟨g,j*2+1,none⟩=some m.1.tv:=by
 have hj2:(l.map Subtype.val)[j]?=some m.1:=by rw[Zn,hj];rfl
 obtain⟨h1,h2⟩:=Uh hj2;obtain⟨g',o',c',e,_,_,_,_,hc⟩:=Rd.at_ h (Zr.1 hj).1;simp only[Yd,Yc,Zga,Zg0,Zfw]at e;obtain⟨⟨rfl,rfl⟩,-,rfl⟩:=e;have k1:=hc _ _ h1;have k2:=hc _ _ h2;rw[Zg7]at k1 k2;exact⟨k1,k2⟩
def Zt5(T:Tbl)(U:Nat→Prop)(w0:World)(B b s:Nat)(cs:List Value)(e:Ending)(w':World):Prop :=
 ∃ (dv:Value) (dec:List MpS),e=.returned (.tuple #[])∧Bt U w0 w' B b s cs 11 dv dec∧dec.length≤5∧Ztm T (dec.map Subtype.val) 5
theorem Pg(U:Nat→Prop)(B b s:Nat)(T:Tbl)(w:World)(hT:Xg w (fun k=>¬ U k∧k<w.heap.size) T)(hp:T.pro=[])(hpv:T.proV=.slice none 0 0)(h:Bt U w w B b s (Qk T) 11 (.slice none 0 0) []) :
 Calls prog 49 #[.pointer (some ⟨s,0,none⟩),.pointer (some ⟨b,0,none⟩)] w (Zt5 T U w B b s (Qk T)):=by
 have H:=Y8 h;have HT:=Y8 hT;clear h hT;go_enter func49,ntmps49;go_wp2_with fail;have hlit:=Zqr w;obtain⟨W5,hW5⟩:=gnX (Zi6 w);rw[hW5]at hlit;unfold Zi6 at hW5;rw[hW5];obtain⟨hx5,L,hLl,hLr,hLt,hLp⟩:=hlit;have G5:=Y8 (H.o.ext hx5);have HX5:=Y8 hx5;have HLr:=Y8 hLr;have HLt:=Y8 hLt;have HLl:=Y8 hLl;have HLp:=Y8 hLp;clear hW5 hx5 hLr hLt hLl hLp;have hlW:w.heap.size+1+1+1+1+1=w.heap.size+5:=by omega
 rw[hlW];obtain⟨gl,hgl⟩:=gnX (w.heap.size+5);rw[hgl]at HLr⊢;go_loopw [18] (fun o wx=>∃ (j:Nat) (dv:Value) (dec:List MpS),j≤5∧o=.int .i64 (j:Int)∧Bt U w wx B b s (Qk T) 11 dv dec∧dec.length≤j∧Chg U W5 wx∧(∀ k,dv.ownBlock=some k→W5.heap.size≤k)∧Ztm T (dec.map Subtype.val) j) (fun o _=>5-(intOf o).toNat);case atStart=>exact⟨0,_,[],by omega,rfl,G5.o,by simp,Chg.refl _ _,(by intro k h;cases h),Ztm.nil T⟩
 rename World=>wx
 obtain⟨j,dv,dec,hj,rfl,hg,hl,hc,hn,hpp⟩:=hrel;have Hpp:=Y8 hpp;have G0:=Y8 hg;have Hl:=Y8 hl;have Hc:=Y8 hc;have Hn:=Y8 hn;clear hg hl hc hn hpp;by_cases hj5:j<5
 ·have hd_j:decide ((j:Int)<(5:Int))=true:=Ye;have i0_j:(0:Int)≤(j:Int):=by omega
  have i1_j:(j:Int)<(5:Int):=by omega
  obtain⟨m,hm⟩:=geX (l:=L) (i:=j) (by rw[HLl.o];exact hj5);have hU:=G0.o.hU;have hrow:RdE mpE wx (fun k=>w.heap.size≤k) (.slice (some ⟨gl,0,none⟩) 5 5) L:=Rd.chg HLr.o Hc.o (fun k hk e=>by have:=hU k e;omega);obtain⟨p0,p1⟩:=Zj7 hrow hm;obtain⟨hti0,hl1,hl2⟩:=HLt.o m (Zy hm);have hti:=Xw.chg hti0 Hc.o (fun k hk e=>by have:=hU k e;omega);obtain⟨Am,Cm,htv,hlm,hcm⟩:=hti.shape;have hmv:m.1=⟨m.1.fr,.slice Am m.1.to_.length Cm,m.1.to_⟩:=by rw[← htv]
  rw[htv]at p1 hti;obtain⟨nm,hnm⟩:=gnX (m.1.to_.length);rw[hnm]at p1 hti hl1 hl2;obtain⟨z,hz⟩:∃ z,m.1.to_[nm-1]?=some z:=⟨m.1.to_[nm-1]'(by omega),Zz _⟩;obtain⟨gm,om,cm,hvv,_,_,hgw,hgm,cz⟩:=hti.get hz;have Hgm:=Y8 (show w.heap.size≤gm from hgw);rw[hnm]at hvv;obtain⟨rfl,-,rfl⟩:=slcX hvv;clear hvv;obtain⟨n1,hn1⟩:=gnX (nm-1);rw[hn1]at cz hz;have Hti:=Y8 hti;have Hmv:=Y8 hmv;have Hnm:=Y8 hnm;have Htv:=Y8 htv;have Hz:=Y8 hz;have r1:IntKind.i64.wrap ((nm:Int)-1)=(n1:Int):=by rw[Yp _ (by omega)];omega
  have i1:(0:Int)≤(n1:Int):=by omega
  have i2:(n1:Int)<(nm:Int):=by omega
  have i3:n1<nm:=by omega
  have Hn1:=Y8 hn1;have Hmj:=Y8 (show Lw[j]?=some (m.1.fr,m.1.to_) by rw[← HLp.o,Zn,hm];rfl);have Hzl:=Y8 (show m.1.to_.getLastD 0=z by
   have h1:0<m.1.to_.length:=by omega
   rw[Zcq,Zdy,hnm,hn1,hz];rfl)
  clear hmv hnm htv hti hti0 hz hn1 hlW;go_upto_region 3 with fail;obtain⟨W6,hW6⟩:=gnX (wx.alloc (.cells #[.int .i64 m.1.fr,.slice (some ⟨gm,om,none⟩) nm Cm] 106));have hxw:=(Yk wx).alloc (.cells #[.int .i64 m.1.fr,.slice (some ⟨gm,om,none⟩) nm Cm] 106);have hmb:=Xm.new wx #[.int .i64 m.1.fr,.slice (some ⟨gm,om,none⟩) nm Cm] 106;obtain⟨mb,hmb2⟩:=gnX (wx.heap.size);rw[hW6]at hxw hmb;rw[hmb2]at hmb;rw[hW6,hmb2];clear hW6;have cz6:=(hxw.cell (p:=⟨gm,om+n1,none⟩) hgm).trans cz;have hgm6:=Zgp hgm hxw.size;have G6:=Y8 (G0.o.ext hxw);have C6:=Y8 (Hc.o.trans (hxw.chg U));have Hmb:=Y8 hmb;have hsx:s<mb:=by have:=G0.o.src.lt;omega
  have Hmb2:=Y8 hmb2;clear hmb2;have hgs:gm≠s:=by have:=hU s G0.o.us;have:=Hgm.o;omega
  obtain⟨T2,hT2c,hTi,hT2⟩:∃ T2:Tbl,Qk T2=(Qk T).set 11 dv∧T2.ign=T.ign∧∀ W,Vv B s W6 W→Xg W (fun _=>True) T2:=⟨{T with proV:=dv,pro:=dec.map Subtype.val},rfl,rfl,fun W t=>by
   have h1:Xg W (fun k=>¬ U k∧k<w.heap.size) T:=(HT.o.chg G6.o.chg (fun k hk e=>hk.1 e)).chg t.chg (fun k hk e=>hk.1 (e▸G6.o.us));have g:=G6.o.to t;exact⟨Rd.mono h1.cat fun _ _ _=>trivial,Rd.mono h1.cls fun _ _ _=>trivial,Rd.mono h1.joi fun _ _ _=>trivial,Rd.mono h1.bid fun _ _ _=>trivial,Rd.mono h1.scr fun _ _ _=>trivial,Rd.mono h1.sta fun _ _ _=>trivial,Rd.mono h1.ign fun _ _ _=>trivial,
    ⟨Rd.mono h1.ext.1 fun _ _ _=>trivial,fun m hm=>Rd.mono (h1.ext.2 m hm) fun _ _ _=>trivial⟩,⟨Rd.mono h1.map.1 fun _ _ _=>trivial,fun m hm=>Rd.mono (h1.map.2 m hm) fun _ _ _=>trivial⟩,⟨Rd.mono h1.dec.1 fun _ _ _=>trivial,fun m hm=>Rd.mono (h1.dec.2 m hm) fun _ _ _=>trivial⟩,Rd.mono h1.exc fun _ _ _=>trivial,
    ⟨by have:=g.dOwn.rd;exact Rd.mono (show Rd W _ 2 dv (dec.map Subtype.val).length (Vp (dec.map Subtype.val)) by rw[Zq];exact this) fun _ _ _=>trivial,fun q hq=>by
      obtain⟨x,hx,rfl⟩:=Zgg.1 hq;exact Rd.mono (g.tos x hx).1 fun _ _ _=>trivial⟩⟩⟩
  have HTi:=Y8 hTi;clear hTi;have HB:=fun(W:World) (t:Vv B s W6 W)=>(show Kn W b T2 from⟨(G6.o.to t).box.lt,fun k hk=>by rw[hT2c];exact(G6.o.to t).box.at_ k (by simpa[Qk]using hk)⟩)
  have HM:=fun(W:World) (t:Vv B s W6 W)=>Hmb.o.chg t.chg (show ¬ mb=s by omega)
  have HC:=fun(W:World) (t:Vv B s W6 W)=>(t.chg.cell (p:=⟨gm,om+n1,none⟩) hgm6 hgs).trans cz6
  have T0:=Y8 (Vv.start (B:=B) (b:=s) G6.o.src);clear hxw hmb cz cz6 p0 p1 hrow;go_cut [46] (fun o wc=>∃ q:Bool,o=.bool q∧Vv B s W6 wc∧(q=false→(Wk T.ign m.1.fr==1)=false∧(Wk T.ign z==1)=false));case first =>
   obtain⟨z0,z1,z2,z3,z4,z5,z6,z7,z8,z9,z10,z11⟩:=Zjm (HB W6 T0.o);have k0:=(HM W6 T0.o).at_ 0 (by simp);have k1:=(HM W6 T0.o).at_ 1 (by simp);have k2:=HC W6 T0.o;simp only[Zx,Zw]at k0 k1;obtain⟨v7,hv7,A7⟩:=Ziz s 3 (by omega) (by omega) W6.drew B T0.o.drew.src;by_cases hv0:v7=0
   ·subst hv0;refine Zg8 (S:=fun w'=>w'.cell? ⟨b,0,none⟩=some T2.catV∧w'.cell? ⟨b,1,none⟩=some T2.clsV∧w'.cell? ⟨b,2,none⟩=some T2.joiV∧w'.cell? ⟨b,3,none⟩=some T2.bidV∧w'.cell? ⟨b,4,none⟩=some T2.scrV∧w'.cell? ⟨b,5,none⟩=some T2.staV∧w'.cell? ⟨b,6,none⟩=some T2.ignV∧w'.cell? ⟨b,7,none⟩=some T2.extV∧w'.cell? ⟨b,8,none⟩=some T2.mapV∧w'.cell? ⟨b,9,none⟩=some T2.decV∧w'.cell? ⟨b,10,none⟩=some T2.excV∧w'.cell? ⟨b,11,none⟩=some T2.proV∧w'.cell? ⟨mb,0,none⟩=some (.int .i64 m.1.fr)∧w'.cell? ⟨mb,1,none⟩=some (.slice (some ⟨gm,om,none⟩) nm Cm)∧w'.cell? ⟨gm,om+n1,none⟩=some (.int .i64 z)) (by kernel_rfl) ?_ (fun hHeld=>?_)
    ·exact⟨z0,z1,z2,z3,z4,z5,z6,z7,z8,z9,z10,z11,k0,k1,k2⟩
    refine tksX [0] 24 (by assumption) ?_;simp only[Z3,Z4,Z5,Zw,Zx];(repeat((first|(refine Xs (v:=?_) (by rfl) ?_ ?_;rotate_left;(focus((intro wT hST;(try dsimp only at hST);go_simp);(first|done|(with_reducible rfl)))))|(refine Qv (by rfl) ?_));try simp only[Act.put,Zv,Zu,Zt]));refine Xp ?_;refine rdoX 1 (fun K hK=>?_);go_simp;refine A7.mono ?_;rintro e w7 ⟨rfl,h7⟩;have T7:=Y8 (T0.o.drew.trans h7);obtain⟨z0a,z1a,z2a,z3a,z4a,z5a,z6a,z7a,z8a,z9a,z10a,z11a⟩:=Zjm (HB w7 T7.o);have k0a:=(HM w7 T7.o).at_ 0 (by simp);have k1a:=(HM w7 T7.o).at_ 1 (by simp);have k2a:=HC w7 T7.o;(simp only[Zx,Zw]at k0a k1a);clear h7;(try go_wp2_with fail);refine hK.out _ _ ?_ (fun hHeld=>?_);(focus((try dsimp only);(first|exact⟨z0,z1,z2,z3,z4,z5,z6,z7,z8,z9,z10,z11,k0,k1,k2⟩|exact⟨z0a,z1a,z2a,z3a,z4a,z5a,z6a,z7a,z8a,z9a,z10a,z11a,k0a,k1a,k2a⟩|exact⟨z0b,z1b,z2b,z3b,z4b,z5b,z6b,z7b,z8b,z9b,z10b,z11b,k0b,k1b,k2b⟩|exact⟨z0c,z1c,z2c,z3c,z4c,z5c,z6c,z7c,z8c,z9c,z10c,z11c,k0c,k1c,k2c⟩)));clear hK K;try simp only[Act.put,Zv,Zu,Zt]
    refine tksX [2,3,4,5,6,7,8,9,10,11,12,13,14,15,16,17,18,19,20,21,22,23,24] 0 (by assumption) ?_;simp only[Z3,Z4,Z5,Zw,Zx];(repeat((first|(refine Xs (v:=?_) (by rfl) ?_ ?_;rotate_left;(focus((intro wT hST;(try dsimp only at hST);go_simp);(first|done|(with_reducible rfl)))))|(refine Qv (by rfl) ?_));try simp only[Act.put,Zv,Zu,Zt]));refine Xp ?_;refine dneX ?_;go_wp2_with fail;go_meet;exact⟨_,rfl,T7.o,fun h=>by cases h⟩
   have e1:((v7:Int)==0)=false:=by simp;omega
   have e2:(v7==0)=false:=by simp;omega
   have e3:¬ (v7:Int)=0:=by omega
   clear hv0;cases hq8:(Wk T2.ign m.1.fr==1)
   ·have Hq8:=Y8 hq8;refine Zg8 (S:=fun w'=>w'.cell? ⟨b,0,none⟩=some T2.catV∧w'.cell? ⟨b,1,none⟩=some T2.clsV∧w'.cell? ⟨b,2,none⟩=some T2.joiV∧w'.cell? ⟨b,3,none⟩=some T2.bidV∧w'.cell? ⟨b,4,none⟩=some T2.scrV∧w'.cell? ⟨b,5,none⟩=some T2.staV∧w'.cell? ⟨b,6,none⟩=some T2.ignV∧w'.cell? ⟨b,7,none⟩=some T2.extV∧w'.cell? ⟨b,8,none⟩=some T2.mapV∧w'.cell? ⟨b,9,none⟩=some T2.decV∧w'.cell? ⟨b,10,none⟩=some T2.excV∧w'.cell? ⟨b,11,none⟩=some T2.proV∧w'.cell? ⟨mb,0,none⟩=some (.int .i64 m.1.fr)∧w'.cell? ⟨mb,1,none⟩=some (.slice (some ⟨gm,om,none⟩) nm Cm)∧w'.cell? ⟨gm,om+n1,none⟩=some (.int .i64 z)) (by kernel_rfl) ?_ (fun hHeld=>?_)
    ·exact⟨z0,z1,z2,z3,z4,z5,z6,z7,z8,z9,z10,z11,k0,k1,k2⟩
    refine tksX [0] 24 (by assumption) ?_;simp only[Z3,Z4,Z5,Zw,Zx];(repeat((first|(refine Xs (v:=?_) (by rfl) ?_ ?_;rotate_left;(focus((intro wT hST;(try dsimp only at hST);go_simp);(first|done|(with_reducible rfl)))))|(refine Qv (by rfl) ?_));try simp only[Act.put,Zv,Zu,Zt]));refine Xp ?_;refine rdoX 1 (fun K hK=>?_);go_simp;refine A7.mono ?_;rintro e w7 ⟨rfl,h7⟩;have T7:=Y8 (T0.o.drew.trans h7);obtain⟨z0a,z1a,z2a,z3a,z4a,z5a,z6a,z7a,z8a,z9a,z10a,z11a⟩:=Zjm (HB w7 T7.o);have k0a:=(HM w7 T7.o).at_ 0 (by simp);have k1a:=(HM w7 T7.o).at_ 1 (by simp);have k2a:=HC w7 T7.o;(simp only[Zx,Zw]at k0a k1a);clear h7;(try go_wp2_with fail);refine hK.out _ _ ?_ (fun hHeld=>?_);(focus((try dsimp only);(first|exact⟨z0,z1,z2,z3,z4,z5,z6,z7,z8,z9,z10,z11,k0,k1,k2⟩|exact⟨z0a,z1a,z2a,z3a,z4a,z5a,z6a,z7a,z8a,z9a,z10a,z11a,k0a,k1a,k2a⟩|exact⟨z0b,z1b,z2b,z3b,z4b,z5b,z6b,z7b,z8b,z9b,z10b,z11b,k0b,k1b,k2b⟩|exact⟨z0c,z1c,z2c,z3c,z4c,z5c,z6c,z7c,z8c,z9c,z10c,z11c,k0c,k1c,k2c⟩)));clear hK K;try simp only[Act.put,Zv,Zu,Zt]
    refine tksX [2,3,4,5,6,7,8] 16 (by assumption) ?_;simp only[Z3,Z4,Z5,Zw,Zx];(repeat((first|(refine Xs (v:=?_) (by rfl) ?_ ?_;rotate_left;(focus((intro wT hST;(try dsimp only at hST);go_simp);(first|done|(with_reducible rfl)))))|(refine Qv (by rfl) ?_));try simp only[Act.put,Zv,Zu,Zt]));refine Xp ?_;refine rdoX 9 (fun K hK=>?_);go_simp;refine(Qx T2 m.1.fr _ (hT2 _ T7.o)).mono ?_;rintro e w8 ⟨rfl,hx8⟩;have T8:=Y8 (T7.o.ext hx8);rw[hq8];obtain⟨z0b,z1b,z2b,z3b,z4b,z5b,z6b,z7b,z8b,z9b,z10b,z11b⟩:=Zjm (HB w8 T8.o);have k0b:=(HM w8 T8.o).at_ 0 (by simp);have k1b:=(HM w8 T8.o).at_ 1 (by simp);have k2b:=HC w8 T8.o;(simp only[Zx,Zw]at k0b k1b);clear hx8;(try go_wp2_with fail);refine hK.out _ _ ?_ (fun hHeld=>?_);(focus((try dsimp only);(first|exact⟨z0,z1,z2,z3,z4,z5,z6,z7,z8,z9,z10,z11,k0,k1,k2⟩|exact⟨z0a,z1a,z2a,z3a,z4a,z5a,z6a,z7a,z8a,z9a,z10a,z11a,k0a,k1a,k2a⟩|exact⟨z0b,z1b,z2b,z3b,z4b,z5b,z6b,z7b,z8b,z9b,z10b,z11b,k0b,k1b,k2b⟩|exact⟨z0c,z1c,z2c,z3c,z4c,z5c,z6c,z7c,z8c,z9c,z10c,z11c,k0c,k1c,k2c⟩)));clear hK K;try simp only[Act.put,Zv,Zu,Zt]
    refine tksX [10,11,12,13,14,15,16,17,18,19,20,21,22] 2 (by assumption) ?_;simp only[Z3,Z4,Z5,Zw,Zx];(repeat((first|(refine Xs (v:=?_) (by rfl) ?_ ?_;rotate_left;(focus((intro wT hST;(try dsimp only at hST);go_simp);(first|done|(with_reducible rfl)))))|(refine Qv (by rfl) ?_));try simp only[Act.put,Zv,Zu,Zt]));refine Xp ?_;refine rdoX 23 (fun K hK=>?_);go_simp;refine(Qx T2 z _ (hT2 _ T8.o)).mono ?_;rintro e w9 ⟨rfl,hx9⟩;have T9:=Y8 (T8.o.ext hx9);obtain⟨q9,hq9⟩:=gnX ((Wk T2.ign z==1));have Hq9:=Y8 hq9;rw[hq9];obtain⟨z0c,z1c,z2c,z3c,z4c,z5c,z6c,z7c,z8c,z9c,z10c,z11c⟩:=Zjm (HB w9 T9.o);have k0c:=(HM w9 T9.o).at_ 0 (by simp);have k1c:=(HM w9 T9.o).at_ 1 (by simp);have k2c:=HC w9 T9.o;(simp only[Zx,Zw]at k0c k1c);clear hx9;(try go_wp2_with fail);refine hK.out _ _ ?_ (fun hHeld=>?_);(focus((try dsimp only);(first|exact⟨z0,z1,z2,z3,z4,z5,z6,z7,z8,z9,z10,z11,k0,k1,k2⟩|exact⟨z0a,z1a,z2a,z3a,z4a,z5a,z6a,z7a,z8a,z9a,z10a,z11a,k0a,k1a,k2a⟩|exact⟨z0b,z1b,z2b,z3b,z4b,z5b,z6b,z7b,z8b,z9b,z10b,z11b,k0b,k1b,k2b⟩|exact⟨z0c,z1c,z2c,z3c,z4c,z5c,z6c,z7c,z8c,z9c,z10c,z11c,k0c,k1c,k2c⟩)));clear hK K;try simp only[Act.put,Zv,Zu,Zt]
    refine tksX [24] 0 (by assumption) ?_;simp only[Z3,Z4,Z5,Zw,Zx];(repeat((first|(refine Xs (v:=?_) (by rfl) ?_ ?_;rotate_left;(focus((intro wT hST;(try dsimp only at hST);go_simp);(first|done|(with_reducible rfl)))))|(refine Qv (by rfl) ?_));try simp only[Act.put,Zv,Zu,Zt]));refine Xp ?_;refine dneX ?_;go_wp2_with fail;go_meet;exact⟨_,rfl,T9.o,fun h=>⟨by rw[← HTi.o];exact Hq8.o,by rw[← HTi.o];exact Hq9.o.trans h⟩⟩
   refine Zg8 (S:=fun w'=>w'.cell? ⟨b,0,none⟩=some T2.catV∧w'.cell? ⟨b,1,none⟩=some T2.clsV∧w'.cell? ⟨b,2,none⟩=some T2.joiV∧w'.cell? ⟨b,3,none⟩=some T2.bidV∧w'.cell? ⟨b,4,none⟩=some T2.scrV∧w'.cell? ⟨b,5,none⟩=some T2.staV∧w'.cell? ⟨b,6,none⟩=some T2.ignV∧w'.cell? ⟨b,7,none⟩=some T2.extV∧w'.cell? ⟨b,8,none⟩=some T2.mapV∧w'.cell? ⟨b,9,none⟩=some T2.decV∧w'.cell? ⟨b,10,none⟩=some T2.excV∧w'.cell? ⟨b,11,none⟩=some T2.proV∧w'.cell? ⟨mb,0,none⟩=some (.int .i64 m.1.fr)∧w'.cell? ⟨mb,1,none⟩=some (.slice (some ⟨gm,om,none⟩) nm Cm)∧w'.cell? ⟨gm,om+n1,none⟩=some (.int .i64 z)) (by kernel_rfl) ?_ (fun hHeld=>?_)
   ·exact⟨z0,z1,z2,z3,z4,z5,z6,z7,z8,z9,z10,z11,k0,k1,k2⟩
   refine tksX [0] 24 (by assumption) ?_;simp only[Z3,Z4,Z5,Zw,Zx];(repeat((first|(refine Xs (v:=?_) (by rfl) ?_ ?_;rotate_left;(focus((intro wT hST;(try dsimp only at hST);go_simp);(first|done|(with_reducible rfl)))))|(refine Qv (by rfl) ?_));try simp only[Act.put,Zv,Zu,Zt]));refine Xp ?_;refine rdoX 1 (fun K hK=>?_);go_simp;refine A7.mono ?_;rintro e w7 ⟨rfl,h7⟩;have T7:=Y8 (T0.o.drew.trans h7);obtain⟨z0a,z1a,z2a,z3a,z4a,z5a,z6a,z7a,z8a,z9a,z10a,z11a⟩:=Zjm (HB w7 T7.o);have k0a:=(HM w7 T7.o).at_ 0 (by simp);have k1a:=(HM w7 T7.o).at_ 1 (by simp);have k2a:=HC w7 T7.o;(simp only[Zx,Zw]at k0a k1a);clear h7;(try go_wp2_with fail);refine hK.out _ _ ?_ (fun hHeld=>?_);(focus((try dsimp only);(first|exact⟨z0,z1,z2,z3,z4,z5,z6,z7,z8,z9,z10,z11,k0,k1,k2⟩|exact⟨z0a,z1a,z2a,z3a,z4a,z5a,z6a,z7a,z8a,z9a,z10a,z11a,k0a,k1a,k2a⟩|exact⟨z0b,z1b,z2b,z3b,z4b,z5b,z6b,z7b,z8b,z9b,z10b,z11b,k0b,k1b,k2b⟩|exact⟨z0c,z1c,z2c,z3c,z4c,z5c,z6c,z7c,z8c,z9c,z10c,z11c,k0c,k1c,k2c⟩)));clear hK K;try simp only[Act.put,Zv,Zu,Zt]
   refine tksX [2,3,4,5,6,7,8] 16 (by assumption) ?_;simp only[Z3,Z4,Z5,Zw,Zx];(repeat((first|(refine Xs (v:=?_) (by rfl) ?_ ?_;rotate_left;(focus((intro wT hST;(try dsimp only at hST);go_simp);(first|done|(with_reducible rfl)))))|(refine Qv (by rfl) ?_));try simp only[Act.put,Zv,Zu,Zt]));refine Xp ?_;refine rdoX 9 (fun K hK=>?_);go_simp;refine(Qx T2 m.1.fr _ (hT2 _ T7.o)).mono ?_;rintro e w8 ⟨rfl,hx8⟩;have T8:=Y8 (T7.o.ext hx8);rw[hq8];obtain⟨z0b,z1b,z2b,z3b,z4b,z5b,z6b,z7b,z8b,z9b,z10b,z11b⟩:=Zjm (HB w8 T8.o);have k0b:=(HM w8 T8.o).at_ 0 (by simp);have k1b:=(HM w8 T8.o).at_ 1 (by simp);have k2b:=HC w8 T8.o;(simp only[Zx,Zw]at k0b k1b);clear hx8;(try go_wp2_with fail);refine hK.out _ _ ?_ (fun hHeld=>?_);(focus((try dsimp only);(first|exact⟨z0,z1,z2,z3,z4,z5,z6,z7,z8,z9,z10,z11,k0,k1,k2⟩|exact⟨z0a,z1a,z2a,z3a,z4a,z5a,z6a,z7a,z8a,z9a,z10a,z11a,k0a,k1a,k2a⟩|exact⟨z0b,z1b,z2b,z3b,z4b,z5b,z6b,z7b,z8b,z9b,z10b,z11b,k0b,k1b,k2b⟩|exact⟨z0c,z1c,z2c,z3c,z4c,z5c,z6c,z7c,z8c,z9c,z10c,z11c,k0c,k1c,k2c⟩)));clear hK K;try simp only[Act.put,Zv,Zu,Zt]
   refine tksX [10,11,12,13,14,15,16,17,18,19,20,21,22,23,24] 0 (by assumption) ?_;simp only[Z3,Z4,Z5,Zw,Zx];(repeat((first|(refine Xs (v:=?_) (by rfl) ?_ ?_;rotate_left;(focus((intro wT hST;(try dsimp only at hST);go_simp);(first|done|(with_reducible rfl)))))|(refine Qv (by rfl) ?_));try simp only[Act.put,Zv,Zu,Zt]));refine Xp ?_;refine dneX ?_;go_wp2_with fail;go_meet;exact⟨_,rfl,T8.o,fun h=>by cases h⟩
  obtain⟨q,rfl,hT,hig⟩:=hcut;have Hig:=Y8 hig;clear hig;rename World=>wk
  have G7:=Y8 (G6.o.to hT);have C7:=Y8 (C6.o.thenB hT.chg (fun k _ e=>e▸H.o.us));have Hb7:=Y8 (Hmb.o.chg hT.chg (show ¬ mb=s by omega));have Hr7:=Y8 (show Xw wk (fun k=>w.heap.size≤k∧dv.ownBlock≠some k) (.slice (some ⟨gm,om,none⟩) nm Cm) m.1.to_ from by
   have h1:Xw W5 (fun k=>w.heap.size≤k∧k<W5.heap.size) m.1.tv m.1.to_:=Rd.mono (HLt.o m (Zy hm)).1 fun k hk hl=>⟨hk,hl⟩
   have h2:=Xw.chg h1 C7.o (fun k hk e=>by have:=hU k e;omega);rw[Htv.o]at h2;have h3:Xw wk (fun k=>w.heap.size≤k∧dv.ownBlock≠some k) (.slice (some ⟨gm,om,none⟩) m.1.to_.length Cm) m.1.to_:=Rd.mono h2 fun k hk _=>⟨hk.1,fun e=>by have:=Hn.o k e;omega⟩
   rwa [Hnm.o]at h3)
  clear hT;cases q with
  | true =>
   go_wp2_with fail;go_roundw;case rel=>exact⟨j+1,dv,dec,by omega,by go_num,G7.o,by have:=Hl.o;omega,C7.o,Hn.o,Hpp.o.up⟩
   (simp[intOf];omega)
  | false =>
   obtain⟨A11,C11,rfl,hlC11,hC11⟩:=G7.o.dOwn.shape;have c11:=G7.o.cx (by simp[Qk]);obtain⟨n11,hn11⟩:=gnX (dec.length);rw[hn11]at c11 G7 Hr7 hlC11 Hn;have Hn11:=Y8 hn11;have hn5:n11≤5:=by have:=Hl.o;omega
   clear hn11;have c11a:(wk.alloc (.cells #[.int .i64 m.1.fr,.slice (some ⟨gm,om,none⟩) nm Cm] 106)).cell? ⟨b,11,none⟩=some (.slice A11 n11 C11):=(G7.o.ext ((Yk _).alloc _)).cx (by simp[Qk]);have k0:=Hb7.o.at_ 0 (by simp);have k1:=Hb7.o.at_ 1 (by simp);simp only[Zx,Zw]at k0 k1;go_upto_region 4 with fail;go_region_law (first
    | ((refine Wt mpE (.tmp 51) (.tmp 53) 32 (by rfl) (by rfl) (by rfl) (by rfl) (G7.o.dOwn.ext ((Yk _).drew.alloc _)) (by rfl) (Zqi wk.drew m.1.fr (some ⟨gm,om,none⟩) nm Cm m.1.to_ _ _ rfl) (by rw[Hn11.o];show n11+1≤_;omega) (by show 32≤1000;omega) (by have:=G7.o.chg.size;simp;omega) ?_);intro A8 n8 c8 w8 hg8;have G8:=Y8 ((G7.o.ext (Yk _).drew).grow (by simp[Qk]) (Hr7.o.ext (Yk _).drew) (by show m.1.to_.length≤18;rw[Hnm.o];omega) hg8);have c8':w8.cell? ⟨b,11,none⟩=some (.slice A11 n11 C11):=((((G7.o.ext (Yk _).drew).ext ((Yk _).alloc _)).box.chg hg8.chg (fun e=>by have:=(G7.o.dOwn.lt b e).1;have:=hU b G7.o.ub;omega)).at_ 11 (by simp[Qk])).trans (by simp[Qk]);have f8:=((((G7.o.ext (Yk _).drew).ext ((Yk _).alloc _)).box.chg hg8.chg (fun e=>by have:=(G7.o.dOwn.lt b e).1;have:=hU b G7.o.ub;omega)).fz);have K8:=Y8 hg8;clear hg8))
   all_goals
    go_wp2_with fail;go_roundw;case rel =>
     refine⟨j+1,_,_,by omega,by go_num,G8.o,by rw[Zs,Hn11.o];show n11+1≤j+1;have:=Hl.o;have:=Hn11.o;omega,((C7.o.drew.alloc _).thenB K8.o.chg (fun k hk e=>by have:=Hn.o k e;omega)).setCell (.inl H.o.ub) _,fun k hk=>?_,by rw[Yy];exact Hpp.o.more (m:=⟨m.1.fr,.slice (some ⟨gm,om,none⟩) nm Cm,m.1.to_⟩) Hmj.o (Hig.o rfl).1 (by rw[Hzl.o];exact(Hig.o rfl).2)⟩;rcases K8.o.at_ with h1|h1
     ·rw[h1]at hk;exact Hn.o k hk
     rw[h1]at hk;have:=Zgm hk;have:=C7.o.size;simp at *;omega
    case measure=>(simp[intOf];omega)
 have hd_j:decide ((j:Int)<(5:Int))=false:=Yf;go_wp2_with fail;refine Ys (v:=.tuple #[]) (by simp[results,results49,go_sem]) rfl ⟨dv,dec,rfl,G0.o,by have:=Hl.o;omega,by have:=Hpp.o;rwa [show j=5 by omega]at this⟩
