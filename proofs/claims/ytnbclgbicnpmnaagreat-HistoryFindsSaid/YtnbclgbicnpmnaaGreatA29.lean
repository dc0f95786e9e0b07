/- Lemmas of this claim: Tf. Conditions: as named. -/
import Derived.Test.YtnbclgbicnpmnaaGreatA28
namespace Go.Proofs.YtnbclgbicnpmnaaGreat
open Go.RowKit Go.Sort Tryz
set_option maxHeartbeats 0
set_option maxRecDepth 100000
set_option linter.all false
def Fw(op:Int):Bool:=op==1||op==3
theorem Qd(op:Int)(w:World):Calls prog 129 #[.int .i64 op] w fun e w'=>e=.returned (.bool (Fw op))∧w=w':=by
 unfold Fw;cases h1:(op==1)<;>cases h3:(op==3)
 all_goals
  go_enter func129,ntmps129;go_wp2_with fail;go_ret;exact⟨rfl,rfl⟩
theorem Ay(op:Int)(w:World):Calls prog 129 #[.int .i64 op] w fun e w'=>e=.returned (.bool (Fw op))∧Ext w w':=(Qd op w).mono fun _ _ h=>⟨h.1,h.2▸Yl w⟩
structure Zk7(op ttl:Int)(n:Nat):Prop where
 o0:1≤op
 o1:op≤7
 t1:Wz op=true→1≤ttl∧ttl≤1073741824
 t0:Wz op=false→ttl=0
 q:op=7→n=1
def Zv9(w:World)(e:Ending)(w':World):Prop:=∃ (op ttl:Int) (v:Value) (l:List ByteArray) (er:Int),e=.returned (.tuple #[.agg #[.int .i64 op,.int .i64 ttl,v],.int .i64 er])∧RdE Jr w' (fun _=>True) v l∧(er=0→Zk7 op ttl l.length)∧Ext w w'
theorem Ig(o:Int):∃ t:ByteArray,t.size≤8∧∀ w:World,Calls prog 128 #[.int .i64 o] w fun e w'=>e=.returned (.string t)∧w=w':=by
 by_cases h1:o=1
 ·subst h1;refine⟨⟨#[72,79,76,68]⟩,by decide,fun w=>?_⟩;go_enter func128,ntmps128;go_wp2_with fail;go_ret;exact⟨rfl,rfl⟩
 have e1:(o==1)=false:=by simp[h1]
 by_cases h2:o=2
 ·subst h2;refine⟨⟨#[67,79,78,70,73,82,77]⟩,by decide,fun w=>?_⟩;go_enter func128,ntmps128;go_wp2_with fail;go_ret;exact⟨rfl,rfl⟩
 have e2:(o==2)=false:=by simp[h2]
 by_cases h3:o=3
 ·subst h3;refine⟨⟨#[82,69,78,69,87]⟩,by decide,fun w=>?_⟩;go_enter func128,ntmps128;go_wp2_with fail;go_ret;exact⟨rfl,rfl⟩
 have e3:(o==3)=false:=by simp[h3]
 by_cases h4:o=4
 ·subst h4;refine⟨⟨#[67,65,78,67,69,76]⟩,by decide,fun w=>?_⟩;go_enter func128,ntmps128;go_wp2_with fail;go_ret;exact⟨rfl,rfl⟩
 have e4:(o==4)=false:=by simp[h4]
 by_cases h5:o=5
 ·subst h5;refine⟨⟨#[82,69,76,69,65,83,69]⟩,by decide,fun w=>?_⟩;go_enter func128,ntmps128;go_wp2_with fail;go_ret;exact⟨rfl,rfl⟩
 have e5:(o==5)=false:=by simp[h5]
 by_cases h6:o=6
 ·subst h6;refine⟨⟨#[80,85,82,71,69]⟩,by decide,fun w=>?_⟩;go_enter func128,ntmps128;go_wp2_with fail;go_ret;exact⟨rfl,rfl⟩
 have e6:(o==6)=false:=by simp[h6]
 by_cases h7:o=7
 ·subst h7;refine⟨⟨#[81,85,69,82,89]⟩,by decide,fun w=>?_⟩;go_enter func128,ntmps128;go_wp2_with fail;go_ret;exact⟨rfl,rfl⟩
 have e7:(o==7)=false:=by simp[h7]
 refine⟨⟨#[]⟩,by decide,fun w=>?_⟩;go_enter func128,ntmps128;go_wp2_with fail;go_ret;exact⟨rfl,rfl⟩
theorem RdE.far'{w:World}{v:Value}{l:List ByteArray}{c j:Nat}{u:Value}{B:Nat}(h:RdE Jr w (fun k=>B<k) v l)(hS:c≤B):RdE Jr (w.setCell ⟨c,j,none⟩ u) (fun k=>B<k) v l:=h.far (by omega) u
theorem parse_any(s:ByteArray)(w:World):Calls prog 170 #[.string s] w (Zv9 w):=by
 obtain⟨n,hn⟩:=gnX (s.size);have hb0:=Xp.new w #[.int .i64 0,.int .i64 0,.slice none 0 0] 168;have hx0:=(Yl w).alloc (.cells #[.int .i64 0,.int .i64 0,.slice none 0 0] 168);obtain⟨b2,hb2⟩:=gnX (w.heap.size);rw[hb2]at hb0;have Hb2:=Y4 (show w.heap.size≤b2 by omega);by_cases h4096:4096<n
 ·have d1:decide ((4096:Int)<(n:Int))=true:=Yf;have d2:4096<n:=h4096;have Hx0:=Y4 hx0;clear hb0 hx0;go_enter func170,ntmps170;go_wp2_with fail;refine Ys (v:=.tuple #[.agg #[.int .i64 0,.int .i64 0,.slice none 0 0],.int .i64 7]) (by simp[results,results170,go_sem, *]) rfl ⟨0,0,.slice none 0 0,[],7,rfl,Rd.nil _ _ _,fun h=>absurd h (by decide),?_⟩;(repeat refine Ya ?_ (by first|exact Hb2.o|exact Hbb.o|(simp only;omega)) _)
  exact Hx0.o
 have d1:decide ((4096:Int)<(n:Int))=false:=Yg;go_enter func170,ntmps170;go_wp2_with fail;obtain⟨W0,hW0⟩:=gnX (w.alloc (.cells #[.int .i64 0,.int .i64 0,.slice none 0 0] 168));rw[hW0]at hb0 hx0;rw[hW0];have hw0:b2<W0.heap.size:=hb0.lt;clear hW0;refine(Zra s (by omega) _).mono ?_;rintro e w1 ⟨wv,l,rfl,hrd,hl1,hl2,hmem,hx1⟩;have hb1:=hb0.ext hx1;have hx01:=hx0.trans hx1;have hs1:=hx1.size;have hb3:=Xp.new w1 #[.int .i64 0,.int .i64 0,.slice none 0 0] 168;have hb4:=hb1.ext ((Yl w1).alloc (.cells #[.int .i64 0,.int .i64 0,.slice none 0 0] 168));have hx2:=hx01.alloc (.cells #[.int .i64 0,.int .i64 0,.slice none 0 0] 168);have hr2:RdE Jr (w1.alloc (.cells #[.int .i64 0,.int .i64 0,.slice none 0 0] 168)) (fun k=>k<w1.heap.size) wv l:=RdE.ext (Rd.mono hrd fun _ _ h=>h) ((Yl w1).alloc _);obtain⟨rb,hrb⟩:=gnX (w1.heap.size);rw[hrb]at hb3 hr2;have Hbb:=Y4 (show w.heap.size≤rb by omega);have Hne:=Y4 (show b2≠rb by omega);have Hlt:=Y4 (show b2<rb by omega);go_wp2_with fail;obtain⟨W1,hW1⟩:=gnX (w1.alloc (.cells #[.int .i64 0,.int .i64 0,.slice none 0 0] 168));rw[hW1]at hb3 hb4 hx2 hr2;rw[hW1];obtain⟨A,C,rfl,hlC,hC⟩:=hr2.shape;obtain⟨m,hm⟩:=gnX (l.length);rw[hm]at hl1 hl2 hlC hr2;have Hm:=Y4 hm;have Hmem:=Y4 hmem;have Q0:=Y4 (And.intro hb4 (And.intro hb3 (And.intro hr2 hx2)));rw[hm];clear hW1 hb0 hx0 hw0 hrd hmem hx1 hb1 hx01 hs1 hb3 hb4 hx2 hr2 hm hb2 hrb;go_loopw [6] (fun o wr=>∃ (i:Nat) (op:Int),1≤i∧i≤8∧o=.int .i64 (i:Int)∧(0≤op∧op≤7)∧Xp wr b2 [.int .i64 0,.int .i64 0,.slice none 0 0]∧Xp wr rb [.int .i64 op,.int .i64 0,.slice none 0 0]∧RdE Jr wr (fun k=>k<rb) (.slice A m C) l∧Ext w wr) (fun o _=>8-(intOf o).toNat);case atStart=>exact⟨1,0,by omega,by omega,rfl,by omega,Q0.o.1,Q0.o.2.1,Q0.o.2.2.1,Q0.o.2.2.2⟩
 obtain⟨i,op,hi1,hi8,rfl,hop,hb2,hbr,hrd,hx⟩:=hrel;have Hop:=Y4 hop;clear hop;obtain⟨y,hy⟩:=geX (l:=l) (i:=0) (by rw[Hm.o];omega);obtain⟨g,oo,c,hv,_,_,hgr,hgl,cy⟩:=strs_get hrd hy;have hys:=Hmem.o y (Zy hy);rw[Hm.o]at hv;simp only[Ye]at hv;obtain⟨rfl,-,rfl⟩:=hv;rw[Zix]at cy;have HB2:=Y4 hb2;have HBR:=Y4 hbr;have HRD:=Y4 hrd;have Hx:=Y4 hx;have Hy:=Y4 hy;unfold maxLen at hC;have mp:(0:Int)<(m:Int):=by omega
 have mq:0<m:=by omega
 clear hb2 hrd hx hy;by_cases hlt:i≤7
 ·have e1:decide ((i:Int)≤7)=true:=Yf;clear hbr;go_wp2_with fail;obtain⟨t,ht,A1⟩:=Ig (i:Int);have m1:=lat cy;obtain⟨q,hq⟩:=gnX ((y.toList==t.toList));refine Y8 (by kernel_rfl) (by kernel_rfl) ?_;repeat((with_reducible refine Yu ?_);intro K hK;go_simp;first|((with_reducible refine hK _ ?_);clear hK K)|(apply Exists.intro;refine⟨fun _=>?_,hK _ ?_⟩;(go_at_call 128;exact Xq (A1 _));clear hK K))
  (with_reducible refine Yt ?_)
  intro w5 hx5;skip;have Hx5:=Y4 hx5;have hbr:=HBR.o.ext Hx5.o;have c0:=hbr.at_ 0 (by simp);have f0:=hbr.fz;simp only[Zx]at c0;clear hx5 hbr;cases q
  ·go_wp2_with fail;go_roundw;case rel=>exact⟨i+1,op,by omega,by omega,by go_num,Hop.o,HB2.o.ext Hx5.o,HBR.o.ext Hx5.o,HRD.o.ext Hx5.o,Hx.o.trans Hx5.o⟩
   (simp[intOf];omega)
  go_wp2_with fail;go_roundw;case rel=>exact⟨i+1,(i:Int),by omega,by omega,by go_num,by omega,(HB2.o.ext Hx5.o).far Hne.o _,(HBR.o.ext Hx5.o).set (j:=0) (by simp) _,(HRD.o.ext Hx5.o).far (by omega) _,Ya (Hx.o.trans Hx5.o) Hbb.o _⟩
  (simp[intOf];omega)
 have e1:decide ((i:Int)≤7)=false:=Yg;by_cases h0:op=0
 ·subst h0;have c20:=(HB2.o).at_ 0 (by simp);have c21:=(HB2.o).at_ 1 (by simp);have c22:=(HB2.o).at_ 2 (by simp);have f2:=(HB2.o).fz;have c0:=(hbr).at_ 0 (by simp);have c1:=(hbr).at_ 1 (by simp);have c2:=(hbr).at_ 2 (by simp);have f0:=(hbr).fz;have l2:=(HB2.o).lt;have l0:=(hbr).lt;simp only[Zx,Zw]at c20 c21 c22 c0 c1 c2;go_wp2_with fail;refine Ys (v:=.tuple #[.agg #[.int .i64 0,.int .i64 0,.slice none 0 0],.int .i64 4]) (by simp[results,results170,go_sem, *]) rfl ⟨0,0,.slice none 0 0,[],4,rfl,Rd.nil _ _ _,fun h=>absurd h (by decide),?_⟩;(repeat refine Ya ?_ (by first|exact Hb2.o|exact Hbb.o|(simp only;omega)) _)
  exact Hx.o
 have z1:(op==0)=false:=by simp[h0]
 have z2:¬ op=0:=h0;have HOP:=Y4 (show 1≤op∧op≤7 by have:=Hop.o;omega);have c1:(1:Int)≤(m:Int):=by omega
 have c3:(m:Int)≤(C:Int):=by omega
 have c4:(1:Int)≤(C:Int):=by omega
 obtain⟨k,hk⟩:=gnX (m-1);obtain⟨C1,hC1⟩:=gnX (C-1);obtain⟨A9,hA9⟩:=gnX ((if C=1 then some (⟨g,oo,none⟩:Addr)else some ⟨g,oo+1,none⟩));have hA9':(if 1=C then some (⟨g,oo,none⟩:Addr)else some ⟨g,oo+1,none⟩)=A9:=by rw[← hA9];simp only[eq_comm]
 have c20:=(HB2.o).at_ 0 (by simp);have c21:=(HB2.o).at_ 1 (by simp);have c22:=(HB2.o).at_ 2 (by simp);have f2:=(HB2.o).fz;have c0:=(hbr).at_ 0 (by simp);have c1:=(hbr).at_ 1 (by simp);have c2:=(hbr).at_ 2 (by simp);have f0:=(hbr).fz;have l2:=(HB2.o).lt;have l0:=(hbr).lt;simp only[Zx,Zw]at c20 c21 c22 c0 c1 c2;go_wp2_with fail;refine(Ay op _).mono ?_;rintro e w5 ⟨rfl,hx5⟩;obtain⟨tb,htb⟩:=gnX (Fw op);rw[htb];have HT0:=Y4 htb;clear htb;have TROW:=Y4 (show RdE Jr w5 (fun k=>k<rb) (.slice A9 k C1) (l.drop 1) from RdE.drop (HRD.o.ext hx5) rfl (by rw[Hm.o];omega) (by rw[Hm.o];omega) (fun h=>by rw[← hA9,Zk9 (by omega)]) (by omega) (by unfold maxLen;omega));have TL:=Y4 (show(l.drop 1).length=k by rw[Yz,Hm.o];exact hk);have TM:=Y4 (show ∀ x∈l.drop 1,x.size≤4096 from fun x hx=>Hmem.o x (List.mem_of_mem_drop hx));have T2:=Y4 (HB2.o.ext hx5);have TR:=Y4 (HBR.o.ext hx5);have TX:=Y4 (Hx.o.trans hx5);obtain⟨l1,hl1'⟩:∃ x,l.drop 1=x:=⟨_,rfl⟩;rw[hl1']at TROW TL TM;try rw[hk]
 try rw[hC1]
 try rw[hA9]
 try rw[hA9']
 have hk4:k≤4097:=by omega
 clear hx5 hk hC1 hl1' hA9 hA9' cy hgl hgr hys hbr c20 c21 c22 f2 c0 c1 c2 f0 l2 l0 HB2 HBR HRD Hx Hmem Hm Hy hlC hC hl1 hl2 c3 c4 mp mq;go_upto_if 40 with fail;go_cut [4] (fun o wx=>∃ (z6:Int) (a2:Option Addr) (k2 c2:Nat) (l2:List ByteArray),o=.slice a2 k2 c2∧(Fw op=false→z6=0)∧l2.length=k2∧k2≤4097∧(∀ x∈l2,x.size≤4096)∧RdE Jr wx (fun k=>k<rb) (.slice a2 k2 c2) l2∧Xp wx b2 [.int .i64 0,.int .i64 0,.slice none 0 0]∧Xp wx rb [.int .i64 op,.int .i64 z6,.slice none 0 0]∧Ext w wx);case first =>
  cases tb with
  | false =>
   go_wp2_with fail;go_meet;exact⟨0,A9,k,C1,l1,rfl,fun _=>rfl,TL.o,hk4,TM.o,TROW.o,T2.o,TR.o,TX.o⟩
  | true =>
   by_cases hk0:k=0
   ·subst hk0;have c20:=(T2.o).at_ 0 (by simp);have c21:=(T2.o).at_ 1 (by simp);have c22:=(T2.o).at_ 2 (by simp);have f2:=(T2.o).fz;have c0:=(TR.o).at_ 0 (by simp);have c1:=(TR.o).at_ 1 (by simp);have c2:=(TR.o).at_ 2 (by simp);have f0:=(TR.o).fz;have l2:=(T2.o).lt;have l0:=(TR.o).lt;simp only[Zx,Zw]at c20 c21 c22 c0 c1 c2;go_wp2_with fail;refine Ys (v:=.tuple #[.agg #[.int .i64 0,.int .i64 0,.slice none 0 0],.int .i64 4]) (by simp[results,results170,go_sem, *]) rfl ⟨0,0,.slice none 0 0,[],4,rfl,Rd.nil _ _ _,fun h=>absurd h (by decide),?_⟩;(repeat refine Ya ?_ (by first|exact Hb2.o|exact Hbb.o|(simp only;omega)) _)
    exact TX.o
   have kz:((k:Int)==0)=false:=by simp;omega
   have kz2:(k==0)=false:=by simp;omega
   have kz3:¬ (k:Int)=0:=by omega
   have kp:(0:Int)<(k:Int):=by omega
   have kq:0<k:=by omega
   obtain⟨y2,hy2⟩:=geX (l:=l1) (i:=0) (by rw[TL.o];exact kq);obtain⟨g2,o2,c2',hv2,hkc,hcm,_,hgl2,cy2⟩:=strs_get TROW.o hy2;have hys2:=TM.o y2 (Zy hy2);rw[TL.o]at hv2 hkc;simp only[Ye,Zjj]at hv2;obtain⟨rfl,rfl⟩:=hv2;rw[Zix]at cy2;clear hy2;have c20:=(T2.o).at_ 0 (by simp);have c21:=(T2.o).at_ 1 (by simp);have c22:=(T2.o).at_ 2 (by simp);have f2:=(T2.o).fz;have c0:=(TR.o).at_ 0 (by simp);have c1:=(TR.o).at_ 1 (by simp);have c2:=(TR.o).at_ 2 (by simp);have f0:=(TR.o).fz;have l2:=(T2.o).lt;have l0:=(TR.o).lt;simp only[Zx,Zw]at c20 c21 c22 c0 c1 c2;go_wp2_with fail;refine(Zzr y2 10 (by omega) _).mono ?_;rintro e w6 ⟨z6,ok6,rfl,hx6⟩;have V2:=Y4 (T2.o.ext hx6);have VR:=Y4 (TR.o.ext hx6);have VX:=Y4 (TX.o.trans hx6);have VROW:=Y4 (TROW.o.ext hx6);clear c20 c21 c22 c0 c1 c2 f2 f0 l2 l0 hx6 cy2;have c20:=(V2.o).at_ 0 (by simp);have c21:=(V2.o).at_ 1 (by simp);have c22:=(V2.o).at_ 2 (by simp);have f2:=(V2.o).fz;have c0:=(VR.o).at_ 0 (by simp);have c1:=(VR.o).at_ 1 (by simp);have c2:=(VR.o).at_ 2 (by simp);have f0:=(VR.o).fz;have l2:=(V2.o).lt;have l0:=(VR.o).lt;simp only[Zx,Zw]at c20 c21 c22 c0 c1 c2;clear l2;cases ok6 with
   | false =>
    go_wp2_with fail;refine Ys (v:=.tuple #[.agg #[.int .i64 0,.int .i64 0,.slice none 0 0],.int .i64 4]) (by simp[results,results170,go_sem, *]) rfl ⟨0,0,.slice none 0 0,[],4,rfl,Rd.nil _ _ _,fun h=>absurd h (by decide),?_⟩;(repeat refine Ya ?_ (by first|exact Hb2.o|exact Hbb.o|(simp only;omega)) _)
    exact VX.o
   | true =>
    unfold maxLen at hcm;have kc1:(1:Int)≤(k:Int):=by omega
    have kc2:(1:Int)≤(C1:Int):=by omega
    have kc3:(k:Int)≤(C1:Int):=by omega
    have X2:=Y4 (V2.o.far (j:=1) Hne.o (.int .i64 z6));have XR:=Y4 (show Xp (w6.setCell ⟨rb,1,none⟩ (.int .i64 z6)) rb [.int .i64 op,.int .i64 z6,.slice none 0 0] from VR.o.set (j:=1) (by simp) (.int .i64 z6));have XX:=Y4 (Ya (p:=⟨rb,1,none⟩) VX.o Hbb.o (.int .i64 z6));have XM:=Y4 (show ∀ x∈l1.drop 1,x.size≤4096 from fun x hx=>TM.o x (List.mem_of_mem_drop hx));have XL:=Y4 (show(l1.drop 1).length=k-1 by rw[Yz,TL.o]);obtain⟨A8,hA8⟩:=gnX ((if C1=1 then some (⟨g2,o2,none⟩:Addr)else some ⟨g2,o2+1,none⟩));have hA8':(if 1=C1 then some (⟨g2,o2,none⟩:Addr)else some ⟨g2,o2+1,none⟩)=A8:=by rw[← hA8];simp only[eq_comm]
    have XROW:=Y4 (RdE.far (c:=rb) (j:=1) (show RdE Jr w6 (fun k=>k<rb) (.slice A8 (k-1) (C1-1)) (l1.drop 1) from RdE.drop VROW.o rfl (by rw[TL.o];omega) (by rw[TL.o]) (fun h=>by rw[← hA8,Zk9 (by omega)]) (by omega) (by unfold maxLen;omega)) (by omega) (.int .i64 z6));go_wp2_with fail;go_region;all_goals
     go_wp2_with fail;go_meet;exact⟨z6,A8,k-1,C1-1,l1.drop 1,rfl,fun h=>(by have:=HT0.o.symm.trans h;cases this),XL.o,by omega,XM.o,by first|exact XROW.o.ext (Yl _).drew|exact XROW.o.ext ((Yl _).drewN _),by first|exact X2.o.ext (Yl _).drew|exact X2.o.ext ((Yl _).drewN _),by first|exact XR.o.ext (Yl _).drew|exact XR.o.ext ((Yl _).drewN _),by first|exact XX.o.drew|exact XX.o.drewN _⟩
 obtain⟨z6,a2,k2,c2',l2,rfl,hz6,hl2,hk2,hm2,hrow2,hb22,hbr2,hxx⟩:=hcut;have HZ:=Y4 hz6;clear hz6 HT0;clear TROW TL TM T2 TR TX;have TROW:=Y4 hrow2;have TL:=Y4 hl2;have TM:=Y4 hm2;have T2:=Y4 hb22;have TR:=Y4 hbr2;have TX:=Y4 hxx;clear hrow2 hl2 hm2 hb22 hbr2 hxx;go_wp2_with fail;go_loopw [61] (fun o wr=>∃ (j:Nat) (nv:Value) (ns:List ByteArray),j≤k2∧o=.int .i64 (j:Int)∧Xp wr b2 [.int .i64 0,.int .i64 0,.slice none 0 0]∧Xp wr rb [.int .i64 op,.int .i64 z6,nv]∧Own Jr wr (rb+1) nv ns∧ns.length=j∧RdE Jr wr (fun k=>k<rb) (.slice a2 k2 c2') l2∧Ext w wr) (fun o _=>k2-(intOf o).toNat);case atStart=>exact⟨0,_,[],by omega,rfl,T2.o,TR.o,Own.nil _ _ _,rfl,TROW.o,TX.o⟩
 obtain⟨j,nv,ns,hj,rfl,hb2,hbr,hown,hnl,hrow,hx⟩:=hrel;obtain⟨A3,C3,rfl,hC3,hC4⟩:=hown.shape;try rw[hnl]at hown
 try rw[hnl]at hbr
 try rw[hnl]
 have U2:=Y4 hb2;have UR:=Y4 hbr;have UO:=Y4 hown;have UL:=Y4 hnl;have UROW:=Y4 hrow;have UX:=Y4 hx;rw[hnl]at hC3;unfold maxLen at hC4;by_cases hjk:j<k2
 ·obtain⟨hd_j,i0_j,i1_j⟩:=LTl j k2;obtain⟨y2,hy2⟩:=geX (l:=(l2)) (i:=j) (by rw[TL.o];exact hjk);obtain⟨g2,o2,c2',hv2,_,_,_,hgl2,cy2⟩:=strs_get hrow hy2;have hys2:=TM.o y2 (Zy hy2);rw[TL.o]at hv2;simp only[Ye,Yd,Zjp,Zjj,Zj6]at hv2;clear hb2 hbr hown hnl hrow hx hy2;(obtain⟨rfl,-,rfl⟩:=hv2)
  go_wp2_with fail;refine(Zz9 y2 (by omega) _).mono ?_;rintro e w6 ⟨t6,ok6,rfl,ht6,hx6⟩;have V2:=Y4 (U2.o.ext hx6);have VR:=Y4 (UR.o.ext hx6);have VX:=Y4 (UX.o.trans hx6);cases ok6 with
  | false =>
   have c20:=(V2.o).at_ 0 (by simp);have c21:=(V2.o).at_ 1 (by simp);have c22:=(V2.o).at_ 2 (by simp);have f2:=(V2.o).fz;have c0:=(VR.o).at_ 0 (by simp);have c1:=(VR.o).at_ 1 (by simp);have c2:=(VR.o).at_ 2 (by simp);have f0:=(VR.o).fz;have l2:=(V2.o).lt;have l0:=(VR.o).lt;simp only[Zx,Zw]at c20 c21 c22 c0 c1 c2;go_wp2_with fail;refine Ys (v:=.tuple #[.agg #[.int .i64 0,.int .i64 0,.slice none 0 0],.int .i64 4]) (by simp[results,results170,go_sem, *]) rfl ⟨0,0,.slice none 0 0,[],4,rfl,Rd.nil _ _ _,fun h=>absurd h (by decide),?_⟩;(repeat refine Ya ?_ (by first|exact Hb2.o|exact Hbb.o|(simp only;omega)) _)
   exact VX.o
  | true =>
   have VO:=Y4 (UO.o.ext hx6);have VROW:=Y4 (UROW.o.ext hx6);clear hx6;have c20:=(V2.o).at_ 0 (by simp);have c21:=(V2.o).at_ 1 (by simp);have c22:=(V2.o).at_ 2 (by simp);have f2:=(V2.o).fz;have c0:=(VR.o).at_ 0 (by simp);have c1:=(VR.o).at_ 1 (by simp);have c2:=(VR.o).at_ 2 (by simp);have f0:=(VR.o).fz;have l2:=(V2.o).lt;have l0:=(VR.o).lt;simp only[Zx,Zw]at c20 c21 c22 c0 c1 c2;go_wp2_with (at_builtin;refine Xt Jr _ _ _ rfl rfl rfl rfl (VO.o.ext ((Yl _).alloc _)) rfl (Nv w6 _ _ _ rfl) (by rw[UL.o];show _+1≤_;omega) (by show 16≤1000;omega) (by simp;omega) ?_;intro A5 n5 c5 w7 hg;have hnr:¬ (Value.slice A3 j C3).ownBlock=some rb:=(by intro he;have:=(VO.o.lt rb he).1;omega);have hn2:¬ (Value.slice A3 j C3).ownBlock=some b2:=(by intro he;have:=(VO.o.lt b2 he).1;have:=Hlt.o;omega);have X7:=Y4 (hg.ext w (VX.o.alloc _) (by have:=Hbb.o;omega));have S2:=Y4 ((V2.o.ext ((Yl _).alloc _)).chg hg.chg hn2);have SR:=Y4 ((VR.o.ext ((Yl _).alloc _)).chg hg.chg hnr);have SROW:=Y4 (show RdE Jr w7 (fun k=>k<rb) _ _ from Rd.chg (VROW.o.ext ((Yl _).alloc _)) hg.chg (fun k hk he=>by have:=(VO.o.lt k he).1;omega));have hf7:=SR.o.fz;have c7:w7.cell? ⟨rb,2,none⟩=some (.slice A3 j C3):=SR.o.at_ 2 (by simp);have SO:=Y4 hg.own;have SN:=Y4 hg.len;clear hg hnr hn2);have SA:=Y4 (show(Value.slice A5 n5 c5).ownBlock≠some rb by intro he;have:=(SO.o.lt rb he).1;omega);go_roundw;case rel=>exact⟨j+1,_,_,by omega,by go_num,S2.o.far Hne.o _,SR.o.set (j:=2) (by simp) _,SO.o.far SA.o _,by rw[Zs,UL.o];rfl,SROW.o.far (by omega) _,Ya X7.o Hbb.o _⟩
   (simp[intOf];omega)
 have hd_j:=GEl j k2;have c20:=(hb2).at_ 0 (by simp);have c21:=(hb2).at_ 1 (by simp);have c22:=(hb2).at_ 2 (by simp);have f2:=(hb2).fz;have c0:=(hbr).at_ 0 (by simp);have c1:=(hbr).at_ 1 (by simp);have c2:=(hbr).at_ 2 (by simp);have f0:=(hbr).fz;have l2:=(hb2).lt;have l0:=(hbr).lt;simp only[Zx,Zw]at c20 c21 c22 c0 c1 c2;have UN:=Y4 (show RdE Jr wr (fun k=>b2<k) (.slice A3 j C3) ns by have h9:=hown.rd;exact Rd.mono h9 fun k hk _=>by have:=Hlt.o;omega);clear hb2 hbr hown hnl hrow hx;cases q7:(op==7)
 ·have HQ:=Y4 (show op=7→j=1 from fun h=>by rw[h]at q7;simp at q7);go_wp2_with fail;refine(Ay op _).mono ?_;rintro e w8 ⟨rfl,hx8⟩;obtain⟨tb8,htb⟩:=gnX (Fw op);rw[htb];have HTB:=Y4 htb;have V2:=Y4 (U2.o.ext hx8);have VR:=Y4 (UR.o.ext hx8);have W8:=Y4 (UX.o.trans hx8);have UN8:=Y4 (UN.o.ext hx8);clear c20 c21 c22 c0 c1 c2 f2 f0 l2 l0 hx8 htb;have c20:=(V2.o).at_ 0 (by simp);have c21:=(V2.o).at_ 1 (by simp);have c22:=(V2.o).at_ 2 (by simp);have f2:=(V2.o).fz;have c0:=(VR.o).at_ 0 (by simp);have c1:=(VR.o).at_ 1 (by simp);have c2:=(VR.o).at_ 2 (by simp);have f0:=(VR.o).fz;have l2:=(V2.o).lt;have l0:=(VR.o).lt;simp only[Zx,Zw]at c20 c21 c22 c0 c1 c2;cases tb8
  ·go_wp2_with fail;refine Ys (v:=.tuple #[.agg #[.int .i64 _,.int .i64 z6,.slice A3 j C3],.int .i64 0]) (by simp[results,results170,go_sem, *]<;>rfl) rfl ⟨_,z6,.slice A3 j C3,ns,0,rfl,?_,fun _=>⟨HOP.o.1,HOP.o.2,(fun h=>by have:=HTB.o.symm.trans h;cases this),(fun _=>HZ.o HTB.o),fun h=>by rw[UL.o];exact HQ.o (by first|exact h|trivial)⟩,?_⟩
   ·have h9:=UN8.o;refine Rd.mono (S:=fun k=>b2<k) ?_ fun _ _ _=>trivial
    (repeat refine RdE.far' ?_ (Yn _))
    exact h9
   (repeat refine Ya ?_ Hb2.o _)
   exact W8.o
  cases qa:decide (z6<1)
  ·cases qb:decide (1073741824<z6)
   ·go_wp2_with fail;refine Ys (v:=.tuple #[.agg #[.int .i64 _,.int .i64 z6,.slice A3 j C3],.int .i64 0]) (by simp[results,results170,go_sem, *]<;>rfl) rfl ⟨_,z6,.slice A3 j C3,ns,0,rfl,?_,fun _=>⟨HOP.o.1,HOP.o.2,(fun _=>⟨by have:=Zj8 qa;omega,by have:=Zj8 qb;omega⟩),(fun h=>by have:=HTB.o.symm.trans h;cases this),fun h=>by rw[UL.o];exact HQ.o (by first|exact h|trivial)⟩,?_⟩
    ·have h9:=UN8.o;refine Rd.mono (S:=fun k=>b2<k) ?_ fun _ _ _=>trivial
     (repeat refine RdE.far' ?_ (Yn _))
     exact h9
    (repeat refine Ya ?_ Hb2.o _)
    exact W8.o
   go_wp2_with fail;refine Ys (v:=.tuple #[.agg #[.int .i64 0,.int .i64 0,.slice none 0 0],.int .i64 3]) (by simp[results,results170,go_sem, *]) rfl ⟨0,0,.slice none 0 0,[],3,rfl,Rd.nil _ _ _,fun h=>absurd h (by decide),?_⟩;(repeat refine Ya ?_ (by first|exact Hb2.o|exact Hbb.o|(simp only;omega)) _)
   exact W8.o
  go_wp2_with fail;refine Ys (v:=.tuple #[.agg #[.int .i64 0,.int .i64 0,.slice none 0 0],.int .i64 3]) (by simp[results,results170,go_sem, *]) rfl ⟨0,0,.slice none 0 0,[],3,rfl,Rd.nil _ _ _,fun h=>absurd h (by decide),?_⟩;(repeat refine Ya ?_ (by first|exact Hb2.o|exact Hbb.o|(simp only;omega)) _)
  exact W8.o
 obtain rfl:op=7:=by simpa using q7
 by_cases qj:j=1
 ·have qj2:(!((j:Int)==1))=false:=by simp;omega
  have qj3:((j:Int)!=1)=false:=qj2;have qj4:(!(j==1))=false:=by simp;omega
  have qj5:(j !=1)=false:=qj4;have HQ:=Y4 (show(7:Int)=7→j=1 from fun _=>qj);go_wp2_with fail;refine(Ay 7 _).mono ?_;rintro e w8 ⟨rfl,hx8⟩;obtain⟨tb8,htb⟩:=gnX (Fw 7);rw[htb];have HTB:=Y4 htb;have V2:=Y4 (U2.o.ext hx8);have VR:=Y4 (UR.o.ext hx8);have W8:=Y4 (UX.o.trans hx8);have UN8:=Y4 (UN.o.ext hx8);clear c20 c21 c22 c0 c1 c2 f2 f0 l2 l0 hx8 htb;have c20:=(V2.o).at_ 0 (by simp);have c21:=(V2.o).at_ 1 (by simp);have c22:=(V2.o).at_ 2 (by simp);have f2:=(V2.o).fz;have c0:=(VR.o).at_ 0 (by simp);have c1:=(VR.o).at_ 1 (by simp);have c2:=(VR.o).at_ 2 (by simp);have f0:=(VR.o).fz;have l2:=(V2.o).lt;have l0:=(VR.o).lt;simp only[Zx,Zw]at c20 c21 c22 c0 c1 c2;cases tb8
  ·go_wp2_with fail;refine Ys (v:=.tuple #[.agg #[.int .i64 _,.int .i64 z6,.slice A3 j C3],.int .i64 0]) (by simp[results,results170,go_sem, *]<;>rfl) rfl ⟨_,z6,.slice A3 j C3,ns,0,rfl,?_,fun _=>⟨HOP.o.1,HOP.o.2,(fun h=>by have:=HTB.o.symm.trans h;cases this),(fun _=>HZ.o HTB.o),fun h=>by rw[UL.o];exact HQ.o (by first|exact h|trivial)⟩,?_⟩
   ·have h9:=UN8.o;refine Rd.mono (S:=fun k=>b2<k) ?_ fun _ _ _=>trivial
    (repeat refine RdE.far' ?_ (Yn _))
    exact h9
   (repeat refine Ya ?_ Hb2.o _)
   exact W8.o
  cases qa:decide (z6<1)
  ·cases qb:decide (1073741824<z6)
   ·go_wp2_with fail;refine Ys (v:=.tuple #[.agg #[.int .i64 _,.int .i64 z6,.slice A3 j C3],.int .i64 0]) (by simp[results,results170,go_sem, *]<;>rfl) rfl ⟨_,z6,.slice A3 j C3,ns,0,rfl,?_,fun _=>⟨HOP.o.1,HOP.o.2,(fun _=>⟨by have:=Zj8 qa;omega,by have:=Zj8 qb;omega⟩),(fun h=>by have:=HTB.o.symm.trans h;cases this),fun h=>by rw[UL.o];exact HQ.o (by first|exact h|trivial)⟩,?_⟩
    ·have h9:=UN8.o;refine Rd.mono (S:=fun k=>b2<k) ?_ fun _ _ _=>trivial
     (repeat refine RdE.far' ?_ (Yn _))
     exact h9
    (repeat refine Ya ?_ Hb2.o _)
    exact W8.o
   go_wp2_with fail;refine Ys (v:=.tuple #[.agg #[.int .i64 0,.int .i64 0,.slice none 0 0],.int .i64 3]) (by simp[results,results170,go_sem, *]) rfl ⟨0,0,.slice none 0 0,[],3,rfl,Rd.nil _ _ _,fun h=>absurd h (by decide),?_⟩;(repeat refine Ya ?_ (by first|exact Hb2.o|exact Hbb.o|(simp only;omega)) _)
   exact W8.o
  go_wp2_with fail;refine Ys (v:=.tuple #[.agg #[.int .i64 0,.int .i64 0,.slice none 0 0],.int .i64 3]) (by simp[results,results170,go_sem, *]) rfl ⟨0,0,.slice none 0 0,[],3,rfl,Rd.nil _ _ _,fun h=>absurd h (by decide),?_⟩;(repeat refine Ya ?_ (by first|exact Hb2.o|exact Hbb.o|(simp only;omega)) _)
  exact W8.o
 have qj2:(!((j:Int)==1))=true:=by simp;omega
 have qj3:((j:Int)!=1)=true:=qj2;have qj4:(!(j==1))=true:=by simp;omega
 have qj5:(j !=1)=true:=qj4;have qj6:¬ (j:Int)=1:=by omega
 go_wp2_with fail;refine Ys (v:=.tuple #[.agg #[.int .i64 0,.int .i64 0,.slice none 0 0],.int .i64 4]) (by simp[results,results170,go_sem, *]) rfl ⟨0,0,.slice none 0 0,[],4,rfl,Rd.nil _ _ _,fun h=>absurd h (by decide),?_⟩;(repeat refine Ya ?_ (by first|exact Hb2.o|exact Hbb.o|(simp only;omega)) _)
 exact UX.o
