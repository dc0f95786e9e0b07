/- Lemmas of this claim: Tf, Tg, Kr. Conditions: as named. -/
import Derived.Test.YtnbclgbicnpmnaaGreatA23
namespace Go.Proofs.YtnbclgbicnpmnaaGreat
open Go.RowKit Go.Sort Go.Proofs.Tryz
set_option maxHeartbeats 0
set_option maxRecDepth 100000
set_option linter.all false
def Lr(op:Int):Bool:=op==1||op==3
theorem Qb(op:Int)(w:World):Calls prog 129 #[.int .i64 op] w fun e w'=>e=.returned (.bool (Lr op))∧w=w':=by
 unfold Lr;cases h1:(op==1)<;>cases h3:(op==3)
 all_goals
  go_enter func129,ntmps129;go_wp2_with fail;go_ret;exact⟨rfl,rfl⟩
theorem Fg(op:Int)(w:World):Calls prog 129 #[.int .i64 op] w fun e w'=>e=.returned (.bool (Lr op))∧Ext w w':=(Qb op w).mono fun _ _ h=>⟨h.1,h.2▸Yk w⟩
structure Zgr(op ttl:Int)(n:Nat):Prop where
 o0:1≤op
 o1:op≤7
 t1:Xh op=true→1≤ttl∧ttl≤1073741824
 t0:Xh op=false→ttl=0
 q:op=7→n=1
def Zt3(w:World)(e:Ending)(w':World):Prop:=∃ (op ttl:Int) (v:Value) (l:List ByteArray) (er:Int),e=.returned (.tuple #[.agg #[.int .i64 op,.int .i64 ttl,v],.int .i64 er])∧RdE Vm w' (fun _=>True) v l∧(er=0→Zgr op ttl l.length)∧Ext w w'
theorem Zzn(o:Int):∃ t:ByteArray,t.size≤8∧∀ w:World,Calls prog 128 #[.int .i64 o] w fun e w'=>e=.returned (.string t)∧w=w':=by
 by_cases h1:o=1
 ·subst h1;refine⟨⟨#[72,79,76,68]⟩,by decide,fun w=>?_⟩;go_enter func128,ntmps128;go_wp2_with fail;go_ret;exact⟨rfl,rfl⟩
 have e1:(o==1)=false:=by simp[h1]
 by_cases h2:o=2
 ·subst h2;refine⟨⟨#[67,79,78,70,73,82,77]⟩,by decide,fun w=>?_⟩;go_enter func128,ntmps128;go_wp2_with fail;go_ret;exact⟨rfl,rfl⟩
 have e2:(o==2)=false:=by simp[h2]
 by_cases h3:o=3
 ·subst h3;refine⟨⟨#[82,69,78,69,87]⟩,by decide,fun w=>?_⟩;go_enter func128,ntmps128;go_wp2_with fail;go_ret;exact⟨rfl,rfl⟩
 have e3:(o==3)=false:=by simp[h3]
 by_cases h4:o=4
 ·subst h4;refine⟨⟨#[67,65,78,67,69,76]⟩,by decide,fun w=>?_⟩;go_enter func128,ntmps128;go_wp2_with fail;go_ret;exact⟨rfl,rfl⟩
 have e4:(o==4)=false:=by simp[h4]
 by_cases h5:o=5
 ·subst h5;refine⟨⟨#[82,69,76,69,65,83,69]⟩,by decide,fun w=>?_⟩;go_enter func128,ntmps128;go_wp2_with fail;go_ret;exact⟨rfl,rfl⟩
 have e5:(o==5)=false:=by simp[h5]
 by_cases h6:o=6
 ·subst h6;refine⟨⟨#[80,85,82,71,69]⟩,by decide,fun w=>?_⟩;go_enter func128,ntmps128;go_wp2_with fail;go_ret;exact⟨rfl,rfl⟩
 have e6:(o==6)=false:=by simp[h6]
 by_cases h7:o=7
 ·subst h7;refine⟨⟨#[81,85,69,82,89]⟩,by decide,fun w=>?_⟩;go_enter func128,ntmps128;go_wp2_with fail;go_ret;exact⟨rfl,rfl⟩
 have e7:(o==7)=false:=by simp[h7]
 refine⟨⟨#[]⟩,by decide,fun w=>?_⟩;go_enter func128,ntmps128;go_wp2_with fail;go_ret;exact⟨rfl,rfl⟩
theorem RdE.far'{w:World}{v:Value}{l:List ByteArray}{c j:Nat}{u:Value}{B:Nat}(h:RdE Vm w (fun k=>B<k) v l)(hS:c≤B):RdE Vm (w.setCell ⟨c,j,none⟩ u) (fun k=>B<k) v l:=h.far (by omega) u
theorem parse_any(s:ByteArray)(w:World):Calls prog 170 #[.string s] w (Zt3 w):=by
 obtain⟨n,hn⟩:=gnX (s.size);have hb0:=Xm.new w #[.int .i64 0,.int .i64 0,.slice none 0 0] 168;have hx0:=(Yk w).alloc (.cells #[.int .i64 0,.int .i64 0,.slice none 0 0] 168);obtain⟨b2,hb2⟩:=gnX (w.heap.size);rw[hb2]at hb0;have Hb2:=Y8 (show w.heap.size≤b2 by omega);by_cases h4096:4096<n
 ·have d1:decide ((4096:Int)<(n:Int))=true:=Ye;have d2:4096<n:=h4096;have Hx0:=Y8 hx0;clear hb0 hx0;go_enter func170,ntmps170;go_wp2_with fail;refine Ys (v:=.tuple #[.agg #[.int .i64 0,.int .i64 0,.slice none 0 0],.int .i64 7]) (by simp[results,results170,go_sem, *]) rfl ⟨0,0,.slice none 0 0,[],7,rfl,Rd.nil _ _ _,fun h=>absurd h (by decide),?_⟩;(repeat refine Y0 ?_ (by first|exact Hb2.o|exact Hbb.o|(simp only;omega)) _)
  exact Hx0.o
 have d1:decide ((4096:Int)<(n:Int))=false:=Yf;go_enter func170,ntmps170;go_wp2_with fail;obtain⟨W0,hW0⟩:=gnX (w.alloc (.cells #[.int .i64 0,.int .i64 0,.slice none 0 0] 168));rw[hW0]at hb0 hx0;rw[hW0];have hw0:b2<W0.heap.size:=hb0.lt;clear hW0;refine(Zoc s (by omega) _).mono ?_;rintro e w1 ⟨wv,l,rfl,hrd,hl1,hl2,hmem,hx1⟩;have hb1:=hb0.ext hx1;have hx01:=hx0.trans hx1;have hs1:=hx1.size;have hb3:=Xm.new w1 #[.int .i64 0,.int .i64 0,.slice none 0 0] 168;have hb4:=hb1.ext ((Yk w1).alloc (.cells #[.int .i64 0,.int .i64 0,.slice none 0 0] 168));have hx2:=hx01.alloc (.cells #[.int .i64 0,.int .i64 0,.slice none 0 0] 168);have hr2:RdE Vm (w1.alloc (.cells #[.int .i64 0,.int .i64 0,.slice none 0 0] 168)) (fun k=>k<w1.heap.size) wv l:=RdE.ext (Rd.mono hrd fun _ _ h=>h) ((Yk w1).alloc _);obtain⟨rb,hrb⟩:=gnX (w1.heap.size);rw[hrb]at hb3 hr2;have Hbb:=Y8 (show w.heap.size≤rb by omega);have Hne:=Y8 (show b2≠rb by omega);have Hlt:=Y8 (show b2<rb by omega);go_wp2_with fail;obtain⟨W1,hW1⟩:=gnX (w1.alloc (.cells #[.int .i64 0,.int .i64 0,.slice none 0 0] 168));rw[hW1]at hb3 hb4 hx2 hr2;rw[hW1];obtain⟨A,C,rfl,hlC,hC⟩:=hr2.shape;obtain⟨m,hm⟩:=gnX (l.length);rw[hm]at hl1 hl2 hlC hr2;have Hm:=Y8 hm;have Hmem:=Y8 hmem;have Q0:=Y8 (And.intro hb4 (And.intro hb3 (And.intro hr2 hx2)));rw[hm];clear hW1 hb0 hx0 hw0 hrd hmem hx1 hb1 hx01 hs1 hb3 hb4 hx2 hr2 hm hb2 hrb;go_loopw [6] (fun o wr=>∃ (i:Nat) (op:Int),1≤i∧i≤8∧o=.int .i64 (i:Int)∧(0≤op∧op≤7)∧Xm wr b2 [.int .i64 0,.int .i64 0,.slice none 0 0]∧Xm wr rb [.int .i64 op,.int .i64 0,.slice none 0 0]∧RdE Vm wr (fun k=>k<rb) (.slice A m C) l∧Ext w wr) (fun o _=>8-(intOf o).toNat);case atStart=>exact⟨1,0,by omega,by omega,rfl,by omega,Q0.o.1,Q0.o.2.1,Q0.o.2.2.1,Q0.o.2.2.2⟩
 obtain⟨i,op,hi1,hi8,rfl,hop,hb2,hbr,hrd,hx⟩:=hrel;have Hop:=Y8 hop;clear hop;obtain⟨y,hy⟩:=geX (l:=l) (i:=0) (by rw[Hm.o];omega);obtain⟨g,oo,c,hv,_,_,hgr,hgl,cy⟩:=strs_get hrd hy;have hys:=Hmem.o y (Zy hy);rw[Hm.o]at hv;obtain⟨rfl,-,rfl⟩:=slcX hv;clear hv;rw[Zfu]at cy;have HB2:=Y8 hb2;have HBR:=Y8 hbr;have HRD:=Y8 hrd;have Hx:=Y8 hx;have Hy:=Y8 hy;unfold maxLen at hC;have mp:(0:Int)<(m:Int):=by omega
 have mq:0<m:=by omega
 clear hb2 hrd hx hy;by_cases hlt:i≤7
 ·have e1:decide ((i:Int)≤7)=true:=Ye;clear hbr;go_wp2_with fail;obtain⟨t,ht,A1⟩:=Zzn (i:Int);have m1:=lat cy;obtain⟨q,hq⟩:=gnX ((y.toList==t.toList));refine wreX ?_;repeat(refine(Yu ?_:);intro K hK;go_simp;first|(refine hK _ ?_;clear hK K)|(apply Exists.intro;refine⟨fun _=>?_,hK _ ?_⟩;(go_at_call 128;exact Xq (A1 _));clear hK K))
  refine Yt ?_;intro w5 hx5;skip;have Hx5:=Y8 hx5;have hbr:=HBR.o.ext Hx5.o;have c0:=hbr.at_ 0 (by simp);have f0:=hbr.fz;simp only[Zx]at c0;clear hx5 hbr;cases q
  ·go_wp2_with fail;go_roundw;case rel=>exact⟨i+1,op,by omega,by omega,by go_num,Hop.o,HB2.o.ext Hx5.o,HBR.o.ext Hx5.o,HRD.o.ext Hx5.o,Hx.o.trans Hx5.o⟩
   (simp[intOf];omega)
  go_wp2_with fail;go_roundw;case rel=>exact⟨i+1,(i:Int),by omega,by omega,by go_num,by omega,(HB2.o.ext Hx5.o).far Hne.o _,(HBR.o.ext Hx5.o).set (j:=0) (by simp) _,(HRD.o.ext Hx5.o).far (by omega) _,Y0 (Hx.o.trans Hx5.o) Hbb.o _⟩
  (simp[intOf];omega)
 have e1:decide ((i:Int)≤7)=false:=Yf;by_cases h0:op=0
 ·subst h0;have c20:=(HB2.o).at_ 0 (by simp);have c21:=(HB2.o).at_ 1 (by simp);have c22:=(HB2.o).at_ 2 (by simp);have f2:=(HB2.o).fz;have c0:=(hbr).at_ 0 (by simp);have c1:=(hbr).at_ 1 (by simp);have c2:=(hbr).at_ 2 (by simp);have f0:=(hbr).fz;have l2:=(HB2.o).lt;have l0:=(hbr).lt;simp only[Zx,Zw]at c20 c21 c22 c0 c1 c2;go_wp2_with fail;refine Ys (v:=.tuple #[.agg #[.int .i64 0,.int .i64 0,.slice none 0 0],.int .i64 4]) (by simp[results,results170,go_sem, *]) rfl ⟨0,0,.slice none 0 0,[],4,rfl,Rd.nil _ _ _,fun h=>absurd h (by decide),?_⟩;(repeat refine Y0 ?_ (by first|exact Hb2.o|exact Hbb.o|(simp only;omega)) _)
  exact Hx.o
 have z1:(op==0)=false:=by simp[h0]
 have z2:¬ op=0:=h0;have HOP:=Y8 (show 1≤op∧op≤7 by have:=Hop.o;omega);have c1:(1:Int)≤(m:Int):=by omega
 have c3:(m:Int)≤(C:Int):=by omega
 have c4:(1:Int)≤(C:Int):=by omega
 obtain⟨k,hk⟩:=gnX (m-1);obtain⟨C1,hC1⟩:=gnX (C-1);obtain⟨A9,hA9⟩:=gnX ((if C=1 then some (⟨g,oo,none⟩:Addr)else some ⟨g,oo+1,none⟩));have hA9':(if 1=C then some (⟨g,oo,none⟩:Addr)else some ⟨g,oo+1,none⟩)=A9:=by rw[← hA9];simp only[eq_comm]
 have c20:=(HB2.o).at_ 0 (by simp);have c21:=(HB2.o).at_ 1 (by simp);have c22:=(HB2.o).at_ 2 (by simp);have f2:=(HB2.o).fz;have c0:=(hbr).at_ 0 (by simp);have c1:=(hbr).at_ 1 (by simp);have c2:=(hbr).at_ 2 (by simp);have f0:=(hbr).fz;have l2:=(HB2.o).lt;have l0:=(hbr).lt;simp only[Zx,Zw]at c20 c21 c22 c0 c1 c2;go_wp2_with fail;refine(Fg op _).mono ?_;rintro e w5 ⟨rfl,hx5⟩;obtain⟨tb,htb⟩:=gnX (Lr op);rw[htb];have HT0:=Y8 htb;clear htb;have TROW:=Y8 (show RdE Vm w5 (fun k=>k<rb) (.slice A9 k C1) (l.drop 1) from RdE.drop (HRD.o.ext hx5) rfl (by rw[Hm.o];omega) (by rw[Hm.o];omega) (fun h=>by rw[← hA9,Zgq (by omega)]) (by omega) (by unfold maxLen;omega));have TL:=Y8 (show(l.drop 1).length=k by rw[Yz,Hm.o];exact hk);have TM:=Y8 (show ∀ x∈l.drop 1,x.size≤4096 from fun x hx=>Hmem.o x (List.mem_of_mem_drop hx));have T2:=Y8 (HB2.o.ext hx5);have TR:=Y8 (HBR.o.ext hx5);have TX:=Y8 (Hx.o.trans hx5);obtain⟨l1,hl1'⟩:∃ x,l.drop 1=x:=⟨_,rfl⟩;rw[hl1']at TROW TL TM;try rw[hk]
 try rw[hC1]
 try rw[hA9]
 try rw[hA9']
 have hk4:k≤4097:=by omega
 clear hx5 hk hC1 hl1' hA9 hA9' cy hgl hgr hys hbr c20 c21 c22 f2 c0 c1 c2 f0 l2 l0 HB2 HBR HRD Hx Hmem Hm Hy hlC hC hl1 hl2 c3 c4 mp mq;go_upto_if 40 with fail;go_cut [4] (fun o wx=>∃ (z6:Int) (a2:Option Addr) (k2 c2:Nat) (l2:List ByteArray),o=.slice a2 k2 c2∧(Lr op=false→z6=0)∧l2.length=k2∧k2≤4097∧(∀ x∈l2,x.size≤4096)∧RdE Vm wx (fun k=>k<rb) (.slice a2 k2 c2) l2∧Xm wx b2 [.int .i64 0,.int .i64 0,.slice none 0 0]∧Xm wx rb [.int .i64 op,.int .i64 z6,.slice none 0 0]∧Ext w wx);case first =>
  cases tb with
  | false =>
   go_wp2_with fail;go_meet;exact⟨0,A9,k,C1,l1,rfl,fun _=>rfl,TL.o,hk4,TM.o,TROW.o,T2.o,TR.o,TX.o⟩
  | true =>
   by_cases hk0:k=0
   ·subst hk0;have c20:=(T2.o).at_ 0 (by simp);have c21:=(T2.o).at_ 1 (by simp);have c22:=(T2.o).at_ 2 (by simp);have f2:=(T2.o).fz;have c0:=(TR.o).at_ 0 (by simp);have c1:=(TR.o).at_ 1 (by simp);have c2:=(TR.o).at_ 2 (by simp);have f0:=(TR.o).fz;have l2:=(T2.o).lt;have l0:=(TR.o).lt;simp only[Zx,Zw]at c20 c21 c22 c0 c1 c2;go_wp2_with fail;refine Ys (v:=.tuple #[.agg #[.int .i64 0,.int .i64 0,.slice none 0 0],.int .i64 4]) (by simp[results,results170,go_sem, *]) rfl ⟨0,0,.slice none 0 0,[],4,rfl,Rd.nil _ _ _,fun h=>absurd h (by decide),?_⟩;(repeat refine Y0 ?_ (by first|exact Hb2.o|exact Hbb.o|(simp only;omega)) _)
    exact TX.o
   have kz:((k:Int)==0)=false:=by simp;omega
   have kz2:(k==0)=false:=by simp;omega
   have kz3:¬ (k:Int)=0:=by omega
   have kp:(0:Int)<(k:Int):=by omega
   have kq:0<k:=by omega
   obtain⟨y2,hy2⟩:=geX (l:=l1) (i:=0) (by rw[TL.o];exact kq);obtain⟨g2,o2,c2',hv2,hkc,hcm,_,hgl2,cy2⟩:=strs_get TROW.o hy2;have hys2:=TM.o y2 (Zy hy2);rw[TL.o]at hv2 hkc;simp only[Yd,Zg0]at hv2;obtain⟨rfl,rfl⟩:=hv2;rw[Zfu]at cy2;clear hy2;have c20:=(T2.o).at_ 0 (by simp);have c21:=(T2.o).at_ 1 (by simp);have c22:=(T2.o).at_ 2 (by simp);have f2:=(T2.o).fz;have c0:=(TR.o).at_ 0 (by simp);have c1:=(TR.o).at_ 1 (by simp);have c2:=(TR.o).at_ 2 (by simp);have f0:=(TR.o).fz;have l2:=(T2.o).lt;have l0:=(TR.o).lt;simp only[Zx,Zw]at c20 c21 c22 c0 c1 c2;go_wp2_with fail;refine(Zy2 y2 10 (by omega) _).mono ?_;rintro e w6 ⟨z6,ok6,rfl,hx6⟩;have V2:=Y8 (T2.o.ext hx6);have VR:=Y8 (TR.o.ext hx6);have VX:=Y8 (TX.o.trans hx6);have VROW:=Y8 (TROW.o.ext hx6);clear c20 c21 c22 c0 c1 c2 f2 f0 l2 l0 hx6 cy2;have c20:=(V2.o).at_ 0 (by simp);have c21:=(V2.o).at_ 1 (by simp);have c22:=(V2.o).at_ 2 (by simp);have f2:=(V2.o).fz;have c0:=(VR.o).at_ 0 (by simp);have c1:=(VR.o).at_ 1 (by simp);have c2:=(VR.o).at_ 2 (by simp);have f0:=(VR.o).fz;have l2:=(V2.o).lt;have l0:=(VR.o).lt;simp only[Zx,Zw]at c20 c21 c22 c0 c1 c2;clear l2;cases ok6 with
   | false =>
    go_wp2_with fail;refine Ys (v:=.tuple #[.agg #[.int .i64 0,.int .i64 0,.slice none 0 0],.int .i64 4]) (by simp[results,results170,go_sem, *]) rfl ⟨0,0,.slice none 0 0,[],4,rfl,Rd.nil _ _ _,fun h=>absurd h (by decide),?_⟩;(repeat refine Y0 ?_ (by first|exact Hb2.o|exact Hbb.o|(simp only;omega)) _)
    exact VX.o
   | true =>
    unfold maxLen at hcm;have kc1:(1:Int)≤(k:Int):=by omega
    have kc2:(1:Int)≤(C1:Int):=by omega
    have kc3:(k:Int)≤(C1:Int):=by omega
    have X2:=Y8 (V2.o.far (j:=1) Hne.o (.int .i64 z6));have XR:=Y8 (show Xm (w6.setCell ⟨rb,1,none⟩ (.int .i64 z6)) rb [.int .i64 op,.int .i64 z6,.slice none 0 0] from VR.o.set (j:=1) (by simp) (.int .i64 z6));have XX:=Y8 (Y0 (p:=⟨rb,1,none⟩) VX.o Hbb.o (.int .i64 z6));have XM:=Y8 (show ∀ x∈l1.drop 1,x.size≤4096 from fun x hx=>TM.o x (List.mem_of_mem_drop hx));have XL:=Y8 (show(l1.drop 1).length=k-1 by rw[Yz,TL.o]);obtain⟨A8,hA8⟩:=gnX ((if C1=1 then some (⟨g2,o2,none⟩:Addr)else some ⟨g2,o2+1,none⟩));have hA8':(if 1=C1 then some (⟨g2,o2,none⟩:Addr)else some ⟨g2,o2+1,none⟩)=A8:=by rw[← hA8];simp only[eq_comm]
    have XROW:=Y8 (RdE.far (c:=rb) (j:=1) (show RdE Vm w6 (fun k=>k<rb) (.slice A8 (k-1) (C1-1)) (l1.drop 1) from RdE.drop VROW.o rfl (by rw[TL.o];omega) (by rw[TL.o]) (fun h=>by rw[← hA8,Zgq (by omega)]) (by omega) (by unfold maxLen;omega)) (by omega) (.int .i64 z6));go_wp2_with fail;go_region;all_goals
     go_wp2_with fail;go_meet;exact⟨z6,A8,k-1,C1-1,l1.drop 1,rfl,fun h=>(by have:=HT0.o.symm.trans h;cases this),XL.o,by omega,XM.o,by first|exact XROW.o.ext (Yk _).drew|exact XROW.o.ext ((Yk _).drewN _),by first|exact X2.o.ext (Yk _).drew|exact X2.o.ext ((Yk _).drewN _),by first|exact XR.o.ext (Yk _).drew|exact XR.o.ext ((Yk _).drewN _),by first|exact XX.o.drew|exact XX.o.drewN _⟩
 obtain⟨z6,a2,k2,c2',l2,rfl,hz6,hl2,hk2,hm2,hrow2,hb22,hbr2,hxx⟩:=hcut;have HZ:=Y8 hz6;clear hz6 HT0;clear TROW TL TM T2 TR TX;have TROW:=Y8 hrow2;have TL:=Y8 hl2;have TM:=Y8 hm2;have T2:=Y8 hb22;have TR:=Y8 hbr2;have TX:=Y8 hxx;clear hrow2 hl2 hm2 hb22 hbr2 hxx;go_wp2_with fail;go_loopw [61] (fun o wr=>∃ (j:Nat) (nv:Value) (ns:List ByteArray),j≤k2∧o=.int .i64 (j:Int)∧Xm wr b2 [.int .i64 0,.int .i64 0,.slice none 0 0]∧Xm wr rb [.int .i64 op,.int .i64 z6,nv]∧Own Vm wr (rb+1) nv ns∧ns.length=j∧RdE Vm wr (fun k=>k<rb) (.slice a2 k2 c2') l2∧Ext w wr) (fun o _=>k2-(intOf o).toNat);case atStart=>exact⟨0,_,[],by omega,rfl,T2.o,TR.o,Own.nil _ _ _,rfl,TROW.o,TX.o⟩
 obtain⟨j,nv,ns,hj,rfl,hb2,hbr,hown,hnl,hrow,hx⟩:=hrel;obtain⟨A3,C3,rfl,hC3,hC4⟩:=hown.shape;try rw[hnl]at hown
 try rw[hnl]at hbr
 try rw[hnl]
 have U2:=Y8 hb2;have UR:=Y8 hbr;have UO:=Y8 hown;have UL:=Y8 hnl;have UROW:=Y8 hrow;have UX:=Y8 hx;rw[hnl]at hC3;unfold maxLen at hC4;by_cases hjk:j<k2
 ·obtain⟨hd_j,i0_j,i1_j⟩:=LTl j k2;obtain⟨y2,hy2⟩:=geX (l:=(l2)) (i:=j) (by rw[TL.o];exact hjk);obtain⟨g2,o2,c2',hv2,_,_,_,hgl2,cy2⟩:=strs_get hrow hy2;have hys2:=TM.o y2 (Zy hy2);rw[TL.o]at hv2;simp only[Yd,Yc,Zga,Zg0,Zfw]at hv2;clear hb2 hbr hown hnl hrow hx hy2;(obtain⟨rfl,-,rfl⟩:=hv2)
  go_wp2_with fail;refine(Zxe y2 (by omega) _).mono ?_;rintro e w6 ⟨t6,ok6,rfl,ht6,hx6⟩;have V2:=Y8 (U2.o.ext hx6);have VR:=Y8 (UR.o.ext hx6);have VX:=Y8 (UX.o.trans hx6);cases ok6 with
  | false =>
   have c20:=(V2.o).at_ 0 (by simp);have c21:=(V2.o).at_ 1 (by simp);have c22:=(V2.o).at_ 2 (by simp);have f2:=(V2.o).fz;have c0:=(VR.o).at_ 0 (by simp);have c1:=(VR.o).at_ 1 (by simp);have c2:=(VR.o).at_ 2 (by simp);have f0:=(VR.o).fz;have l2:=(V2.o).lt;have l0:=(VR.o).lt;simp only[Zx,Zw]at c20 c21 c22 c0 c1 c2;go_wp2_with fail;refine Ys (v:=.tuple #[.agg #[.int .i64 0,.int .i64 0,.slice none 0 0],.int .i64 4]) (by simp[results,results170,go_sem, *]) rfl ⟨0,0,.slice none 0 0,[],4,rfl,Rd.nil _ _ _,fun h=>absurd h (by decide),?_⟩;(repeat refine Y0 ?_ (by first|exact Hb2.o|exact Hbb.o|(simp only;omega)) _)
   exact VX.o
  | true =>
   have VO:=Y8 (UO.o.ext hx6);have VROW:=Y8 (UROW.o.ext hx6);clear hx6;have c20:=(V2.o).at_ 0 (by simp);have c21:=(V2.o).at_ 1 (by simp);have c22:=(V2.o).at_ 2 (by simp);have f2:=(V2.o).fz;have c0:=(VR.o).at_ 0 (by simp);have c1:=(VR.o).at_ 1 (by simp);have c2:=(VR.o).at_ 2 (by simp);have f0:=(VR.o).fz;have l2:=(V2.o).lt;have l0:=(VR.o).lt;simp only[Zx,Zw]at c20 c21 c22 c0 c1 c2;go_wp2_with (at_builtin;refine Xt Vm _ _ _ rfl rfl rfl rfl (VO.o.ext ((Yk _).alloc _)) rfl (O8 w6 _ _ _ rfl) (by rw[UL.o];show _+1≤_;omega) (by show 16≤1000;omega) (by simp;omega) ?_;intro A5 n5 c5 w7 hg;have hnr:¬ (Value.slice A3 j C3).ownBlock=some rb:=(by intro he;have:=(VO.o.lt rb he).1;omega);have hn2:¬ (Value.slice A3 j C3).ownBlock=some b2:=(by intro he;have:=(VO.o.lt b2 he).1;have:=Hlt.o;omega);have X7:=Y8 (hg.ext w (VX.o.alloc _) (by have:=Hbb.o;omega));have S2:=Y8 ((V2.o.ext ((Yk _).alloc _)).chg hg.chg hn2);have SR:=Y8 ((VR.o.ext ((Yk _).alloc _)).chg hg.chg hnr);have SROW:=Y8 (show RdE Vm w7 (fun k=>k<rb) _ _ from Rd.chg (VROW.o.ext ((Yk _).alloc _)) hg.chg (fun k hk he=>by have:=(VO.o.lt k he).1;omega));have hf7:=SR.o.fz;have c7:w7.cell? ⟨rb,2,none⟩=some (.slice A3 j C3):=SR.o.at_ 2 (by simp);have SO:=Y8 hg.own;have SN:=Y8 hg.len;clear hg hnr hn2);have SA:=Y8 (show(Value.slice A5 n5 c5).ownBlock≠some rb by intro he;have:=(SO.o.lt rb he).1;omega);go_roundw;case rel=>exact⟨j+1,_,_,by omega,by go_num,S2.o.far Hne.o _,SR.o.set (j:=2) (by simp) _,SO.o.far SA.o _,by rw[Zs,UL.o];rfl,SROW.o.far (by omega) _,Y0 X7.o Hbb.o _⟩
   (simp[intOf];omega)
 have hd_j:=GEl j k2;have c20:=(hb2).at_ 0 (by simp);have c21:=(hb2).at_ 1 (by simp);have c22:=(hb2).at_ 2 (by simp);have f2:=(hb2).fz;have c0:=(hbr).at_ 0 (by simp);have c1:=(hbr).at_ 1 (by simp);have c2:=(hbr).at_ 2 (by simp);have f0:=(hbr).fz;have l2:=(hb2).lt;have l0:=(hbr).lt;simp only[Zx,Zw]at c20 c21 c22 c0 c1 c2;have UN:=Y8 (show RdE Vm wr (fun k=>b2<k) (.slice A3 j C3) ns by have h9:=hown.rd;exact Rd.mono h9 fun k hk _=>by have:=Hlt.o;omega);clear hb2 hbr hown hnl hrow hx;cases q7:(op==7)
 ·have HQ:=Y8 (show op=7→j=1 from fun h=>by rw[h]at q7;simp at q7);go_wp2_with fail;refine(Fg op _).mono ?_;rintro e w8 ⟨rfl,hx8⟩;obtain⟨tb8,htb⟩:=gnX (Lr op);rw[htb];have HTB:=Y8 htb;have V2:=Y8 (U2.o.ext hx8);have VR:=Y8 (UR.o.ext hx8);have W8:=Y8 (UX.o.trans hx8);have UN8:=Y8 (UN.o.ext hx8);clear c20 c21 c22 c0 c1 c2 f2 f0 l2 l0 hx8 htb;have c20:=(V2.o).at_ 0 (by simp);have c21:=(V2.o).at_ 1 (by simp);have c22:=(V2.o).at_ 2 (by simp);have f2:=(V2.o).fz;have c0:=(VR.o).at_ 0 (by simp);have c1:=(VR.o).at_ 1 (by simp);have c2:=(VR.o).at_ 2 (by simp);have f0:=(VR.o).fz;have l2:=(V2.o).lt;have l0:=(VR.o).lt;simp only[Zx,Zw]at c20 c21 c22 c0 c1 c2;cases tb8
  ·go_wp2_with fail;refine Ys (v:=.tuple #[.agg #[.int .i64 _,.int .i64 z6,.slice A3 j C3],.int .i64 0]) (by simp[results,results170,go_sem, *]<;>rfl) rfl ⟨_,z6,.slice A3 j C3,ns,0,rfl,?_,fun _=>⟨HOP.o.1,HOP.o.2,(fun h=>by have:=HTB.o.symm.trans h;cases this),(fun _=>HZ.o HTB.o),fun h=>by rw[UL.o];exact HQ.o (by first|exact h|trivial)⟩,?_⟩
   ·have h9:=UN8.o;refine Rd.mono (S:=fun k=>b2<k) ?_ fun _ _ _=>trivial
    (repeat refine RdE.far' ?_ (Ym _))
    exact h9
   (repeat refine Y0 ?_ Hb2.o _)
   exact W8.o
  cases qa:decide (z6<1)
  ·cases qb:decide (1073741824<z6)
   ·go_wp2_with fail;refine Ys (v:=.tuple #[.agg #[.int .i64 _,.int .i64 z6,.slice A3 j C3],.int .i64 0]) (by simp[results,results170,go_sem, *]<;>rfl) rfl ⟨_,z6,.slice A3 j C3,ns,0,rfl,?_,fun _=>⟨HOP.o.1,HOP.o.2,(fun _=>⟨by have:=Zfx qa;omega,by have:=Zfx qb;omega⟩),(fun h=>by have:=HTB.o.symm.trans h;cases this),fun h=>by rw[UL.o];exact HQ.o (by first|exact h|trivial)⟩,?_⟩
    ·have h9:=UN8.o;refine Rd.mono (S:=fun k=>b2<k) ?_ fun _ _ _=>trivial
     (repeat refine RdE.far' ?_ (Ym _))
     exact h9
    (repeat refine Y0 ?_ Hb2.o _)
    exact W8.o
   go_wp2_with fail;refine Ys (v:=.tuple #[.agg #[.int .i64 0,.int .i64 0,.slice none 0 0],.int .i64 3]) (by simp[results,results170,go_sem, *]) rfl ⟨0,0,.slice none 0 0,[],3,rfl,Rd.nil _ _ _,fun h=>absurd h (by decide),?_⟩;(repeat refine Y0 ?_ (by first|exact Hb2.o|exact Hbb.o|(simp only;omega)) _)
   exact W8.o
  go_wp2_with fail;refine Ys (v:=.tuple #[.agg #[.int .i64 0,.int .i64 0,.slice none 0 0],.int .i64 3]) (by simp[results,results170,go_sem, *]) rfl ⟨0,0,.slice none 0 0,[],3,rfl,Rd.nil _ _ _,fun h=>absurd h (by decide),?_⟩;(repeat refine Y0 ?_ (by first|exact Hb2.o|exact Hbb.o|(simp only;omega)) _)
  exact W8.o
 obtain rfl:op=7:=by simpa using q7
 by_cases qj:j=1
 ·have qj2:(!((j:Int)==1))=false:=by simp;omega
  have qj3:((j:Int)!=1)=false:=qj2;have qj4:(!(j==1))=false:=by simp;omega
  have qj5:(j !=1)=false:=qj4;have HQ:=Y8 (show(7:Int)=7→j=1 from fun _=>qj);go_wp2_with fail;refine(Fg 7 _).mono ?_;rintro e w8 ⟨rfl,hx8⟩;obtain⟨tb8,htb⟩:=gnX (Lr 7);rw[htb];have HTB:=Y8 htb;have V2:=Y8 (U2.o.ext hx8);have VR:=Y8 (UR.o.ext hx8);have W8:=Y8 (UX.o.trans hx8);have UN8:=Y8 (UN.o.ext hx8);clear c20 c21 c22 c0 c1 c2 f2 f0 l2 l0 hx8 htb;have c20:=(V2.o).at_ 0 (by simp);have c21:=(V2.o).at_ 1 (by simp);have c22:=(V2.o).at_ 2 (by simp);have f2:=(V2.o).fz;have c0:=(VR.o).at_ 0 (by simp);have c1:=(VR.o).at_ 1 (by simp);have c2:=(VR.o).at_ 2 (by simp);have f0:=(VR.o).fz;have l2:=(V2.o).lt;have l0:=(VR.o).lt;simp only[Zx,Zw]at c20 c21 c22 c0 c1 c2;cases tb8
  ·go_wp2_with fail;refine Ys (v:=.tuple #[.agg #[.int .i64 _,.int .i64 z6,.slice A3 j C3],.int .i64 0]) (by simp[results,results170,go_sem, *]<;>rfl) rfl ⟨_,z6,.slice A3 j C3,ns,0,rfl,?_,fun _=>⟨HOP.o.1,HOP.o.2,(fun h=>by have:=HTB.o.symm.trans h;cases this),(fun _=>HZ.o HTB.o),fun h=>by rw[UL.o];exact HQ.o (by first|exact h|trivial)⟩,?_⟩
   ·have h9:=UN8.o;refine Rd.mono (S:=fun k=>b2<k) ?_ fun _ _ _=>trivial
    (repeat refine RdE.far' ?_ (Ym _))
    exact h9
   (repeat refine Y0 ?_ Hb2.o _)
   exact W8.o
  cases qa:decide (z6<1)
  ·cases qb:decide (1073741824<z6)
   ·go_wp2_with fail;refine Ys (v:=.tuple #[.agg #[.int .i64 _,.int .i64 z6,.slice A3 j C3],.int .i64 0]) (by simp[results,results170,go_sem, *]<;>rfl) rfl ⟨_,z6,.slice A3 j C3,ns,0,rfl,?_,fun _=>⟨HOP.o.1,HOP.o.2,(fun _=>⟨by have:=Zfx qa;omega,by have:=Zfx qb;omega⟩),(fun h=>by have:=HTB.o.symm.trans h;cases this),fun h=>by rw[UL.o];exact HQ.o (by first|exact h|trivial)⟩,?_⟩
    ·have h9:=UN8.o;refine Rd.mono (S:=fun k=>b2<k) ?_ fun _ _ _=>trivial
     (repeat refine RdE.far' ?_ (Ym _))
     exact h9
    (repeat refine Y0 ?_ Hb2.o _)
    exact W8.o
   go_wp2_with fail;refine Ys (v:=.tuple #[.agg #[.int .i64 0,.int .i64 0,.slice none 0 0],.int .i64 3]) (by simp[results,results170,go_sem, *]) rfl ⟨0,0,.slice none 0 0,[],3,rfl,Rd.nil _ _ _,fun h=>absurd h (by decide),?_⟩;(repeat refine Y0 ?_ (by first|exact Hb2.o|exact Hbb.o|(simp only;omega)) _)
   exact W8.o
  go_wp2_with fail;refine Ys (v:=.tuple #[.agg #[.int .i64 0,.int .i64 0,.slice none 0 0],.int .i64 3]) (by simp[results,results170,go_sem, *]) rfl ⟨0,0,.slice none 0 0,[],3,rfl,Rd.nil _ _ _,fun h=>absurd h (by decide),?_⟩;(repeat refine Y0 ?_ (by first|exact Hb2.o|exact Hbb.o|(simp only;omega)) _)
  exact W8.o
 have qj2:(!((j:Int)==1))=true:=by simp;omega
 have qj3:((j:Int)!=1)=true:=qj2;have qj4:(!(j==1))=true:=by simp;omega
 have qj5:(j !=1)=true:=qj4;have qj6:¬ (j:Int)=1:=by omega
 go_wp2_with fail;refine Ys (v:=.tuple #[.agg #[.int .i64 0,.int .i64 0,.slice none 0 0],.int .i64 4]) (by simp[results,results170,go_sem, *]) rfl ⟨0,0,.slice none 0 0,[],4,rfl,Rd.nil _ _ _,fun h=>absurd h (by decide),?_⟩;(repeat refine Y0 ?_ (by first|exact Hb2.o|exact Hbb.o|(simp only;omega)) _)
 exact UX.o
def Zk1(w:World)(e:Ending)(w':World):Prop:=∃ (s:ByteArray) (er:Int),e=.returned (.tuple #[.string s,.int .i64 er])∧s.size≤4096∧Ext w w'
theorem Zv3{R:Nat→Prop}(op ttl:Int)(v:Value)(l:List ByteArray)(w:World)(h:RdE Vm w R v l)(hll:l.length≤1000)(hmem:∀ x∈l,x.size≤100000):Calls prog 89 #[.agg #[.int .i64 op,.int .i64 ttl,v]] w (Zk1 w):=by
 obtain⟨A,C,rfl,hlC,hC⟩:=h.shape;obtain⟨n,hn⟩:=gnX (l.length);have HL:=Y8 h;rw[hn]at hlC hll⊢;have Hn:=Y8 hn;have Hmem:=Y8 hmem;have hx1:=(Yk w).alloc (.cells #[.int .i64 op,.int .i64 ttl,.slice A n C] 168);have Hx1:=Y8 hx1;clear h hn hmem hx1;obtain⟨t,ht,A1⟩:=Zzn op;cases h0:(t.toList==[])
 rotate_left
 ·have e1:t.toList.isEmpty=true:=by simpa using h0
  have e2:t.toList=[]:=by simpa using h0
  go_enter func89,ntmps89;go_wp2_with (go_at_call 128;refine(A1 _).mono ?_;rintro e w' ⟨rfl,rfl⟩);go_ret2;exact⟨_,_,rfl,by show 0≤4096;omega,Hx1.o⟩
 have e1:t.toList.isEmpty=false:=by simpa using h0
 have e2:¬ t.toList=[]:=by simpa using h0
 cases hT:Lr op
 ·cases hz:(ttl==0)
  ·have z1:(!(ttl==0))=true:=by rw[hz];rfl
   have z2:(ttl !=0)=true:=z1;have z3:¬ ttl=0:=by simpa using hz
   go_enter func89,ntmps89;go_wp2_with (first|(go_at_call 128;refine(A1 _).mono ?_;rintro e w' ⟨rfl,rfl⟩)|(go_at_call 129;refine(Qb op _).mono ?_;rintro e w' ⟨rfl,rfl⟩;rw[hT]));go_ret2;exact⟨_,_,rfl,by show 0≤4096;omega,Hx1.o⟩
  obtain rfl:ttl=0:=by simpa using hz
  cases h7:(op==7)
  ·go_enter func89,ntmps89;go_wp2_with (first|(go_at_call 128;refine(A1 _).mono ?_;rintro e w' ⟨rfl,rfl⟩)|(go_at_call 129;refine(Qb op _).mono ?_;rintro e w' ⟨rfl,rfl⟩;rw[hT]));go_loopw [62,4] (fun o t wr=>∃ (i:Nat) (u:ByteArray),i≤n∧o=.int .i64 (i:Int)∧t=.string u∧u.size≤1073741900+300010*i∧Ext w wr) (fun o _ _=>n-(intOf o).toNat);case atStart=>exact⟨0,_,by omega,rfl,rfl,(by omega),Hx1.o⟩
   obtain⟨i,u,hi,rfl,rfl,hus,hx⟩:=hrel;by_cases hlt:i<n
   ·obtain⟨hd_i,i0_i,i1_i⟩:=LTl i n;obtain⟨x,hx0⟩:=geX (l:=l) (i:=i) (by rw[Hn.o];exact hlt);obtain⟨g,o,c,hv,_,_,_,hg,c0⟩:=strs_get (HL.o.ext hx) hx0;rw[Hn.o]at hv;obtain⟨rfl,-,rfl⟩:=slcX hv;clear hv;have hxs:=Hmem.o x (Zy hx0);clear hx0;go_wp2_with fail;refine(Ol x hxs _).mono ?_;rintro e w5 ⟨q,rfl,hq,hx5⟩;have h1:¬ 9223372036854775807<1+q.size:=by omega
    obtain⟨Z,hZ⟩:=gnX ((⟨#[32]⟩:ByteArray)++q);have hZs:Z.size=1+q.size:=by rw[← hZ,Yl];rfl
    have h2:¬ 9223372036854775807<u.size+Z.size:=by omega
    have HZs:=Y8 hZs;clear hZs;go_wp2_with fail;go_roundw;case rel=>exact⟨i+1,_,by omega,by go_num,rfl,by have:=HZs.o;rw[Yl];omega,hx.trans hx5⟩
    (simp[intOf];omega)
   have hd_i:=GEl i n;by_cases hbig:4096<u.size
   ·have hb1:decide ((4096:Int)<(u.size:Int))=true:=Ye;go_wp2_with fail;go_ret2;exact⟨_,_,rfl,by show 0≤4096;omega,hx⟩
   have hb1:decide ((4096:Int)<(u.size:Int))=false:=Yf;go_wp2_with fail;go_ret2;exact⟨_,_,rfl,by omega,hx⟩
  by_cases hn1:n=1
  ·have n1:(!((n:Int)==1))=false:=by simp;omega
   have n2:((n:Int)!=1)=false:=n1;have n3:(!(n==1))=false:=by simp;omega
   have n4:(n !=1)=false:=n3;clear hn1;go_enter func89,ntmps89;go_wp2_with (first|(go_at_call 128;refine(A1 _).mono ?_;rintro e w' ⟨rfl,rfl⟩)|(go_at_call 129;refine(Qb op _).mono ?_;rintro e w' ⟨rfl,rfl⟩;rw[hT]));go_loopw [62,4] (fun o t wr=>∃ (i:Nat) (u:ByteArray),i≤n∧o=.int .i64 (i:Int)∧t=.string u∧u.size≤1073741900+300010*i∧Ext w wr) (fun o _ _=>n-(intOf o).toNat);case atStart=>exact⟨0,_,by omega,rfl,rfl,(by omega),Hx1.o⟩
   obtain⟨i,u,hi,rfl,rfl,hus,hx⟩:=hrel;by_cases hlt:i<n
   ·obtain⟨hd_i,i0_i,i1_i⟩:=LTl i n;obtain⟨x,hx0⟩:=geX (l:=l) (i:=i) (by rw[Hn.o];exact hlt);obtain⟨g,o,c,hv,_,_,_,hg,c0⟩:=strs_get (HL.o.ext hx) hx0;rw[Hn.o]at hv;obtain⟨rfl,-,rfl⟩:=slcX hv;clear hv;have hxs:=Hmem.o x (Zy hx0);clear hx0;go_wp2_with fail;refine(Ol x hxs _).mono ?_;rintro e w5 ⟨q,rfl,hq,hx5⟩;have h1:¬ 9223372036854775807<1+q.size:=by omega
    obtain⟨Z,hZ⟩:=gnX ((⟨#[32]⟩:ByteArray)++q);have hZs:Z.size=1+q.size:=by rw[← hZ,Yl];rfl
    have h2:¬ 9223372036854775807<u.size+Z.size:=by omega
    have HZs:=Y8 hZs;clear hZs;go_wp2_with fail;go_roundw;case rel=>exact⟨i+1,_,by omega,by go_num,rfl,by have:=HZs.o;rw[Yl];omega,hx.trans hx5⟩
    (simp[intOf];omega)
   have hd_i:=GEl i n;by_cases hbig:4096<u.size
   ·have hb1:decide ((4096:Int)<(u.size:Int))=true:=Ye;go_wp2_with fail;go_ret2;exact⟨_,_,rfl,by show 0≤4096;omega,hx⟩
   have hb1:decide ((4096:Int)<(u.size:Int))=false:=Yf;go_wp2_with fail;go_ret2;exact⟨_,_,rfl,by omega,hx⟩
  have n1:(!((n:Int)==1))=true:=by simp;omega
  have n2:((n:Int)!=1)=true:=n1;have n3:(!(n==1))=true:=by simp;omega
  have n4:(n !=1)=true:=n3;have n5:¬ (n:Int)=1:=by omega
  go_enter func89,ntmps89;go_wp2_with (first|(go_at_call 128;refine(A1 _).mono ?_;rintro e w' ⟨rfl,rfl⟩)|(go_at_call 129;refine(Qb op _).mono ?_;rintro e w' ⟨rfl,rfl⟩;rw[hT]));go_ret2;exact⟨_,_,rfl,by show 0≤4096;omega,Hx1.o⟩
 by_cases ht1:ttl<1
 ·have z1:decide (ttl<1)=true:=Ye ht1;go_enter func89,ntmps89;go_wp2_with (first|(go_at_call 128;refine(A1 _).mono ?_;rintro e w' ⟨rfl,rfl⟩)|(go_at_call 129;refine(Qb op _).mono ?_;rintro e w' ⟨rfl,rfl⟩;rw[hT]));go_ret2;exact⟨_,_,rfl,by show 0≤4096;omega,Hx1.o⟩
 have z1:decide (ttl<1)=false:=Yf ht1;by_cases ht2:1073741824<ttl
 ·have z2:decide (1073741824<ttl)=true:=Ye ht2;go_enter func89,ntmps89;go_wp2_with (first|(go_at_call 128;refine(A1 _).mono ?_;rintro e w' ⟨rfl,rfl⟩)|(go_at_call 129;refine(Qb op _).mono ?_;rintro e w' ⟨rfl,rfl⟩;rw[hT]));go_ret2;exact⟨_,_,rfl,by show 0≤4096;omega,Hx1.o⟩
 have z2:decide (1073741824<ttl)=false:=Yf ht2;have h7:(op==7)=false:=by
  cases h:(op==7)
  ·rfl
  obtain rfl:op=7:=by simpa using h
  exact absurd hT (by decide)
 obtain⟨k,rfl⟩:∃ k:Nat,ttl=(k:Int):=⟨ttl.toNat,by omega⟩;have A2:=fun w=>Zs1 k (by omega) w
 go_enter func89,ntmps89;go_wp2_with (first|(go_at_call 128;refine(A1 _).mono ?_;rintro e w' ⟨rfl,rfl⟩)|(go_at_call 129;refine(Qb op _).mono ?_;rintro e w' ⟨rfl,rfl⟩;rw[hT]));refine(A2 _).mono ?_;rintro e w2 ⟨d,rfl,hd,hx2⟩;have h1:¬ 9223372036854775807<1+d.size:=by omega
 obtain⟨Z,hZ⟩:=gnX ((⟨#[32]⟩:ByteArray)++d);have hZs:Z.size=1+d.size:=by rw[← hZ,Yl];rfl
 have h2:¬ 9223372036854775807<t.size+Z.size:=by omega
 have HZs:=Y8 hZs;have k2:=(hx2.cell (p:=⟨w.heap.size,2,none⟩) (by simp)).trans (show(w.alloc (.cells #[.int .i64 op,.int .i64 (k:Int),.slice A n C] 168)).cell? ⟨w.heap.size,2,none⟩=some (.slice A n C) by go_simp);have Hx2:=Y8 (Hx1.o.trans hx2);clear hZs hx2;go_wp2_with fail;go_loopw [62,4] (fun o t wr=>∃ (i:Nat) (u:ByteArray),i≤n∧o=.int .i64 (i:Int)∧t=.string u∧u.size≤1073741900+300010*i∧Ext w wr) (fun o _ _=>n-(intOf o).toNat);case atStart=>exact⟨0,_,by omega,rfl,rfl,(by have:=HZs.o;rw[Yl];omega),Hx2.o⟩
 obtain⟨i,u,hi,rfl,rfl,hus,hx⟩:=hrel;by_cases hlt:i<n
 ·obtain⟨hd_i,i0_i,i1_i⟩:=LTl i n;obtain⟨x,hx0⟩:=geX (l:=l) (i:=i) (by rw[Hn.o];exact hlt);obtain⟨g,o,c,hv,_,_,_,hg,c0⟩:=strs_get (HL.o.ext hx) hx0;rw[Hn.o]at hv;obtain⟨rfl,-,rfl⟩:=slcX hv;clear hv;have hxs:=Hmem.o x (Zy hx0);clear hx0;go_wp2_with fail;refine(Ol x hxs _).mono ?_;rintro e w5 ⟨q,rfl,hq,hx5⟩;have h1:¬ 9223372036854775807<1+q.size:=by omega
  obtain⟨Z,hZ⟩:=gnX ((⟨#[32]⟩:ByteArray)++q);have hZs:Z.size=1+q.size:=by rw[← hZ,Yl];rfl
  have h2:¬ 9223372036854775807<u.size+Z.size:=by omega
  have HZs:=Y8 hZs;clear hZs;go_wp2_with fail;go_roundw;case rel=>exact⟨i+1,_,by omega,by go_num,rfl,by have:=HZs.o;rw[Yl];omega,hx.trans hx5⟩
  (simp[intOf];omega)
 have hd_i:=GEl i n;by_cases hbig:4096<u.size
 ·have hb1:decide ((4096:Int)<(u.size:Int))=true:=Ye;go_wp2_with fail;go_ret2;exact⟨_,_,rfl,by show 0≤4096;omega,hx⟩
 have hb1:decide ((4096:Int)<(u.size:Int))=false:=Yf;go_wp2_with fail;go_ret2;exact⟨_,_,rfl,by omega,hx⟩
structure Bg(B b rb:Nat)(w w':World)(op ttl:Int)(v:Value)(l:List ByteArray):Prop where
 sto:Vv B b w w'
 box:Xm w' rb [.int .i64 op,.int .i64 ttl,v]
 own:Own Vm w' (rb+1) v l
 mem:∀ x∈l,x.size≤13
theorem Bg.next{B b rb:Nat}{w w1 w2:World}{op ttl:Int}{v:Value}{l:List ByteArray}(h:Bg B b rb w w1 op ttl v l)(hne:b<rb)(t:Vv B b w1 w2):Bg B b rb w w2 op ttl v l :=
 ⟨h.sto.trans t,h.box.chg t.chg (by omega),h.own.chg t.chg (fun k hk e=>by have:=(h.own.lt k hk).1;omega),h.mem⟩
theorem Bg.ext{B b rb:Nat}{w w1 w2:World}{op ttl:Int}{v:Value}{l:List ByteArray}(h:Bg B b rb w w1 op ttl v l)(x:Ext w1 w2):Bg B b rb w w2 op ttl v l :=
 ⟨h.sto.ext x,h.box.ext x,h.own.ext x,h.mem⟩
theorem Bg.ttl{B b rb:Nat}{w w1:World}{op ttl:Int}{v:Value}{l:List ByteArray}(h:Bg B b rb w w1 op ttl v l)(hw:w.heap.size≤rb)(hne:b<rb)(z:Int):Bg B b rb w (w1.setCell ⟨rb,1,none⟩ (.int .i64 z)) op z v l :=
 ⟨h.sto.setCell hw (by show rb≠b;omega) (by have:=h.sto.src.ge;show B≤rb;omega) _,h.box.set (j:=1) (by simp) _,h.own.far (fun e=>by have:=(h.own.lt rb e).1;omega) _,h.mem⟩
theorem Bg.grow{B b rb:Nat}{w w1 w5:World}{op ttl:Int}{v:Value}{l:List ByteArray}{o:Obj}{t:ByteArray}{A:Option Addr}{n c:Nat}(h:Bg B b rb w w1 op ttl v l)(hw:w.heap.size≤rb)(hne:b<rb)(ht:t.size≤13)
 (hg:Grew Vm (w1.alloc o) (rb+1) v (l++[t]) A n c w5):Bg B b rb w (w5.setCell ⟨rb,2,none⟩ (.slice A n c)) op ttl (.slice A n c) (l++[t]):=by
 have hB:=h.sto.src.ge;have hlt:∀ k,v.ownBlock=some k→rb+1≤k:=fun k hk=>(h.own.lt k hk).1
 refine⟨⟨?_,?_⟩,?_,?_,?_⟩
 ·exact(((h.sto.src.alloc o).chg hg.chg (fun e=>by have:=hlt b e;omega) (fun k hk e=>by have:=hlt k e;omega))).setCell (by show B≤rb;omega) (by show rb≠b;omega) _
 ·exact(((h.sto.chg.alloc o).thenB hg.chg (fun k hk e=>by have:=hlt k e;omega))).setCell (.inr hw) _
 ·exact((h.box.ext ((Yk _).alloc o)).chg hg.chg (fun e=>by have:=hlt rb e;omega)).set (j:=2) (by simp) _
 ·exact hg.own.far (fun e=>by have:=(hg.own.lt rb e).1;omega) _
 intro x hx;rcases Zj.1 hx with h1|h1
 ·exact h.mem x h1
 rw[Zi.1 h1];exact ht
theorem Oj(B b:Nat)(w:World)(hs:Src B w b):Calls prog 51 #[.pointer (some ⟨b,0,none⟩)] w (Zx2 4096 B b w):=by
 have Hs:=Y8 (Vv.start hs);have hbl:=hs.lt;clear hs;go_enter func51,ntmps51;go_wp2_with fail;refine(Xc b 7 (by omega) (by omega) _ B Hs.o.src).mono ?_;rintro e w1 ⟨v,hv,rfl,h1⟩;have H1:=Y8 (Hs.o.trans h1);clear h1;obtain⟨q,hq⟩:∃ q:Int,1+(v:Int)=q:=⟨_,rfl⟩;have r1:IntKind.i64.wrap (1+(v:Int))=q:=by rw[Yp _ (by omega)];exact hq
 clear hq;go_wp2_with fail;refine(Xc b 3 (by omega) (by omega) _ B H1.o.src).mono ?_;rintro e w2 ⟨v2,hv2,rfl,h2⟩;have H2:=Y8 (H1.o.trans h2);have hb2:=h2.src.lt;have Hwr0:=Y8 (show w.heap.size≤w2.heap.size from H2.o.chg.size);clear h2 r1;obtain⟨rb,hrb⟩:=gnX (w2.heap.size);have Hwr:=Y8 (show w.heap.size≤rb by rw[← hrb];exact Hwr0.o);have Hbr:=Y8 (show b<rb by omega);go_upto_if 13 with fail;go_cut [3] (fun o wx=>∃ op:Int,o=.int .i64 op∧wx=w2);case first =>
  by_cases hv0:v2=0
  ·subst hv0;go_wp2_with fail;go_meet;exact⟨_,rfl,rfl⟩
  have e1:((v2:Int)==0)=false:=by simp;omega
  have e2:(v2==0)=false:=by simp;omega
  have e3:¬ (v2:Int)=0:=by omega
  go_wp2_with fail;go_meet;exact⟨_,rfl,rfl⟩
 obtain⟨op,rfl,rfl⟩:=hcut;have S3:=Y8 (show Bg B b rb w (wc.alloc (.cells #[.int .i64 op,.int .i64 0,.slice none 0 0] 168)) op 0 (.slice none 0 0) [] from⟨H2.o.alloc _,by rw[← hrb];exact Xm.new _ _ _,Own.nil _ _ _,by simp⟩);go_upto_region 5 with fail;obtain⟨W3,hW3⟩:=gnX (wc.alloc (.cells #[.int .i64 op,.int .i64 0,.slice none 0 0] 168));rw[hW3]at S3;rw[hW3];clear hW3 H1 H2 hb2 hrb Hwr0;go_cut [21] (fun o wx=>∃ q:Bool,o=.bool q∧wx=W3);case first =>
  cases hq1:(op==1)
  ·cases hq3:(op==3)
   all_goals
    go_wp2_with fail;go_meet;exact⟨_,rfl,rfl⟩
  go_wp2_with fail;go_meet;exact⟨_,rfl,rfl⟩
 obtain⟨q3,rfl,rfl⟩:=hcut;go_upto_if 21 with fail;go_cut [] (fun wx=>∃ ttl:Int,Bg B b rb w wx op ttl (.slice none 0 0) []);case first =>
  cases q3
  ·go_wp2_with fail;go_meet;exact⟨_,S3.o⟩
  go_wp2_with fail;refine(Xc b 30 (by omega) (by omega) _ B S3.o.sto.src).mono ?_;rintro e w4 ⟨v4,hv4,rfl,h4⟩;have S4:=Y8 (S3.o.next Hbr.o h4);clear h4;have c0:=(S4.o).box.at_ 0 (by simp);have c1:=(S4.o).box.at_ 1 (by simp);have c2:=(S4.o).box.at_ 2 (by simp);have fz:=(S4.o).box.fz;simp only[Zx,Zw]at c0 c1 c2;obtain⟨t4,ht4⟩:∃ t:Int,1+(v4:Int)=t:=⟨_,rfl⟩;have r4:IntKind.i64.wrap (1+(v4:Int))=t4:=by rw[Yp _ (by omega)];exact ht4
  have S5:=Y8 (S4.o.ttl Hwr.o Hbr.o t4);go_wp2_with fail;refine(Xc b 20 (by omega) (by omega) _ B S5.o.sto.src).mono ?_;rintro e w6 ⟨v6,hv6,rfl,h6⟩;have S6:=Y8 (S5.o.next Hbr.o h6);clear h6 c0 c1 c2 fz S4 S5;by_cases hv60:v6=0
  ·subst hv60;go_wp2_with fail;refine(Xc b 3 (by omega) (by omega) _ B S6.o.sto.src).mono ?_;rintro e w7 ⟨v7,hv7,rfl,h7⟩;have S7:=Y8 (S6.o.next Hbr.o h7);clear h7;have c0:=(S7.o).box.at_ 0 (by simp);have c1:=(S7.o).box.at_ 1 (by simp);have c2:=(S7.o).box.at_ 2 (by simp);have fz:=(S7.o).box.fz;simp only[Zx,Zw]at c0 c1 c2;obtain⟨t7,ht7⟩:∃ t:Int,1073741824-(v7:Int)=t:=⟨_,rfl⟩;have r7:IntKind.i64.wrap (1073741824-(v7:Int))=t7:=by rw[Yp _ (by omega)];exact ht7
   have S8:=Y8 (S7.o.ttl Hwr.o Hbr.o t7);go_wp2_with fail;go_meet;exact⟨_,S8.o⟩
  have e1:((v6:Int)==0)=false:=by simp;omega
  have e2:(v6==0)=false:=by simp;omega
  have e3:¬ (v6:Int)=0:=by omega
  go_wp2_with fail;go_meet;exact⟨_,S6.o⟩
 obtain⟨ttl,hS⟩:=hcut;have S9:=Y8 hS;clear S3 hS;rename World=>w9
 go_wp2_with fail;refine(Xc b 3 (by omega) (by omega) _ B S9.o.sto.src).mono ?_;rintro e wa ⟨va,hva,rfl,ha⟩;have Sa:=Y8 (S9.o.next Hbr.o ha);clear ha S9;obtain⟨n1,hn1⟩:=gnX (1+va);have ra:IntKind.i64.wrap (1+(va:Int))=(n1:Int):=by rw[Yp _ (by omega)];omega
 have hn3:n1≤64:=by omega
 clear hn1 hva;go_upto_if 37 with fail;clear ra;go_cut [5] (fun o wx=>∃ k:Nat,k≤64∧o=.int .i64 (k:Int)∧Bg B b rb w wx op ttl (.slice none 0 0) []);case first =>
  cases h7:(op==7)
  rotate_left
  ·go_wp2_with fail;go_meet;exact⟨1,by omega,rfl,Sa.o⟩
  go_wp2_with fail;refine(Xc b 20 (by omega) (by omega) _ B Sa.o.sto.src).mono ?_;rintro e w6 ⟨v6,hv6,rfl,h6⟩;have S6:=Y8 (Sa.o.next Hbr.o h6);clear h6;by_cases hv60:v6=0
  ·subst hv60;go_wp2_with fail;refine(Xc b 2 (by omega) (by omega) _ B S6.o.sto.src).mono ?_;rintro e w7 ⟨v7,hv7,rfl,h7'⟩;have S7:=Y8 (S6.o.next Hbr.o h7');clear h7';obtain⟨m7,hm7⟩:=gnX (16*v7);have r7:IntKind.i64.wrap (16*(v7:Int))=(m7:Int):=by rw[Yp _ (by omega)];omega
   have hm7b:m7≤16:=by omega
   clear hm7;go_wp2_with fail;refine(Xc b 2 (by omega) (by omega) _ B S7.o.sto.src).mono ?_;rintro e w8 ⟨v8,hv8,rfl,h8⟩;have S8:=Y8 (S7.o.next Hbr.o h8);clear h8;obtain⟨m8,hm8⟩:=gnX (1+v8);have r8:IntKind.i64.wrap (1+(v8:Int))=(m8:Int):=by rw[Yp _ (by omega)];omega
   have hm8b:m8≤2:=by omega
   obtain⟨m9,hm9⟩:=gnX (m7*m8);have hm9b:m9≤32:=by rw[← hm9];exact Zgo (Zdf hm7b hm8b) (by omega)
   have r9:IntKind.i64.wrap ((m7:Int)*(m8:Int))=(m9:Int):=by rw[← hm9];rw[Yp _ (by rw[← Zcc,hm9];omega)];simp
   clear hm8 hm9;go_wp2_with fail;go_meet;exact⟨m9,by omega,rfl,S8.o⟩
  have e1:((v6:Int)==0)=false:=by simp;omega
  have e2:(v6==0)=false:=by simp;omega
  have e3:¬ (v6:Int)=0:=by omega
  go_wp2_with fail;go_meet;exact⟨n1,hn3,rfl,S6.o⟩
 obtain⟨k0,hk0,rfl,hS⟩:=hcut;have Sb:=Y8 hS;clear hS Sa;rename World=>wb
 go_wp2_with fail;go_loopw [5] (fun o wr=>∃ (k:Nat) (v:Value) (l:List ByteArray),k≤64∧l.length+k≤64∧o=.int .i64 (k:Int)∧Bg B b rb w wr op ttl v l) (fun o _=>(intOf o).toNat);case atStart=>exact⟨k0,_,[],hk0,by simpa using hk0,rfl,Sb.o⟩
 obtain⟨k,v,l,hk,hlk,rfl,hS⟩:=hrel;obtain⟨A,C,rfl,hlC,hC⟩:=hS.own.shape;obtain⟨m,hm⟩:=gnX (l.length);try rw[hm]at hS
 rw[hm]at hlC hlk;have Hm:=Y8 hm;have S1:=Y8 hS;clear hS hm;by_cases hk1:0<k
 ·have d1:decide ((0:Int)<(k:Int))=true:=Ye;go_upto_region 16 with fail;obtain⟨p,hp⟩:=gnX (k-1);have r2:IntKind.i64.wrap ((k:Int)-1)=(p:Int):=by rw[Yp _ (by omega)];omega
  have c0:=(S1.o).box.at_ 0 (by simp);have c1:=(S1.o).box.at_ 1 (by simp);have c2:=(S1.o).box.at_ 2 (by simp);have fz:=(S1.o).box.fz;simp only[Zx,Zw]at c0 c1 c2;go_region_law (first|((refine Wt Vm (.tmp 53) (.tmp 56) 24 (by rfl) (by rfl) (by rfl) (by rfl) (S6.o.own.ext ((Yk _).alloc _)) (by rfl) (O8 w6 t6 _ _ rfl) (by rw[Hm.o];show m+1≤_;omega) (by show 16≤1000;omega) (by have:=S6.o.box.lt;simp;omega) ?_);intro A5 n5 c5 w5 hg5;have Hg5:=Y8 (S6.o.grow Hwr.o Hbr.o ht6 hg5);have cf5:=Y8 ((S6.o.box.ext ((Yk _).alloc (.cells #[.string t6] 9))).chg hg5.chg (fun e=>by have:=(S6.o.own.lt rb e).1;omega));have c5':=cf5.o.at_ 2 (by simp);have f5':=cf5.o.fz;simp only[Zx,Zw]at c5';clear hg5)|(go_simp;go_at_call 88;refine(Zyc B b _ ((S1.o.ext (Yk _).drew).sto.src)).mono ?_;rintro e w6 ⟨t6,rfl,ht6,h6⟩;have S6:=Y8 ((S1.o.ext (Yk _).drew).next Hbr.o h6);have c2':=S6.o.box.at_ 2 (by simp);have c2'':=(S6.o.box.ext ((Yk _).alloc (.cells #[.string t6] 9))).at_ 2 (by simp);simp only[Zx,Zw]at c2' c2'';clear h6));all_goals
   go_wp2_with fail;go_roundw;case rel=>exact⟨p,_,_,by omega,by rw[Zs,Hm.o];show m+1+p≤64;omega,rfl,Hg5.o⟩
   (simp[intOf];omega)
 obtain rfl:k=0:=by omega
 go_wp2_with fail;refine(Xc b 25 (by omega) (by omega) _ B S1.o.sto.src).mono ?_;rintro e w2 ⟨v2,hv2,rfl,h2⟩;have S2:=Y8 (S1.o.next Hbr.o h2);clear h2;by_cases hv0:v2=0
 ·subst hv0;go_wp2_with fail;have hl:=Zw7 w2 9 [⟨#[]⟩,⟨#[72,79,76,68,32,97]⟩,⟨#[81,85,69,82,89]⟩,⟨#[72,79,76,68,32,48,32,97]⟩,⟨#[72,79,76,68,32,53,32,32,97]⟩,⟨#[67,65,78,67,69,76,32,37,122,122]⟩] 6 rfl _ rfl (by omega);have hbl2:=S2.o.sto.src.lt;have H3:=Y8 (S2.o.sto.alloc (.cells #[.string ⟨#[]⟩,.string ⟨#[72,79,76,68,32,97]⟩,.string ⟨#[81,85,69,82,89]⟩,.string ⟨#[72,79,76,68,32,48,32,97]⟩,.string ⟨#[72,79,76,68,32,53,32,32,97]⟩,.string ⟨#[67,65,78,67,69,76,32,37,122,122]⟩] 9));refine(Xc b 6 (by omega) (by omega) _ B H3.o.src).mono ?_;rintro e w3 ⟨k,hk,rfl,h2⟩;have H4:=Y8 (H3.o.trans h2);have hl2:=Rd.chg hl h2.chg (fun k hk e=>by omega);obtain⟨L,hL⟩:∃ L:List ByteArray,[⟨#[]⟩,⟨#[72,79,76,68,32,97]⟩,⟨#[81,85,69,82,89]⟩,⟨#[72,79,76,68,32,48,32,97]⟩,⟨#[72,79,76,68,32,53,32,32,97]⟩,⟨#[67,65,78,67,69,76,32,37,122,122]⟩]=L:=⟨_,rfl⟩;have hmem:∀ x∈L,x.size≤4096:=by
   rw[← hL];intro x hx;simp only[Zg,Zh,Zfi]at hx;rcases hx with rfl|rfl|rfl|rfl|rfl|rfl<;>decide
  have hlen:L.length=6:=by rw[← hL];rfl
  replace hl2:RdE Vm w3 (fun k=>w2.heap.size≤k) (.slice (some ⟨w2.heap.size,0,none⟩) 6 6) L:=by rw[← hL];exact hl2
  clear hL hl h2;obtain⟨z,hz⟩:∃ z,L[k]?=some z:=⟨_,Zz (by rw[hlen];omega)⟩;obtain⟨g,o,c,hvv,_,_,_,hg,cz⟩:=strs_get hl2 hz;simp only[Yd,Yc,Zga,Zg0,Zfw]at hvv;obtain⟨⟨rfl,rfl⟩,-,rfl⟩:=hvv;rw[Zg7]at cz;have hzs:=hmem z (Zy hz);have k0:(0:Int)≤(k:Int):=by omega
  have k1:k<6:=by omega
  clear hz hl2 hmem hlen;go_wp2_with fail;go_ret;exact⟨_,rfl,hzs,H4.o⟩
 have e1:((v2:Int)==0)=false:=by simp;omega
 have e2:(v2==0)=false:=by simp;omega
 have e3:¬ (v2:Int)=0:=by omega
 clear hv0;have c0:=(S2.o).box.at_ 0 (by simp);have c1:=(S2.o).box.at_ 1 (by simp);have c2:=(S2.o).box.at_ 2 (by simp);have fz:=(S2.o).box.fz;simp only[Zx,Zw]at c0 c1 c2;go_wp2_with fail;refine(Zv3 op ttl _ l _ (show RdE Vm w2 (fun k=>rb+1≤k) (.slice A m C) l from S2.o.own.rd) (by rw[Hm.o];omega) (fun x hx=>by have:=S2.o.mem x hx;omega)).mono ?_;rintro e w3 ⟨t,er,rfl,ht,hx3⟩;go_wp2_with fail;go_ret;exact⟨_,rfl,ht,S2.o.sto.ext hx3⟩
