/- Lemmas of this claim: ModG, Da, Dk3, DuP, Db, Nd, Ne, Nf. Conditions: as named. -/
import Derived.Test.YtnbclgbicnpmnaaGreatA14
import Derived.Test.YtnbclgbicnpmnaaGreatA15
namespace Go.Proofs.YtnbclgbicnpmnaaGreat
open Go.RowKit Go.Sort Tryz
set_option maxHeartbeats 0
set_option maxRecDepth 100000
set_option linter.all false
open Go.RowKit Go.Sort Go.Shelf
theorem Zuz{S T:Nat→Prop}(cl cap count client op ttl now:Int)(v rv:Value)(ps:List (Nm×Rc))(w:World)(hl0:1≤ps.length)(hl1:ps.length≤16)(n0:0≤now)(n1:now≤1073741824)(hc0 : -10000000≤count)(hc1:count≤10000000)
 (hn:Wo w S v (ps.map Prod.fst)) (hr:Q4 w T rv (ps.map Prod.snd)) :
 Calls prog 72 #[.agg #[.int .i64 cl,.int .i64 cap],.int .i64 client,.int .i64 op,.int .i64 ttl,v,rv,.int .i64 count,.int .i64 now] w fun e w'=>e=.returned (Vw (Wm cap op client ttl now count ps))∧Ext w w':=by
 obtain⟨A,cA,rfl⟩:=hn.shape;obtain⟨_,B,cB,rfl,hB1,hB2,_⟩:=id hr;obtain⟨nn,hnn⟩:=gnX (ps.length);have hm1:(ps.map Prod.fst).length=nn:=by simp[hnn]
 have hm2:(ps.map Prod.snd).length=nn:=by simp[hnn]
 rw[hm1,hm2];have Hm1:=Y8 hm1;have Hm2:=Y8 hm2;have Hnn:=Y8 hnn;rw[hnn]at hl0 hl1;have Hn:=Y8 hn;have Hr:=Y8 hr;clear hn hr hm1 hm2 hnn hB1 hB2;obtain⟨cb,hcb⟩:=gnX (w.heap.size);have Hcb:=Y8 hcb;have kinds:(Xh op=true∧decide (1073741824-now<ttl)=true∧(Xh op=true∧1073741824-now<ttl))∨(Xh op=true∧decide (1073741824-now<ttl)=false∧¬ (Xh op=true∧1073741824-now<ttl))∨(Xh op=false∧True∧¬ (Xh op=true∧1073741824-now<ttl)):=by
  cases hT:Xh op with
  | true =>
   by_cases h:1073741824-now<ttl
   ·exact .inl ⟨rfl,by simpa using h,rfl,h⟩
   exact .inr (.inl ⟨rfl,by simpa using h,fun q=>h q.2⟩)
  | false=>exact .inr (.inr ⟨rfl,trivial,by simp⟩)
 rcases kinds with⟨hT,hov,hno⟩|hrest
 ·have Hj:=Y8 (Rt (cap:=cap) (client:=client) (count:=count) (ps:=ps) hno);clear hno hcb;go_enter func72,ntmps72;go_wp2_with (go_at_call 101;refine(Rh _ _).mono ?_;rintro e w1 ⟨rfl,rfl⟩;rw[hT]);refine Ys (v:=Vw ⟨8,-1,⟨#[]⟩,default,now⟩) (by simp[results,results72,go_sem,Vw,Qf]) rfl ⟨by rw[Hj.o],?_⟩;(repeat refine Y0 ?_ (by first|(simp;done)|(simp;omega)) _)
  exact((Yk w).alloc _).alloc _
 rcases hrest with⟨hT,hov,hno⟩ | ⟨hT,hov,hno⟩;all_goals
  have Hno:=Y8 hno;clear hno;go_enter func72,ntmps72;go_wp2_with (go_at_call 101;refine(Rh _ _).mono ?_;rintro e w1 ⟨rfl,rfl⟩;rw[hT]);have hz0:RZ ((w.alloc (.cells #[.int .i64 cl,.int .i64 cap] 37)).alloc (.cells #[.int .i64 0,.int .i64 0,.string ⟨#[]⟩,.int .i64 0,.int .i64 0,.string ⟨#[]⟩,.int .i64 0,.int .i64 0] 53)) (cb+1):=by
   have:=Rg (w.alloc (.cells #[.int .i64 cl,.int .i64 cap] 37));rw[show(w.alloc (.cells #[.int .i64 cl,.int .i64 cap] 37)).heap.size=cb+1 by simp[hcb]]at this;exact this
  have hcf:((w.alloc (.cells #[.int .i64 cl,.int .i64 cap] 37)).alloc (.cells #[.int .i64 0,.int .i64 0,.string ⟨#[]⟩,.int .i64 0,.int .i64 0,.string ⟨#[]⟩,.int .i64 0,.int .i64 0] 53)).cell? ⟨cb,1,none⟩=some (.int .i64 cap):=by rw[← hcb];go_simp
  have hxw:Ext w ((w.alloc (.cells #[.int .i64 cl,.int .i64 cap] 37)).alloc (.cells #[.int .i64 0,.int .i64 0,.string ⟨#[]⟩,.int .i64 0,.int .i64 0,.string ⟨#[]⟩,.int .i64 0,.int .i64 0] 53)):=((Yk w).alloc _).alloc _;have hsz:((w.alloc (.cells #[.int .i64 cl,.int .i64 cap] 37)).alloc (.cells #[.int .i64 0,.int .i64 0,.string ⟨#[]⟩,.int .i64 0,.int .i64 0,.string ⟨#[]⟩,.int .i64 0,.int .i64 0] 53)).heap.size=cb+2:=by simp[hcb]
  obtain⟨W0,hW0⟩:=gnX ((w.alloc (.cells #[.int .i64 cl,.int .i64 cap] 37)).alloc (.cells #[.int .i64 0,.int .i64 0,.string ⟨#[]⟩,.int .i64 0,.int .i64 0,.string ⟨#[]⟩,.int .i64 0,.int .i64 0] 53));rw[hW0]at hz0 hcf hxw hsz;rw[hW0];clear hW0 hcb;have Hz0:=Y8 hz0;have Hcf:=Y8 hcf;have Hxw:=Y8 hxw;have Hsz:=Y8 hsz;clear hz0 hcf hxw hsz;go_loopw [33,6] (fun o s wr=>∃ (i:Nat) (c:Int),i≤nn∧o=.int .i64 (i:Int)∧s=.int .i64 c∧Qu cap op client now count ps i c∧Ext W0 wr) (fun o _ _=>nn-(intOf o).toNat);case atStart=>exact⟨0,count,by omega,rfl,rfl,Qu.start _ _ _ _ _ _,Yk _⟩
  obtain⟨i,c,hi,rfl,rfl,hj,hx⟩:=hrel;have hbd:=hj.bd;have hc2:c≤10000016:=by omega
  have hc3 : -10000000≤c:=by omega
  clear hbd;have Hj:=Y8 hj;have Hx:=Y8 hx;have hcbl:cb+2≤wr.heap.size:=by have:=hx.size;have:=Hsz.o;omega
  have Hwl:=Y8 hcbl;clear hj hx;by_cases hlt:i<nn
  ·have hdc:decide ((i:Int)<(nn:Int))=true:=by simpa using hlt
   obtain⟨⟨n,r⟩,hp⟩:∃ p,ps[i]?=some p:=⟨ps[i]'(by have:=Hnn.o;omega),by simp⟩;have hp1:(ps.map Prod.fst)[i]?=some n:=by rw[Zn,hp];rfl
   have hp2:(ps.map Prod.snd)[i]?=some r:=by rw[Zn,hp];rfl
   have hxr:=Hxw.o.trans Hx.o;obtain⟨g,o,c',hv1,p1,p2,_,b1,hcell⟩:=(Wo.ext Hn.o hxr).get (j:=i) (by rw[Hm1.o];exact hlt);obtain⟨x1,x2,x3⟩:=hcell _ _ hp1;obtain⟨g2,o2,c2',hv2,p3,p4,b2,y0,y1,y2,y3⟩:=V7 (Rd.ext Hr.o hxr) hp2;rw[Hm1.o]at hv1 p1;rw[Hm2.o]at hv2 p3;simp only[Yd,Zg0]at hv1 hv2;obtain⟨rfl,rfl⟩:=hv1;obtain⟨rfl,rfl⟩:=hv2;have i0:(0:Int)≤(i:Int):=by omega
   have i1:(i:Int)<(nn:Int):=by omega
   have Hp:=Y8 hp;have Hxr:=Y8 hxr;clear hcell hp hp1 hp2 hxr;obtain⟨t,ht⟩:=gnX (Vf r.st r.ow r.dl op client now);obtain⟨gr,hgr⟩:=gnX (Xk r.st op);have Hgr:=Y8 hgr;go_wp2_with fail;refine(Zpf _ _ _ _ _ _ _ _).mono ?_;rintro x w1 ⟨rfl,hy⟩;rw[ht];have e0:w1.cell? ⟨wr.heap.size,0,none⟩=some (.int .i64 r.st):=(hy.cell (by simp)).trans (by go_simp);have e1:w1.cell? ⟨wr.heap.size,1,none⟩=some (.int .i64 r.ow):=(hy.cell (by simp)).trans (by go_simp);have e2:w1.cell? ⟨wr.heap.size,2,none⟩=some (.string r.nm):=(hy.cell (by simp)).trans (by go_simp);have e3:w1.cell? ⟨wr.heap.size,3,none⟩=some (.int .i64 r.dl):=(hy.cell (by simp)).trans (by go_simp);have hx1:Ext wr w1:=((Yk wr).alloc _).trans hy;have x1:=(hx1.cell (p:=⟨g,o+i*3,none⟩) b1).trans x1;have hcf:w1.cell? ⟨cb,1,none⟩=some (.int .i64 cap):=((Hx.o.trans hx1).cell (p:=⟨cb,1,none⟩) (by have:=Hsz.o;simp only;omega)).trans Hcf.o;obtain⟨z0,z1,z2,z3,z4,z5,z6,z7,zf,zl⟩:=Hz0.o.ext (Hx.o.trans hx1);have b3:g<w1.heap.size:=Zgp b1 hx1.size;have Hx1:=Y8 hx1;have Ht:=Y8 ht;clear hy x2 x3 y0 y1 y2 y3 hx1 ht b2;by_cases ht0:t=0
   ·subst ht0;go_wp2_with fail;refine(Ri _ _ _ _ _ _).mono ?_;rintro x w2 ⟨rfl,hy⟩;rw[hgr];have x1:=(hy.cell (p:=⟨g,o+i*3,none⟩) b3).trans x1;have Hx2:=Y8 (Hx1.o.trans hy);have hcf:w2.cell? ⟨cb,1,none⟩=some (.int .i64 cap):=((Hx.o.trans Hx2.o).cell (p:=⟨cb,1,none⟩) (by have:=Hsz.o;simp only;omega)).trans Hcf.o;clear z0 z1 z2 z3 z4 z5 z6 z7 zf zl;obtain⟨z0,z1,z2,z3,z4,z5,z6,z7,zf,zl⟩:=Hz0.o.ext (Hx.o.trans Hx2.o);have b4:g<w2.heap.size:=Zgp b3 hy.size;clear hy e0 e1 e2 e3 hgr Hx1;have K:(decide (0<gr)=true∧decide (cap≤c)=true∧(0<gr∧cap≤c))∨(decide (0<gr)=true∧decide (cap≤c)=false∧(0<gr∧¬ cap≤c))∨(decide (0<gr)=false∧¬ 0<gr):=by
     by_cases h1:0<gr
     ·by_cases h2:cap≤c
      ·exact .inl ⟨by simpa using h1,by simpa using h2,h1,h2⟩
      exact .inr (.inl ⟨by simpa using h1,by simpa using h2,h1,h2⟩)
     exact .inr (.inr ⟨by simpa using h1,h1⟩)
    rcases K with⟨k1,k2,k3,k4⟩ | ⟨k1,k2,k3,k4⟩ | ⟨k1,k3⟩
    ·have hone:=Ov (cap:=cap) (c:=c) Ht.o (by rw[Hgr.o];exact k3) k4;have Hst:=Y8 (Kz Hno.o (Hj.o.stop (p:=(n,r)) Hp.o (by rw[hone];decide)));simp only at Hst;rw[hone]at Hst;clear hone k3 k4;go_wp2_with fail;refine Ys (v:=Vw ⟨7,i,n.a,default,now⟩) (by simp[results,results72,go_sem,Vw,Qf, *]) rfl ⟨by rw[Hst.o],?_⟩;(repeat refine Y0 ?_ (by first|(have:=Hcb.o;simp;omega)|(have:=Hcb.o;simp only;omega)) _)
     exact Hxr.o.trans Hx2.o
    ·have hone:=Di (cap:=cap) (c:=c) Ht.o (fun q=>k4 q.2);have hj1:=Hj.o.next (p:=(n,r)) Hp.o hone;have q2:V9 op c r=c+1:=by unfold V9;rw[Hgr.o,Zgn k3]
     simp only at hj1;rw[q2]at hj1;have Hj1:=Y8 hj1;have Hend:=Y8 (Hx.o.trans Hx2.o);clear hone hj1 q2 k3 k4 z0 z1 z2 z3 z4 z5 z6 z7 zf zl;go_wp2_with fail;go_roundw;case rel=>exact⟨i+1,_,by omega,by go_num,rfl,Hj1.o,Hend.o⟩
     simp[intOf];omega
    have hone:=Di (cap:=cap) (c:=c) Ht.o (fun q=>k3 (by have:=q.1;rw[Hgr.o]at this;exact this));have hj1:=Hj.o.next (p:=(n,r)) Hp.o hone;have q2:V9 op c r=c:=by unfold V9;rw[Hgr.o,Zgq k3]
    simp only at hj1;rw[q2]at hj1;have Hj1:=Y8 hj1;have Hend:=Y8 (Hx.o.trans Hx2.o);clear hone hj1 q2 k3 z0 z1 z2 z3 z4 z5 z6 z7 zf zl;go_wp2_with fail;go_roundw;case rel=>exact⟨i+1,_,by omega,by go_num,rfl,Hj1.o,Hend.o⟩
    simp[intOf];omega
   have ht1:(t==0)=false:=by simpa using ht0
   have hone:=Tv (cap:=cap) (c:=c) Ht.o ht0;have Hst:=Y8 (Kz Hno.o (Hj.o.stop (p:=(n,r)) Hp.o (by rw[hone];exact ht0)));simp only at Hst;rw[hone]at Hst;clear hone ht0 e0 e1 e2 e3 hgr;go_wp2_with fail;refine Ys (v:=Vw ⟨t,i,n.a,default,now⟩) (by simp[results,results72,go_sem,Vw,Qf, *]) rfl ⟨by rw[Hst.o],?_⟩;(repeat refine Y0 ?_ (by first|(have:=Hcb.o;simp;omega)|(have:=Hcb.o;simp only;omega)) _)
   exact Hxr.o.trans Hx1.o
  have hdc:decide ((i:Int)<(nn:Int))=false:=by simp;omega
  obtain rfl:i=nn:=by omega
  have Hdone:=Y8 (show Vl cap op client now 0 count ps=none from by
   have:=Hj.o;rw[← Hnn.o]at this;exact this.done)
  obtain⟨⟨n,r⟩,ps',rfl⟩:∃ p ps',ps=p::ps':=by
   cases ps with
   | nil=>have:=Hnn.o;simp at this;omega
   | cons p ps'=>exact⟨p,ps',rfl⟩
  have Hjf:=Y8 (Fq Hno.o Hdone.o);simp only at Hjf;obtain⟨z0,z1,z2,z3,z4,z5,z6,z7,zf,zl⟩:=Hz0.o.ext Hx.o;by_cases h7:op=7
  ·subst h7;obtain⟨g2,o2,c2',hv2,p3,p4,b2,y0,y1,y2,y3⟩:=V7 (Rd.ext Hr.o (Hxw.o.trans Hx.o)) (j:=0) (r:=r) rfl;rw[Hm2.o]at hv2 p3;simp only[Yd,Zg0]at hv2;obtain⟨rfl,rfl⟩:=hv2;simp only[Zcb,Zfu]at y0 y1 y2 y3;have i1:(0:Int)<(i:Int):=by omega
   obtain⟨lv,hlv⟩:=gnX (Kd r.st r.dl now);go_wp2_with fail;refine(Zzx _ _ _ _ _ _).mono ?_;rintro x w5 ⟨rfl,hy⟩;rw[hlv];have Hy:=Y8 (((Yk wr).alloc _).trans hy);have t0:w5.cell? ⟨wr.heap.size,0,none⟩=some (.int .i64 0):=(hy.cell (by simp)).trans (by go_simp);have t1:w5.cell? ⟨wr.heap.size,1,none⟩=some (.int .i64 (-1)):=(hy.cell (by simp)).trans (by go_simp);have t2:w5.cell? ⟨wr.heap.size,2,none⟩=some (.string ⟨#[]⟩):=(hy.cell (by simp)).trans (by go_simp);have t3:w5.cell? ⟨wr.heap.size,3,none⟩=some (.int .i64 0):=(hy.cell (by simp)).trans (by go_simp);have t4:w5.cell? ⟨wr.heap.size,4,none⟩=some (.int .i64 0):=(hy.cell (by simp)).trans (by go_simp);have t5:w5.cell? ⟨wr.heap.size,5,none⟩=some (.string ⟨#[]⟩):=(hy.cell (by simp)).trans (by go_simp);have t6:w5.cell? ⟨wr.heap.size,6,none⟩=some (.int .i64 0):=(hy.cell (by simp)).trans (by go_simp);have t7:w5.cell? ⟨wr.heap.size,7,none⟩=some (.int .i64 now):=(hy.cell (by simp)).trans (by go_simp);have tf:∀ j,w5.frozen? ⟨wr.heap.size,j,none⟩=false:=fun j=>(hy.frozen (by simp)).trans (by go_simp)
   have tl:wr.heap.size<w5.heap.size:=Zgp (by simp) hy.size;clear z0 z1 z2 z3 z4 z5 z6 z7 zf zl;obtain⟨z0,z1,z2,z3,z4,z5,z6,z7,zf,zl⟩:=Hz0.o.ext (Hx.o.trans Hy.o);have y0:=(Hy.o.cell (p:=⟨g2,o2,none⟩) b2).trans y0;have y1:=(Hy.o.cell (p:=⟨g2,o2+1,none⟩) b2).trans y1;have y2:=(Hy.o.cell (p:=⟨g2,o2+2,none⟩) b2).trans y2;have y3:=(Hy.o.cell (p:=⟨g2,o2+3,none⟩) b2).trans y3;have hne:¬ wr.heap.size=cb+1:=by omega
   have Hlv:=Y8 hlv;clear hy hlv;cases lv with
   | true =>
    have Hj':=Y8 (show Wm cap 7 client ttl now count ((n,r)::ps')=⟨0,-1,⟨#[]⟩,r,now⟩ by rw[Hjf.o];simp[Hlv.o]);clear Hjf;go_wp2_with fail;refine Ys (v:=Vw ⟨0,-1,⟨#[]⟩,r,now⟩) (by simp[results,results72,go_sem,Vw, *]) rfl ⟨by rw[Hj'.o],?_⟩;(repeat refine Y0 ?_ (by first|(have:=Hcb.o;simp;omega)|(have:=Hcb.o;have:=Hwl.o;simp only;omega)) _)
    exact(Hxw.o.trans Hx.o).trans Hy.o
   | false =>
    have Hj':=Y8 (show Wm cap 7 client ttl now count ((n,r)::ps')=⟨0,-1,⟨#[]⟩,default,now⟩ by rw[Hjf.o];simp[Hlv.o]);clear Hjf;go_wp2_with fail;refine Ys (v:=Vw ⟨0,-1,⟨#[]⟩,default,now⟩) (by simp[results,results72,go_sem,Vw,Qf, *]) rfl ⟨by rw[Hj'.o],?_⟩;(repeat refine Y0 ?_ (by first|(have:=Hcb.o;simp;omega)|(have:=Hcb.o;have:=Hwl.o;simp only;omega)) _)
    exact(Hxw.o.trans Hx.o).trans Hy.o
  have h7':(op==7)=false:=by simpa using h7
  have Hj':=Y8 (show Wm cap op client ttl now count ((n,r)::ps')=⟨0,-1,⟨#[]⟩,default,now⟩ by rw[Hjf.o,Zgq fun q=>h7 q.1]);clear Hjf h7;go_wp2_with fail;refine Ys (v:=Vw ⟨0,-1,⟨#[]⟩,default,now⟩) (by simp[results,results72,go_sem,Vw,Qf, *]) rfl ⟨by rw[Hj'.o],?_⟩;refine Yj ?_ _;(repeat refine Y0 ?_ (by first|(have:=Hcb.o;simp;omega)|(have:=Hcb.o;have:=Hwl.o;simp only;omega)) _)
  exact Hxw.o.trans Hx.o
def Zm9(r:Rc):Int:=if r.st=1 then r.ow else -1
theorem Zq9{S:Nat→Prop}(xb:Nat)(x:Shr)(key:ByteArray)(w:World)(h:Q1 w S xb x):Calls prog 150 #[.pointer (some ⟨xb,0,none⟩),.string key] w fun e w'=>e=.returned (.int .i64 (Zm9 (Xd x.ks key)))∧Ext w w':=by
 have c4:=h.cells.at_ 4 (by simp[Zi8]);have c4':w.cell? ⟨xb,4,none⟩=some x.kv:=c4;obtain⟨A,C,hv⟩:=h.ks.shape;rw[hv]at c4';have Hk:=Y8 (show KeptAt w S (.slice A x.ks.length C) x.ks by rw[← hv];exact h.ks);have Hlt:=Y8 h.cells.lt;obtain⟨z,hz⟩:=gnX (Zm9 (Xd x.ks key));have Hz:=Y8 hz;rw[hz];clear c4 h hv hz;go_enter func150,ntmps150;go_wp2_with fail;refine(Zw0 _ x.ks key _ Hk.o).mono ?_;rintro e w1 ⟨rfl,hx1⟩;obtain⟨r,hr⟩:=gnX (Xd x.ks key);rw[hr];have hz:=Hz.o;rw[hr]at hz;obtain⟨st,ow,nm,dl⟩:=r;unfold rcV;unfold Zm9 at hz;have Hz:=Y8 hz;clear hr hz;cases hs:(st==1)
 ·have e:z = -1:=by rw[← Hz.o,Zgq (by simpa using hs)]
  subst e;go_wp2_with fail;go_ret;exact⟨rfl,hx1.alloc _⟩
 have e:z=ow:=by rw[← Hz.o,Zgn (by simpa using hs)]
 subst e;go_wp2_with fail;go_ret;exact⟨rfl,hx1.alloc _⟩
theorem Zpa{S:Nat→Prop}(xb:Nat)(x:Shr)(key:ByteArray)(w:World)(h:Q1 w S xb x):Calls prog 152 #[.pointer (some ⟨xb,0,none⟩),.string key] w fun e w'=>e=.returned (rcV (Xd x.rs key))∧Ext w w':=by
 have c5:w.cell? ⟨xb,5,none⟩=some x.rv:=h.cells.at_ 5 (by simp[Zi8]);obtain⟨A,C,hv⟩:=h.rs.shape;rw[hv]at c5;have Hk:=Y8 (show KeptAt w S (.slice A x.rs.length C) x.rs by rw[← hv];exact h.rs);have hlt:=h.cells.lt;have hb:=Xm.new w #[.int .i64 0,.int .i64 0,.string ⟨#[]⟩,.int .i64 0] 51;have HX:=Y8 ((Yk w).alloc (.cells #[.int .i64 0,.int .i64 0,.string ⟨#[]⟩,.int .i64 0] 51));have HB:=Y8 hb;clear h hv hb;go_enter func152,ntmps152;go_wp2_with fail;refine(Zw0 _ x.rs key _ (Rd.ext Hk.o HX.o)).mono ?_;rintro e w1 ⟨rfl,hx1⟩;obtain⟨r,hr⟩:=gnX (Xd x.rs key);rw[hr];obtain⟨st,ow,nm,dl⟩:=r;have hb1:=HB.o.ext hx1;have k0:=hb1.at_ 0 (by simp);have k1:=hb1.at_ 1 (by simp);have k2:=hb1.at_ 2 (by simp);have k3:=hb1.at_ 3 (by simp);have fz:=hb1.fz;simp only[Zx,Zw]at k0 k1 k2 k3;unfold rcV;have HX1:=Y8 (HX.o.trans hx1);clear hx1 hb1;go_wp2_with fail;refine Ys (v:=.agg #[.int .i64 st,.int .i64 ow,.string nm,.int .i64 dl]) (by simp[results,results152,go_sem, *]) rfl ⟨by rw[hr];rfl,?_⟩;(repeat refine Y0 ?_ (by first|exact Ym _|(simp;done)|(simp;omega)) _)
 exact HX1.o
def Q2(m:Wc)(n:Nat)(next:Int):Wc:=if m.i+1=n then {m with i:=0,st:=next}else {m with i:=m.i+1}
theorem Ld(T:Tbl)(b:Nat)(m:Wc)(next:Int)(A:Option Addr)(n C:Nat)(w:World)(h:Xm w b (machC T m))(hl:m.lv=.slice A n C)(hi:0≤m.i)(hi2:m.i<n)(hn:n≤16) :
 Calls prog 151 #[.pointer (some ⟨b,0,none⟩),.int .i64 next] w fun e w'=>e=.returned (.int .i64 1)∧Xm w' b (machC T (Q2 m n next))∧Chg (· = b) w w':=by
 have c27:w.cell? ⟨b,27,none⟩=some (.int .i64 m.i):=h.at_ 27 (by simp[machC]);have fz:=h.fz;obtain⟨I,hI⟩:=gnX (m.i+1);have r1:IntKind.i64.wrap (m.i+1)=I:=by rw[Yp _ (by omega)];exact hI
 have h1:=h.set (j:=27) (by simp[machC]) (.int .i64 I);have HC1:=Y8 ((Chg.refl (· = b) w).setCell (p:=⟨b,27,none⟩) (.inl rfl) (.int .i64 I));have d27:(w.setCell ⟨b,27,none⟩ (.int .i64 I)).cell? ⟨b,27,none⟩=some (.int .i64 I):=h1.at_ 27 (by simp[machC]);have d17:(w.setCell ⟨b,27,none⟩ (.int .i64 I)).cell? ⟨b,17,none⟩=some (.slice A n C):=by rw[← hl];exact h1.at_ 17 (by simp[machC])
 have m27:=lat d27;have m17:=lat d17;have H1:=Y8 h1;have hlt:=h.lt;have HI:=Y8 hI;clear h1 d27 d17 h hl;go_enter func151,ntmps151;go_upto_region 2 with fail;obtain⟨W1,hW1⟩:=gnX (w.setCell ⟨b,27,none⟩ (.int .i64 I));rw[hW1]at H1 HC1 m27 m17;rw[hW1];clear hW1 c27 fz r1;by_cases hl:I=n
 ·have e1:(I==(n:Int))=true:=by simp[hl]
  have hun:=Ya;refine wreX ?_;repeat(refine(Yu ?_:);intro K hK;go_simp;refine hK _ ?_;clear hK K)
  refine Yt ?_;intro w9 hy9;clear hun;try simp only[Yb]
  have h9:=H1.o.ext hy9;have k27:=h9.at_ 27 (by simp[machC]);have k13:=h9.at_ 13 (by simp[machC]);have fz:=h9.fz;simp only[machC,Zt,Zu,Zx,Zw]at k27 k13;have HY:=Y8 hy9;clear h9 hy9;go_wp2_with fail;go_ret;refine⟨rfl,?_,?_⟩
  ·rw[show Q2 m n next={m with i:=0,st:=next} from Zgn (by rw[HI.o];exact hl)];have:=((H1.o.ext HY.o).set (j:=27) (by simp[machC]) (.int .i64 0)).set (j:=13) (by simp[machC]) (.int .i64 next);exact this
  exact((HC1.o.trans (HY.o.chg _)).setCell (p:=⟨b,27,none⟩) (.inl rfl) _).setCell (p:=⟨b,13,none⟩) (.inl rfl) _
 have e1:(I==(n:Int))=false:=by simp[hl]
 have hun:=Ya;refine wreX ?_;repeat(refine(Yu ?_:);intro K hK;go_simp;refine hK _ ?_;clear hK K)
 refine Yt ?_;intro w9 hy9;clear hun;try simp only[Yb]
 go_wp2_with fail;go_ret;refine⟨rfl,?_,HC1.o.trans (hy9.chg _)⟩;rw[show Q2 m n next={m with i:=m.i+1} from Zgq (by rw[HI.o];exact hl)];have:=H1.o.ext hy9;rw[← HI.o]at this;exact this
section
theorem Ew{P:Program}{ops:Array Oper}{op:Oper}{a:Act}{w:World}{K:Act→World→Prop}{Q:Exit→Act→World→Prop}{F:Prop}(hgd:op.guard=none)(ty:TypeId)(x y:Operand)(ho:op.op=.store ty x y)
 (b o:Nat) (cells:Array Value) (hx:a.eval x=.pointer (some ⟨b,o,none⟩)) (hy:a.eval y=.agg cells) (ht:w.there b o cells.size) (hi:(P.info? ty).map (·.size)=some cells.size) (h1:cells.all (·.oneCell')=true)
 (h:K (a.put op.dst undef) (w.setCells b o cells.toList)):if Region.wanted op (yielded ops a.tmps)=true then op.wp P a w K Q else F:=by
 rw[Zgn (by simp[Region.wanted,hgd])];exact wp_store_mid ty x y ho b o cells hx hy ht hi h1 h
theorem Ax{w:World}{S S':Nat→Prop}{t:Tbl}(h:Xg w S t)(hS:∀ k,S k→k<w.heap.size→S' k):Xg w S' t :=
 ⟨Rd.mono h.cat hS,Rd.mono h.cls hS,Rd.mono h.joi hS,Rd.mono h.bid hS,Rd.mono h.scr hS,Rd.mono h.sta hS,Rd.mono h.ign hS,⟨Rd.mono h.ext.1 hS,fun m hm=>Rd.mono (h.ext.2 m hm) hS⟩,⟨Rd.mono h.map.1 hS,fun m hm=>Rd.mono (h.map.2 m hm) hS⟩,⟨Rd.mono h.dec.1 hS,fun m hm=>Rd.mono (h.dec.2 m hm) hS⟩,Rd.mono h.exc hS,⟨Rd.mono h.pro.1 hS,fun m hm=>Rd.mono (h.pro.2 m hm) hS⟩⟩
def Ztj:List Value→Nat→List Value→List Value
 | xs,_,[]=>xs
 | xs,p,v::r=>Ztj (xs.set p v) (p+1) r
theorem Zw3:∀ (vs a b c:List Value) (f:Nat),f+vs.length≤b.length→Ztj (a++(b++c)) (a.length+f) vs=a++(Ztj b f vs++c)
 | [],_,_,_,_,_=>rfl
 | v::r,a,b,c,f,h=>by
  simp only[Zl]at h;rw[Ztj,Ztj,← Zw3 r a (b.set f v) c (f+1) (by rw[Zf];omega),Zd6,Zgq (by omega),Nat.add_sub_cancel_left,Zd6,Zgn (by omega),Zfh]
theorem Zzw:∀ (vs b:List Value) (f:Nat),f+vs.length≤b.length→Ztj b f vs=b.take f++(vs++b.drop (f+vs.length))
 | [],b,f,_=>by simp[Ztj]
 | v::r,b,f,h=>by
  simp only[Zl]at h;have hl:(b.take f).length=f:=by simp;omega
  rw[Ztj,Zzw r _ _ (by rw[Zf];omega)];have e1:(b.set f v).take (f+1)=b.take f++[v]:=by
   rw[Za,List.take_set_of_le (Ym f),Zc (by omega)];rfl
  have e2:(b.set f v).drop (f+1+r.length)=b.drop (f+(v::r).length):=by
   rw[List.drop_set_of_lt (by omega)];congr 1;simp only[Zl];omega
  rw[e1,e2,Zek];rfl
theorem Cj{B z g n c m:Nat}{t:TypeId}:∀ {vs:List Value} {w:World} {p:Nat} {xs:List Value},w.ownsRow B t z (.slice (some ⟨g,0,none⟩) n c) m xs→(w.setCells g p vs).ownsRow B t z (.slice (some ⟨g,0,none⟩) n c) m (Ztj xs p vs)
 | [],_,_,_,h=>h
 | v::r,_,p,_,h=>Cj (vs:=r) (Zlz h p v)
theorem Zq1{l:List Opn}{i f:Nat}{o o':Opn}{vs:List Value}(h:l[i]?=some o)(hf:f+vs.length≤23)(he:opC o'=(opC o).take f++(vs++(opC o).drop (f+vs.length))):Ztj (Lx l) (i*23+f) vs=Lx (l.set i o'):=by
 have hi:=(Zr.1 h).1;have ho:l[i]=o:=(Zr.1 h).2;have e0:l=l.take i++([o]++l.drop (i+1)):=by rw[← ho];simp
 have e1:l.set i o'=l.take i++([o']++l.drop (i+1)):=by rw[Zdp,Zgn hi];rfl
 have el:(Lx (l.take i)).length=i*23:=by rw[Mz,Zp];congr 1;omega
 have e2:Lx l=Lx (l.take i)++(opC o++Lx (l.drop (i+1))):=by
  conv=>lhs;rw[e0]
  rw[Jm,Jm];simp[Lx]
 rw[e1,Jm,Jm,e2,← el,Zw3 vs _ _ _ f (by rw[Ug];exact hf),Zzw vs _ f (by rw[Ug];exact hf),← he];simp[Lx]
theorem Wu.ne{w:World}{U:Nat→Prop}{T:Tbl}{b B:Nat}{d:Dk}(h:Wu w U T b B d):b≠d.xb∧b≠d.gb∧b≠d.gl∧d.xb≠d.gb∧d.xb≠d.gl∧d.gb≠d.gl∧∀ p∈d.ms,p.1≠b∧p.1≠d.xb∧p.1≠d.gb∧p.1≠d.gl:=by
 have d0:=Zg6.1 h.dis;have d1:=Zg6.1 d0.2;have d2:=Zg6.1 d1.2;have d3:=Zg6.1 d2.2;simp only[Zg,Zby]at d0 d1 d2 d3;refine⟨d0.1.1,d0.1.2.1,d0.1.2.2.1,d1.1.1,d1.1.2.1,d2.1.1,fun p hp=>?_⟩;have hm:p.1∈d.ms.map Prod.fst:=Zgg.2 ⟨_,hp,rfl⟩;exact⟨fun e=>d0.1.2.2.2 (e▸hm),fun e=>d1.1.2.2 (e▸hm),fun e=>d2.1.2 (e▸hm),fun e=>d3.1 (e▸hm)⟩
theorem Wu.nov{w:World}{U:Nat→Prop}{T:Tbl}{b B:Nat}{d:Dk}(h:Wu w U T b B d){g:Nat}(hg:d.ov.ownBlock=some g):b≠g∧d.xb≠g∧d.gb≠g∧d.gl≠g∧∀ p∈d.ms,p.1≠g:=by
 have:=h.dio g hg;simp only[Zg,Zby]at this;obtain⟨h1,h2,h3,h4,h5⟩:=this;exact⟨fun e=>h1 e.symm,fun e=>h2 e.symm,fun e=>h3 e.symm,fun e=>h4 e.symm,fun p hp e=>h5 (Zgg.2 ⟨p,hp,e⟩)⟩
theorem Wu.ext{w w':World}{U:Nat→Prop}{T:Tbl}{b B:Nat}{d:Dk}(h:Wu w U T b B d)(x:Ext w w'):Wu w' U T b B d where
 cells:=h.cells.ext x
 hU:=fun k hk=>⟨(h.hU k hk).1,Zgp (h.hU k hk).2 x.size⟩
 ub:=h.ub
 ux:=h.ux
 ugb:=h.ugb
 ugl:=h.ugl
 um:=h.um
 uo:=h.uo
 dis:=h.dis
 dio:=h.dio
 tbl:=h.tbl.up x
 shr:=⟨h.shr.cells.ext x,Rd.ext h.shr.ks x,Rd.ext h.shr.rs x⟩
 xok:=h.xok
 ptr:=Rd.ext h.ptr x
 mach:=fun p hp=>⟨⟨(h.mach p hp).1.cells.ext x,Rd.ext (h.mach p hp).1.ns x,Rd.ext (h.mach p hp).1.rs x⟩,(h.mach p hp).2⟩
 box:=h.box.ext x
 boxes:=fun j s l h1 h2=>⟨Rd.ext (h.boxes j s l h1 h2).1 x,(h.boxes j s l h1 h2).2⟩
 lb:=h.lb
 lbs:=h.lbs
 ll:=h.ll
 lm:=h.lm
 own:=h.own.ext x
 nms:=fun o ho=>Rd.ext (h.nms o ho) x
 lo:=h.lo
 n16:=h.n16
 lown:=h.lown.ext x
theorem Wu.c{w:World}{U:Nat→Prop}{T:Tbl}{b B:Nat}{d:Dk}(h:Wu w U T b B d)(j:Nat){v:Value}(hv:(Zvb d)[j]?=some v):w.cell? ⟨b,j,none⟩=some v:=by
 rw[h.cells.at_ j (Zr.1 hv).1,hv]
section
variable {w:World} {U:Nat→Prop} {T:Tbl} {b B:Nat} {d:Dk}
theorem Wu.setOp(h:Wu w U T b B d){g n c z f:Nat}{o o':OpS}{vs:List Value}(hv:d.ov=.slice (some ⟨g,0,none⟩) n c)(hz:d.ops[z]?=some o)(hf:f+vs.length≤23)(he:opC o'.1=(opC o.1).take f++(vs++(opC o.1).drop (f+vs.length)))
 (hn:Wo w (fun k=>¬ U k) o'.1.nv o'.1.ns) (h16:o'.1.ns.length≤16∧Zz0 o'.1):Wu (w.setCells g (z*23+f) vs) U T b B {d with ops:=d.ops.set z o' }:=by
 have c:Chg (· = g) w (w.setCells g (z*23+f) vs):=Xe (S:=(· = g)) (.inl rfl) (Chg.refl _ _);have hob:d.ov.ownBlock=some g:=by rw[hv];rfl
 have hug:=h.uo g hob;obtain⟨n1,n2,n3,n4,n5⟩:=h.nov hob;have hS:∀ j,¬ U j→¬ j=g:=fun j hj e=>hj (e▸hug)
 exact {
  cells:=h.cells.chg c n1
  hU:=fun k hk=>⟨(h.hU k hk).1,Zgp (h.hU k hk).2 c.size⟩
  ub:=h.ub,ux:=h.ux,ugb:=h.ugb,ugl:=h.ugl,um:=h.um,uo:=h.uo,dis:=h.dis,dio:=h.dio
  tbl:=h.tbl.chg c hS
  shr:=h.shr.chg c n2 hS
  xok:=h.xok
  ptr:=Rd.chg h.ptr c hS
  mach:=fun p hp=>⟨(h.mach p hp).1.chg c (n5 p hp) hS,(h.mach p hp).2⟩
  box:=h.box.chg c (by intro j hj e;simp only[Dk.bv,Value.ownBlock,Yc]at hj;exact n3 (hj.trans e))
  boxes:=fun j s l h1 h2=>⟨Rd.chg (h.boxes j s l h1 h2).1 c hS,(h.boxes j s l h1 h2).2⟩
  lb:=h.lb,lbs:=h.lbs,ll:=h.ll,lm:=h.lm
  own:=by
   have h0:=h.own;unfold Own at h0⊢;rw[hv]at h0;simp only[hv,Zf];have h1:=Cj (vs:=vs) (p:=z*23+f) h0;have e:Ztj (opE.cells d.ops) (z*23+f) vs=opE.cells (d.ops.set z o'):=by
    show Ztj (Lx (d.ops.map Subtype.val)) (z*23+f) vs=Lx ((d.ops.set z o').map Subtype.val);rw[Zq1 (o:=o.1) (o':=o'.1) (by rw[Zn,hz];rfl) hf he,Zey]
   rw[e]at h1;exact h1
  nms:=fun q hq=>by
   rcases Zf2 hq with h1|rfl
   ·exact Rd.chg (h.nms q h1) c hS
   exact Rd.chg hn c hS
  lo:=by rw[Zf];exact h.lo
  n16:=fun q hq=>by
   rcases Zf2 hq with h1|rfl
   ·exact h.n16 q h1
   exact h16
  lown:=h.lown.chg c (by intro j hj e;simp only[Dk.lv,Value.ownBlock,Yc]at hj;exact n4 (hj.trans e))}
theorem Wu.setBox(h:Wu w U T b B d){k:Nat}(hk:k<d.ms.length)(s:Sl)(l:List ByteArray)(hr:RdE Vm w (fun k=>¬ U k) s.v l)(hl:l.length≤8) :
 Wu (w.setCell ⟨d.gb,k,none⟩ s.v) U T b B {d with bx:=d.bx.set k s,bs_:=d.bs_.set k l}:=by
 have c:Chg (· = d.gb) w (w.setCell ⟨d.gb,k,none⟩ s.v):=(Chg.refl (· = d.gb) w).setCell (p:=⟨d.gb,k,none⟩) (.inl rfl) _;obtain⟨n1,n2,n3,n4,n5,n6,n7⟩:=h.ne;have hS:∀ j,¬ U j→¬ j=d.gb:=fun j hj e=>hj (e▸h.ugb)
 exact {
  cells:=by
   have:=h.cells.chg c n2;unfold Zvb Dk.bv at this⊢;simp only[Zf];exact this
  hU:=fun k hk=>⟨(h.hU k hk).1,Zgp (h.hU k hk).2 c.size⟩
  ub:=h.ub,ux:=h.ux,ugb:=h.ugb,ugl:=h.ugl,um:=h.um,uo:=h.uo,dis:=h.dis,dio:=h.dio
  tbl:=h.tbl.chg c hS
  shr:=h.shr.chg c n4 hS
  xok:=h.xok
  ptr:=Rd.chg h.ptr c hS
  mach:=fun p hp=>⟨(h.mach p hp).1.chg c (n7 p hp).2.2.1 hS,(h.mach p hp).2⟩
  box:=by
   have h1:=Own.put (E:=ssE) h.box rfl (i:=k) (by rw[h.lb];exact hk) s (u:=s.v) rfl;show Own ssE _ B (.slice (some ⟨d.gb,0,none⟩) (d.bx.set k s).length d.cb) _;rw[Zf];exact h1
  boxes:=fun j s' l' h1 h2=>by
   by_cases e:k=j
   ·subst e;rw[Zc (by rw[h.lb];exact hk)]at h1;rw[Zc (by rw[h.lbs];exact hk)]at h2;obtain rfl:=Zgm h1;obtain rfl:=Zgm h2;exact⟨Rd.chg hr c hS,hl⟩
   rw[Zb e]at h1 h2;exact⟨Rd.chg (h.boxes j s' l' h1 h2).1 c hS,(h.boxes j s' l' h1 h2).2⟩
  lb:=by rw[Zf];exact h.lb
  lbs:=by rw[Zf];exact h.lbs
  ll:=h.ll,lm:=h.lm
  own:=h.own.chg c (fun j hj e=>(h.nov hj).2.2.1 e.symm)
  nms:=fun q hq=>Rd.chg (h.nms q hq) c hS
  lo:=h.lo,n16:=h.n16
  lown:=h.lown.chg c (by intro j hj e;simp only[Dk.lv,Value.ownBlock,Yc]at hj;exact n6 (hj.trans e).symm)}
theorem Wu.setLast(h:Wu w U T b B d){k:Nat}(hk:k<d.ms.length)(z:Int):Wu (w.setCell ⟨d.gl,k,none⟩ (.int .i64 z)) U T b B {d with last:=d.last.set k z}:=by
 have c:Chg (· = d.gl) w (w.setCell ⟨d.gl,k,none⟩ (.int .i64 z)):=(Chg.refl (· = d.gl) w).setCell (p:=⟨d.gl,k,none⟩) (.inl rfl) _;obtain⟨n1,n2,n3,n4,n5,n6,n7⟩:=h.ne;have hS:∀ j,¬ U j→¬ j=d.gl:=fun j hj e=>hj (e▸h.ugl)
 exact {
  cells:=by
   have:=h.cells.chg c n3;unfold Zvb Dk.lv at this⊢;simp only[Zf];exact this
  hU:=fun k hk=>⟨(h.hU k hk).1,Zgp (h.hU k hk).2 c.size⟩
  ub:=h.ub,ux:=h.ux,ugb:=h.ugb,ugl:=h.ugl,um:=h.um,uo:=h.uo,dis:=h.dis,dio:=h.dio
  tbl:=h.tbl.chg c hS
  shr:=h.shr.chg c n5 hS
  xok:=h.xok
  ptr:=Rd.chg h.ptr c hS
  mach:=fun p hp=>⟨(h.mach p hp).1.chg c (n7 p hp).2.2.2 hS,(h.mach p hp).2⟩
  box:=h.box.chg c (by intro j hj e;simp only[Dk.bv,Value.ownBlock,Yc]at hj;exact n6 (hj.trans e))
  boxes:=fun j s l h1 h2=>⟨Rd.chg (h.boxes j s l h1 h2).1 c hS,(h.boxes j s l h1 h2).2⟩
  lb:=h.lb,lbs:=h.lbs
  ll:=by rw[Zf];exact h.ll
  lm:=h.lm
  own:=h.own.chg c (fun j hj e=>(h.nov hj).2.2.2.1 e.symm)
  nms:=fun q hq=>Rd.chg (h.nms q hq) c hS
  lo:=h.lo,n16:=h.n16
  lown:=by
   have h1:=Own.put (E:=Ww) h.lown rfl (i:=k) (by rw[h.ll];exact hk) z (u:=.int .i64 z) rfl;show Own Ww _ B (.slice (some ⟨d.gl,0,none⟩) (d.last.set k z).length d.cl) _;rw[Zf];exact h1}
theorem Wu.setT(h:Wu w U T b B d)(t:Nat):Wu (w.setCell ⟨b,5,none⟩ (.int .i64 (t:Int))) U T b B {d with t:=t}:=by
 have c:Chg (· = b) w (w.setCell ⟨b,5,none⟩ (.int .i64 (t:Int))):=(Chg.refl (· = b) w).setCell (p:=⟨b,5,none⟩) (.inl rfl) _;obtain⟨n1,n2,n3,n4,n5,n6,n7⟩:=h.ne;have hS:∀ j,¬ U j→¬ j=b:=fun j hj e=>hj (e▸h.ub)
 exact {
  cells:=h.cells.set (j:=5) (by show 5<6;omega) _
  hU:=fun k hk=>⟨(h.hU k hk).1,Zgp (h.hU k hk).2 c.size⟩
  ub:=h.ub,ux:=h.ux,ugb:=h.ugb,ugl:=h.ugl,um:=h.um,uo:=h.uo,dis:=h.dis,dio:=h.dio
  tbl:=h.tbl.chg c hS
  shr:=h.shr.chg c n1.symm hS
  xok:=h.xok
  ptr:=Rd.chg h.ptr c hS
  mach:=fun p hp=>⟨(h.mach p hp).1.chg c (n7 p hp).1 hS,(h.mach p hp).2⟩
  box:=h.box.chg c (by intro j hj e;simp only[Dk.bv,Value.ownBlock,Yc]at hj;exact n2 (hj.trans e).symm)
  boxes:=fun j s l h1 h2=>⟨Rd.chg (h.boxes j s l h1 h2).1 c hS,(h.boxes j s l h1 h2).2⟩
  lb:=h.lb,lbs:=h.lbs,ll:=h.ll,lm:=h.lm
  own:=h.own.chg c (fun j hj e=>(h.nov hj).1 e.symm)
  nms:=fun q hq=>Rd.chg (h.nms q hq) c hS
  lo:=h.lo,n16:=h.n16
  lown:=h.lown.chg c (by intro j hj e;simp only[Dk.lv,Value.ownBlock,Yc]at hj;exact n3 (hj.trans e).symm)}
theorem Wu.addOp(h:Wu w U T b B d){w':World}{o:OpS}{A:Option Addr}{n c:Nat}(hg:Grew opE w B d.ov (d.ops++[o]) A n c w')(hlen:d.ops.length<4096)(hn:o.1.ns=[])(hv:o.1.nv=.slice none 0 0)(hf:Zz0 o.1) :
 Wu (w'.setCell ⟨b,3,none⟩ (.slice A n c)) (fun j=>U j∨(Value.slice A n c).ownBlock=some j) T b B {d with ops:=d.ops++[o],ov:=.slice A n c}:=by
 have cg:=hg.chg;have c0:Chg (fun j=>d.ov.ownBlock=some j∨j=b) w (w'.setCell ⟨b,3,none⟩ (.slice A n c)):=(cg.mono fun _ _ e=>.inl e).setCell (p:=⟨b,3,none⟩) (.inl (.inr rfl)) _;obtain⟨n1,n2,n3,n4,n5,n6,n7⟩:=h.ne;have ho:∀ j,(Value.slice A n c).ownBlock=some j→d.ov.ownBlock=some j∨j=w.heap.size:=fun j hj=>by
  rcases hg.at_ with e|e
  ·exact .inl (e▸hj)
  rw[e]at hj;exact .inr (Zgm hj).symm
 have hUn:∀ j,U j→j≠w.heap.size:=fun j hj=>Zde (h.hU j hj).2
 have hS:∀ j,¬ U j→¬ (d.ov.ownBlock=some j∨j=b):=fun j hj e=>by
  rcases e with e|e
  ·exact hj (h.uo j e)
  exact hj (e▸h.ub)
 have hM:∀ j,¬ U j→j<w.heap.size→¬ (U j∨(Value.slice A n c).ownBlock=some j):=fun j hj hl e=>by
  rcases e with e|e
  ·exact hj e
  rcases ho j e with e|e
  ·exact hj (h.uo j e)
  omega
 have mv:∀ {z:Nat} {v:Value} {k:Nat} {xs:List Value},Rd w (fun j=>¬ U j) z v k xs→Rd (w'.setCell ⟨b,3,none⟩ (.slice A n c)) (fun j=>¬ (U j∨(Value.slice A n c).ownBlock=some j)) z v k xs:=fun {z v k xs} hr=>by
  have h1:Rd w (fun j=>¬ U j∧¬ (U j∨(Value.slice A n c).ownBlock=some j)) z v k xs:=Rd.mono hr fun j hj hl=>⟨hj,hM j hj hl⟩
  exact Rd.mono (Rd.chg h1 c0 fun j hj=>hS j hj.1) fun j hj _=>hj.2
 have hsz:=c0.size;have nb:∀ j,(d.ov.ownBlock=some j∨j=b)→d.xb≠j∧d.gb≠j∧d.gl≠j∧∀ p∈d.ms,p.1≠j:=fun j e=>by
  rcases e with e|rfl
  ·have:=h.nov e;exact⟨this.2.1,this.2.2.1,this.2.2.2.1,this.2.2.2.2⟩
  exact⟨n1.symm,n2.symm,n3.symm,fun p hp=>(n7 p hp).1⟩
 have hsub:∀ {q:Nat},U q→q<w.heap.size:=fun hq=>(h.hU _ hq).2
 exact {
  cells:=by
   have hc1:Xm w' b (Zvb d):=h.cells.chg cg fun e=>(h.nov e).1 rfl
   have:=hc1.set (j:=3) (by show 3<6;omega) (.slice A n c);exact this
  hU:=fun k hk=>by
   rcases hk with hk|hk
   ·exact⟨(h.hU k hk).1,Zgp (h.hU k hk).2 hsz⟩
   have:=hg.own.lt k hk;refine⟨this.1,Zgp this.2 ?_⟩;exact((Chg.refl (· = b) w').setCell (p:=⟨b,3,none⟩) (.inl rfl) (.slice A n c)).size
  ub:=.inl h.ub,ux:=.inl h.ux,ugb:=.inl h.ugb,ugl:=.inl h.ugl
  um:=fun p hp=>.inl (h.um p hp)
  uo:=fun k hk=>.inr hk
  dis:=h.dis
  dio:=fun k hk=>by
   rcases ho k hk with e|rfl
   ·exact h.dio k e
   intro hm;simp only[Zg]at hm;rcases hm with e|e|e|e|e
   ·exact hUn _ h.ub e.symm
   ·exact hUn _ h.ux e.symm
   ·exact hUn _ h.ugb e.symm
   ·exact hUn _ h.ugl e.symm
   obtain⟨p,hp,e⟩:=Zgg.1 e;exact hUn _ (h.um p hp) e
  tbl:=by
   have h1:=Ax h.tbl (fun j hj hl=>(⟨hj,hM j hj hl⟩:¬ U j∧¬ (U j∨(Value.slice A n c).ownBlock=some j)));exact Ax (h1.chg c0 fun j hj=>hS j hj.1) fun j hj _=>hj.2
  shr:=⟨h.shr.cells.chg c0 (fun e=>(nb _ e).1 rfl),mv h.shr.ks,mv h.shr.rs⟩
  xok:=h.xok
  ptr:=mv h.ptr
  mach:=fun p hp=>⟨⟨(h.mach p hp).1.cells.chg c0 (fun e=>(nb _ e).2.2.2 p hp rfl),mv (h.mach p hp).1.ns,mv (h.mach p hp).1.rs⟩,(h.mach p hp).2⟩
  box:=h.box.chg c0 (by intro j hj e;simp only[Dk.bv,Value.ownBlock,Yc]at hj;exact(nb _ e).2.1 hj)
  boxes:=fun j s l h1 h2=>⟨mv (h.boxes j s l h1 h2).1,(h.boxes j s l h1 h2).2⟩
  lb:=h.lb,lbs:=h.lbs,ll:=h.ll,lm:=h.lm
  own:=hg.own.far (by
   intro e;rcases ho b e with e|e
   ·exact(h.nov e).1 rfl
   exact hUn _ h.ub e) _
  nms:=fun q hq=>by
   rcases Zj.1 hq with hq|hq
   ·exact mv (h.nms q hq)
   rw[Zi.1 hq,hn,hv];exact Rd.nil _ _ _
  lo:=by rw[Zs];show _+1≤_;omega
  n16:=fun q hq=>by
   rcases Zj.1 hq with hq|hq
   ·exact h.n16 q hq
   rw[Zi.1 hq];exact⟨by rw[hn];simp,hf⟩
  lown:=h.lown.chg c0 (by intro j hj e;simp only[Dk.lv,Value.ownBlock,Yc]at hj;exact(nb _ e).2.2.1 hj)}
end
end
theorem Eu.extE{w w':World}{a:Option Addr}{len:Nat}(h:Eu w a len)(x:Ext w w'):Eu w' a len:=by
 obtain⟨h1,h2⟩:=h;refine⟨h1,fun hl=>?_⟩;obtain⟨y,e,hy,hc⟩:=h2 hl;refine⟨y,e,Zgp hy x.size,fun j hj=>?_⟩;obtain⟨z,hz,hi⟩:=hc j hj;exact⟨z,(x.cell (by rw[add_block];exact hy)).trans hz,hi⟩
theorem Zs4(w:World)(b:Nat)(A:Option Addr)(n C:Nat)(c3:w.cell? ⟨b,3,none⟩=some (.slice A n C)):Calls prog 34 #[.pointer (some ⟨b,0,none⟩)] w fun e w'=>e=.returned (.slice A n C)∧w=w':=by
 go_enter func34,ntmps34;go_wp2_with fail;go_ret;exact⟨rfl,rfl⟩
def V6(cl:Int)(text:ByteArray):Wc:=⟨cl,1,text,0,0,.slice none 0 0,[],.slice none 0 0,[],⟨0,0,⟨#[]⟩,⟨0,0,⟨#[]⟩,0⟩,0⟩,0⟩
def Zhl(m:Wc):List Value:=[.int .i64 m.cl,.int .i64 m.st,.string m.text,.int .i64 m.op,.int .i64 m.ttl,m.lv,m.rv,.int .i64 m.ans.e,.int .i64 m.ans.at_,.string m.ans.nm,.int .i64 m.ans.rc.st,.int .i64 m.ans.rc.ow,.string m.ans.rc.nm,.int .i64 m.ans.rc.dl,.int .i64 m.ans.tick,.int .i64 m.i]
theorem Zwj(T:Tbl)(m:Wc):machC T m=Qk T++Zhl m:=rfl
theorem Zqp{w:World}{b:Nat}{T:Tbl}{m:Wc}(h:Xm w b (machC T m)):Kn w b T :=
 ⟨h.lt,fun k hk=>by rw[h.at_ k (by show k<28;omega),Zwj,Ze hk]⟩
theorem Zmj{w:World}{S:Nat→Prop}{T:Tbl}{m:Wc}(hT:Xg w S T)(h1:m.lv.oneCell'=true)(h2:m.rv.oneCell'=true):∀ v∈machC T m,v.oneCell'=true:=fun v hv=>by
 rw[Zwj,Zj]at hv;rcases hv with hv|hv
 ·exact Zos hT v hv
 simp only[Zhl,Zg,Zh,Zfi]at hv;rcases hv with rfl|rfl|rfl|rfl|rfl|rfl|rfl|rfl|rfl|rfl|rfl|rfl|rfl|rfl|rfl|rfl;all_goals first|rfl|exact h1|exact h2
theorem Zr2:(prog.info? 163).map (·.size)=some 28:=by kernel_rfl
theorem Zsh{S:Nat→Prop}(T:Tbl)(b:Nat)(m:Wc)(text:ByteArray)(w:World)(h:Xm w b (machC T m))(hT:Xg w S T)(hs:m.st=0) :
 Calls prog 114 #[.pointer (some ⟨b,0,none⟩),.string text] w fun e w'=>e=.returned (.int .i64 0)∧Xm w' b (machC T (V6 m.cl text))∧Chg (· = b) w w':=by
 have z13:w.cell? ⟨b,13,none⟩=some (.int .i64 m.st):=h.at_ 13 (by simp[machC]);have z12:w.cell? ⟨b,12,none⟩=some (.int .i64 m.cl):=h.at_ 12 (by simp[machC]);rw[hs]at z13;have m12:=lat z12;have hC:∀ w',(∃ p:Vt,w'=later w p.n p.os)→Kn w' b T:=fun w' ⟨p,e⟩=>by rw[e];exact(Zqp h).ext (⟨_,_,rfl⟩)
 have hone:=Zd8 (Zmj (m:=V6 m.cl text) hT rfl rfl);have H:=Y8 h;clear h hT hs;go_enter func114,ntmps114;go_upto_region 3 with fail;clear z12 z13;refine Xa 11 13 (by kernel_rfl) (by omega) (by kernel_rfl) (by kernel_rfl) (by kernel_rfl) ?_;simp only[Z6,Z7,Z8,Z9];repeat(first|((with_reducible refine Xf ?_ ?_ hC ?_);(focus(go_simp;done));rfl)|(refine(Yu ?_:);intro K hK;go_simp;refine hK _ ?_;clear hK K))
 unfold Vg;(refine(Yu ?_:);intro K hK;go_simp;refine hK _ ?_;clear hK K)
 refine Yt ?_;intro w9 hy9;have H9:=Y8 (H.o.ext hy9);have Y9:=Y8 hy9;have hth:=H9.o.there (o:=0) (n:=28) (Ym _);clear hy9 m12 hC;go_wp2_with (refine Zeu rfl _ _ _ rfl b 0 (machC T (V6 m.cl text)).toArray rfl rfl hth (by rw[Zr2];rfl) hone ?_);have HZ:=Y8 (H9.o.mid (o:=0) (vs:=machC T (V6 m.cl text)) (cs':=machC T (V6 m.cl text)) (Ym _) rfl);have CZ:=Y8 (Xe (S:=(· = b)) (b:=b) (.inl rfl) (vs:=machC T (V6 m.cl text)) (o:=0) (Y9.o.chg (· = b)));obtain⟨W,hW⟩:=gnX (w9.setCells b 0 (machC T (V6 m.cl text)));rw[hW]at HZ CZ;rw[show w9.setCells b 0 (machC T (V6 m.cl text)).toArray.toList=W from hW];clear hW hth hone H9 Y9;go_wp2_with fail;go_ret;exact⟨rfl,HZ.o,CZ.o⟩
def Zti(cl cp:Int):Shr:=⟨cl,cp,0,0,.slice none 0 0,[],.slice none 0 0,[]⟩
theorem Tw(cl cp:Int)(hc:Jx cl cp=0)(w:World):Calls prog 76 #[.agg #[.int .i64 cl,.int .i64 cp]] w fun e w'=>∃ b,e=.returned (.tuple #[.pointer (some ⟨b,0,none⟩),.int .i64 0])∧Xm w' b (Zi8 (Zti cl cp))∧w.heap.size≤b∧Ext w w':=by
 have Hc:=Y8 hc;clear hc;go_enter func76,ntmps76;go_wp2_with fail;refine(Zxv cl cp _).mono ?_;rintro x w1 ⟨rfl,hx1⟩;rw[Hc.o];have k0:w1.cell? ⟨w.heap.size,0,none⟩=some (.int .i64 cl):=(hx1.cell (by simp)).trans (by go_simp);have k1:w1.cell? ⟨w.heap.size,1,none⟩=some (.int .i64 cp):=(hx1.cell (by simp)).trans (by go_simp);have Hx1:=Y8 (((Yk w).alloc _).trans hx1);clear hx1;go_wp2_with fail;go_ret2;exact⟨w1.heap.size,rfl,Xm.new w1 _ _,Hx1.o.size,Hx1.o.alloc _⟩
def Tx(cl:Int):Wc:=⟨cl,0,⟨#[]⟩,0,0,.slice none 0 0,[],.slice none 0 0,[],⟨0,0,⟨#[]⟩,⟨0,0,⟨#[]⟩,0⟩,0⟩,0⟩
theorem Zy5{S:Nat→Prop}(T:Tbl)(hg:Lq T)(k:Nat)(hk:k<64)(w:World)(h:Xg w S T):Calls prog 77 #[Vg T,.int .i64 (k:Int)] w fun e w'=>∃ b,e=.returned (.tuple #[.pointer (some ⟨b,0,none⟩),.int .i64 0])∧Xm w' b (machC T (Tx k))∧w.heap.size≤b∧Ext w w':=by
 have G:=Y8 hg;clear hg;obtain⟨X0,H,Hb0⟩:=tblX h;clear h;have q1:decide ((k:Int)<0)=false:=Yf;have q2:decide ((64:Int)≤(k:Int))=false:=Yf;go_enter func77,ntmps77;go_wp2_with (first|(refine Xv rfl ?_)|(refine Xy Hb0.o rfl ?_));refine(Af T G.o _ H.o).mono ?_;rintro e w1 ⟨rfl,hx1⟩;have Hx1:=Y8 hx1;clear hx1;go_wp2_with (refine Xy (Hb0.o.ext Hx1.o) rfl ?_;unfold Vg);go_ret2;exact⟨w1.heap.size,rfl,Xm.new w1 _ _,(X0.o.trans Hx1.o).size,(X0.o.trans Hx1.o).alloc _⟩
section
def Oc(n:Nat):Array Value:=madeCells #[.slice none 0 0] n
theorem Re(n:Nat):(Oc n).toList=(List.replicate n (⟨none,0,0⟩:Sl)).map Sl.v:=by
 unfold Oc madeCells;apply Zce
 ·simp
 intro i h1 h2;simp[Nat.mod_one,Sl.v]
theorem Zmh(n:Nat)(hn:n≤4096)(w:World):(Instr.makeSlice 143 (.int .i64 (n:Int)) (.int .i64 (n:Int))).run prog w=.ok (.slice (some ⟨w.heap.size,0,none⟩) n n) (w.alloc (.cells (Oc n) 24)):=by
 obtain⟨i0,hi,hz0,hz1,hz2⟩:=Zgl Fs;have h:=run_make w 143 24 i0 _ Zkk hi hz0 .i64 .i64 n n (by omega) (by omega) (by rw[hz2];omega) (by omega);simp only[Zej,hz1,Zck]at h;exact h
theorem Zis(w:World)(n:Nat)(hn:n≤4096):Own ssE (w.alloc (.cells (Oc n) 24)) w.heap.size (.slice (some ⟨w.heap.size,0,none⟩) n n) (List.replicate n ⟨none,0,0⟩):=by
 refine⟨by rw[ssE.len],.inr ⟨w.heap.size,n,Oc n,by rw[Z2],Ym _,Zg3 w _,by rw[Z2];exact Ym _,by unfold maxLen;omega,?_,?_⟩⟩
 ·rw[← Zdw,Re];simp[ssE]
 rw[Re];show _=(List.replicate n (⟨none,0,0⟩:Sl)).map Sl.v;rw[Zm (by simp[ssE])]
structure Pc(w0 w:World)(T:Tbl)(b xb gb:Nat)(cp:Int)(n k j:Nat)(mv lv:Value)(ms:List (Nat×Wc)):Prop where
 ext:Ext w0 w
 cells:Xm w b [.pointer (some ⟨xb,0,none⟩),mv,.slice (some ⟨gb,0,none⟩) n n,.slice none 0 0,lv,.int .i64 0]
 box:Own ssE w w0.heap.size (.slice (some ⟨gb,0,none⟩) n n) (List.replicate n ⟨none,0,0⟩)
 shr:Xm w xb (Zi8 (Zti n cp))
 mOwn:Own Zlw w gb mv (ms.map Prod.fst)
 lOwn:Own Ww w gb lv (List.replicate j (-1))
 len:ms.length=k
 mach:∀ (i:Nat) p,ms[i]?=some p→p.2=Tx i∧Xm w p.1 (machC T p.2)
 ge:∀ q∈b::xb::gb::ms.map Prod.fst,w0.heap.size≤q
 dis:(b::xb::gb::ms.map Prod.fst).Nodup
 dm:∀ q,mv.ownBlock=some q→q ∉ b::xb::gb::ms.map Prod.fst
 dl:∀ q,lv.ownBlock=some q→q ∉ b::xb::gb::ms.map Prod.fst∧mv.ownBlock≠some q
section
variable {w0 w w2 w5:World} {T:Tbl} {b xb gb n k j:Nat} {cp:Int} {mv lv:Value} {ms:List (Nat×Wc)}
theorem Pc.lt(h:Pc w0 w T b xb gb cp n k j mv lv ms):∀ q∈b::xb::gb::ms.map Prod.fst,q<w.heap.size:=by
 intro q hq;simp only[Zg,Zgg]at hq;rcases hq with rfl|rfl|rfl | ⟨p,hp,rfl⟩
 ·exact h.cells.lt
 ·exact h.shr.lt
 ·exact h.box.blk.2
 obtain⟨i,hi⟩:=Zgd hp;exact(h.mach i p hi).2.lt
theorem Pc.chg{S:Nat→Prop}(h:Pc w0 w T b xb gb cp n k j mv lv ms)(x:Ext w0 w2)(c:Chg S w w2)(hS:∀ q∈b::xb::gb::ms.map Prod.fst,¬ S q)(hm:Own Zlw w2 gb mv (ms.map Prod.fst))(hl:Own Ww w2 gb lv (List.replicate j (-1))):Pc w0 w2 T b xb gb cp n k j mv lv ms where
 ext:=x
 cells:=h.cells.chg c (hS b (by simp))
 box:=h.box.chg c (by intro q hq e;simp only[Value.ownBlock,Yc]at hq;exact hS gb (by simp) (hq▸e))
 shr:=h.shr.chg c (hS xb (by simp))
 mOwn:=hm
 lOwn:=hl
 len:=h.len
 mach i p hp:=⟨(h.mach i p hp).1,(h.mach i p hp).2.chg c (hS _ (by simp only[Zg,Zgg];exact .inr (.inr (.inr ⟨p,Zy hp,rfl⟩))))⟩
 ge:=h.ge
 dis:=h.dis
 dm:=h.dm
 dl:=h.dl
theorem Pc.up(h:Pc w0 w T b xb gb cp n k j mv lv ms)(x:Ext w w2):Pc w0 w2 T b xb gb cp n k j mv lv ms :=
 h.chg (h.ext.trans x) (x.chg fun _=>False) (fun _ _ e=>e) (h.mOwn.ext x) (h.lOwn.ext x)
theorem Pc.bne(h:Pc w0 w T b xb gb cp n k j mv lv ms):b≠xb∧b≠gb∧(∀ p∈ms,b≠p.1):=by
 have:=(Zg6.1 h.dis).1;simp only[Zg,Zgg,Zby,not_exists,not_and]at this;exact⟨this.1,this.2.1,fun p hp e=>this.2.2 p hp e.symm⟩
theorem Pc.growM{mb n' c:Nat}{A:Option Addr}{o:Obj}(h:Pc w0 w T b xb gb cp n k j mv lv ms)(x:Ext w w2)(hb:Xm w2 mb (machC T (Tx k)))(hge:w.heap.size≤mb)(hg:Grew Zlw (w2.alloc o) gb mv (ms.map Prod.fst++[mb]) A n' c w5) :
 Pc w0 (w5.setCell ⟨b,1,none⟩ (.slice A n' c)) T b xb gb cp n (k+1) j (.slice A n' c) lv (ms++[(mb,Tx k)]):=by
 have h2:=h.up x;have x2:=(Yk w2).alloc o;have hlt:=h.lt;have hlt2:=h2.lt;have hsz:=x.size;have hat:∀ q,(Value.slice A n' c).ownBlock=some q→mv.ownBlock=some q∨q=(w2.alloc o).heap.size:=fun q hq=>by
  rcases hg.at_ with h1|h1
  ·exact .inl (by rw[← h1];exact hq)
  rw[hq]at h1;exact .inr (Zgm h1)
 have hS:∀ q∈b::xb::gb::ms.map Prod.fst,¬ mv.ownBlock=some q:=fun q hq e=>h.dm q e hq
 have hmbS:¬ mv.ownBlock=some mb:=fun e=>by have:=(h.mOwn.lt mb e).2;omega
 have x5:Ext w0 w5:=hg.ext w0 ((h2.ext).trans x2) (h.ge gb (by simp));have l5:Own Ww w5 gb lv (List.replicate j (-1)):=(h2.lOwn.ext x2).chg hg.chg (fun q hq e=>(h.dl q hq).2 e);have b5:=(h2.cells.ext x2).chg hg.chg (hS b (by simp));have bge:=h.ge b (by simp);obtain⟨n1,n2,n3⟩:=h.bne;have hmb2:=hb.lt;have hnew:∀ q,q∈b::xb::gb::(ms++[(mb,Tx k)]).map Prod.fst↔q∈b::xb::gb::ms.map Prod.fst∨q=mb:=fun q=>by simp[or_assoc]
 have c6:Chg (· = b) w5 (w5.setCell ⟨b,1,none⟩ (.slice A n' c)):=(Chg.refl (· = b) w5).setCell (p:=⟨b,1,none⟩) (.inl rfl) _;refine⟨x5.chg_new c6 (fun i e=>by omega),?_,?_,?_,?_,?_,?_,?_,?_,?_,?_,?_⟩
 ·exact b5.set (j:=1) (by simp) (.slice A n' c)
 ·exact((h2.box.ext x2).chg hg.chg (fun q hq e=>by simp only[Value.ownBlock,Yc]at hq;exact hS gb (by simp) (hq▸e))).far (fun e=>by simp only[Value.ownBlock,Yc]at e;exact n2 e.symm) _
 ·exact((h2.shr.ext x2).chg hg.chg (hS xb (by simp))).far n1.symm _
 ·rw[Yy];exact hg.own.far (fun e=>by
   rcases hat b e with h1|h1
   ·exact hS b (by simp) h1
   have:=hlt2 b (by simp);simp at h1;omega) _
 ·exact l5.far (fun e=>(h.dl b e).1 (by simp)) _
 ·rw[Zs,h.len];rfl
 ·intro i p hp;by_cases hi:i<ms.length
  ·rw[Ze hi]at hp;have hmem:p.1∈b::xb::gb::ms.map Prod.fst:=by simp only[Zg,Zgg];exact .inr (.inr (.inr ⟨p,Zy hp,rfl⟩))
   exact⟨(h.mach i p hp).1,(((h2.mach i p hp).2.ext x2).chg hg.chg (hS _ hmem)).far (n3 p (Zy hp)).symm _⟩
  have hil:=(Zr.1 hp).1;rw[Zs,Zfe]at hil;obtain rfl:i=ms.length:=by omega
  rw[Zd (Ym _),Nat.sub_self]at hp;obtain rfl:(mb,Tx k)=p:=by simpa using hp
  refine⟨by rw[h.len],((hb.ext x2).chg hg.chg hmbS).far (fun e=>?_) _⟩;have:=hlt b (by simp);omega
 ·intro q hq;rcases(hnew q).1 hq with hq|rfl
  ·exact h.ge q hq
  have:=h.ext.size;omega
 ·have hn:mb ∉ b::xb::gb::ms.map Prod.fst:=fun hm=>by have:=hlt mb hm;omega
  rw[Yy,show b::xb::gb::(ms.map Prod.fst++[(mb,Tx k)].map Prod.fst)=(b::xb::gb::ms.map Prod.fst)++[mb] from rfl,List.nodup_append];exact⟨h.dis,by simp,fun q hq y hy e=>hn (by rw[Zi.1 hy]at e;exact e▸hq)⟩
 ·intro q hq hm;rcases(hnew q).1 hm with hm|rfl
  ·rcases hat q hq with h1|h1
   ·exact h.dm q h1 hm
   have:=hlt2 q hm;simp at h1;omega
  rcases hat q hq with h1|h1
  ·exact hmbS h1
  simp at h1;omega
 intro q hq;refine⟨fun hm=>?_,fun e=>?_⟩
 ·rcases(hnew q).1 hm with hm|rfl
  ·exact(h.dl q hq).1 hm
  have:=(h.lOwn.lt q hq).2;omega
 rcases hat q e with h1|h1
 ·exact(h.dl q hq).2 h1
 have:=(h2.lOwn.lt q hq).2;simp at h1;omega
theorem Pc.growL{n' c:Nat}{A:Option Addr}{o:Obj}(h:Pc w0 w T b xb gb cp n k j mv lv ms)(hg:Grew Ww (w.alloc o) gb lv (List.replicate j (-1)++[-1]) A n' c w5) :
 Pc w0 (w5.setCell ⟨b,4,none⟩ (.slice A n' c)) T b xb gb cp n k (j+1) mv (.slice A n' c) ms:=by
 have x2:=(Yk w).alloc o;have hlt:=h.lt;have hat:∀ q,(Value.slice A n' c).ownBlock=some q→lv.ownBlock=some q∨q=(w.alloc o).heap.size:=fun q hq=>by
  rcases hg.at_ with h1|h1
  ·exact .inl (by rw[← h1];exact hq)
  rw[hq]at h1;exact .inr (Zgm h1)
 have hS:∀ q∈b::xb::gb::ms.map Prod.fst,¬ lv.ownBlock=some q:=fun q hq e=>(h.dl q e).1 hq
 have x5:Ext w0 w5:=hg.ext w0 (h.ext.trans x2) (h.ge gb (by simp));have m5:Own Zlw w5 gb mv (ms.map Prod.fst):=(h.mOwn.ext x2).chg hg.chg (fun q hq e=>(h.dl q e).2 hq);have bge:=h.ge b (by simp);obtain⟨n1,n2,n3⟩:=h.bne;have c6:Chg (· = b) w5 (w5.setCell ⟨b,4,none⟩ (.slice A n' c)):=(Chg.refl (· = b) w5).setCell (p:=⟨b,4,none⟩) (.inl rfl) _;have erep:List.replicate j (-1:Int)++[-1]=List.replicate (j+1) (-1):=by rw[List.replicate_succ']
 refine⟨x5.chg_new c6 (fun i e=>by omega),?_,?_,?_,?_,?_,h.len,?_,h.ge,h.dis,h.dm,?_⟩
 ·exact((h.cells.ext x2).chg hg.chg (hS b (by simp))).set (j:=4) (by simp) (.slice A n' c)
 ·exact((h.box.ext x2).chg hg.chg (fun q hq e=>by simp only[Value.ownBlock,Yc]at hq;exact hS gb (by simp) (hq▸e))).far (fun e=>by simp only[Value.ownBlock,Yc]at e;exact n2 e.symm) _
 ·exact((h.shr.ext x2).chg hg.chg (hS xb (by simp))).far n1.symm _
 ·exact m5.far (fun e=>h.dm b e (by simp)) _
 ·rw[← erep];exact hg.own.far (fun e=>by
   rcases hat b e with h1|h1
   ·exact hS b (by simp) h1
   have:=hlt b (by simp);simp at h1;omega) _
 ·intro i p hp;have hmem:p.1∈b::xb::gb::ms.map Prod.fst:=by simp only[Zg,Zgg];exact .inr (.inr (.inr ⟨p,Zy hp,rfl⟩))
  exact⟨(h.mach i p hp).1,(((h.mach i p hp).2.ext x2).chg hg.chg (hS _ hmem)).far (n3 p (Zy hp)).symm _⟩
 intro q hq;rcases hat q hq with h1|h1
 ·exact h.dl q h1
 exact⟨fun hm=>by have:=hlt q hm;simp at h1;omega,fun e=>by have:=(h.mOwn.lt q e).2;simp at h1;omega⟩
theorem Kn.chgO{S:Nat→Prop}{w w':World}{b:Nat}{T:Tbl}(h:Kn w b T)(c:Chg S w w')(hb:¬ S b):Kn w' b T :=
 ⟨Zgp h.lt c.size,fun k hk=>(c.cell (p:=⟨b,k,none⟩) h.lt hb).trans (h.at_ k hk)⟩
theorem Zj4{k:Nat}(hk:k<64):MOk (Tx k) :=
 ⟨by simp[Tx],by simp[Tx],by simp[Tx],⟨by simp[Tx];omega,KS.nil,Zfn _⟩,fun h=>by simp[Tx]at h,fun h=>by simp[Tx]at h,fun h=>by simp[Tx]at h,fun h=>by simp[Tx]at h,fun h=>by simp[Tx]at h⟩
theorem Pc.desk{S:Nat→Prop}(h:Pc w0 w T b xb gb cp n n n mv lv ms)(hn:0<n)(hn2:n≤64)(hT:Xg w0 S T):∃ (d:Dk) (U:Nat→Prop),Wu w U T b w0.heap.size d∧d.ms=ms∧d.x=Zti n cp∧d.n=0∧d.t=0∧d.ops=[]∧d.last=List.replicate n (-1)∧d.bs_=List.replicate n []:=by
 obtain⟨gl,cl,rfl,hl1,hl2,hl3,hl4⟩:=h.lOwn.some_ (by rw[Z2];exact hn);have hdl:=h.dl gl rfl;have hlt:=h.lt;have hnd:=Zg6.1 h.dis;refine⟨{xb:=xb,x:=Zti n cp,mv:=mv,ms:=ms,gb:=gb,cb:=n,bx:=List.replicate n ⟨none,0,0⟩,bs_:=List.replicate n [],ov:=.slice none 0 0,ops:=[],gl:=gl,cl:=cl,last:=List.replicate n (-1),t:=0,n:=0},fun q=>q∈b::xb::gb::gl::ms.map Prod.fst,?_,rfl,rfl,rfl,rfl,rfl,rfl,rfl⟩;have hU:∀ q,q∈b::xb::gb::gl::ms.map Prod.fst↔q∈b::xb::gb::ms.map Prod.fst∨q=gl:=fun q=>by
  simp only[Zg];constructor
  ·rintro(h1|h1|h1|h1|h1)
   ·exact .inl (.inl h1)
   ·exact .inl (.inr (.inl h1))
   ·exact .inl (.inr (.inr (.inl h1)))
   ·exact .inr h1
   exact .inl (.inr (.inr (.inr h1)))
  rintro((h1|h1|h1|h1)|h1)
  ·exact .inl h1
  ·exact .inr (.inl h1)
  ·exact .inr (.inr (.inl h1))
  ·exact .inr (.inr (.inr (.inr h1)))
  exact .inr (.inr (.inr (.inl h1)))
 have hgg:=h.ge gb (by simp);have hge:∀ q,q∈b::xb::gb::gl::ms.map Prod.fst→w0.heap.size≤q∧q<w.heap.size:=fun q hq=>by
  rcases(hU q).1 hq with hq|rfl
  ·exact⟨h.ge q hq,hlt q hq⟩
  exact⟨by omega,hl2⟩
 exact {
  cells:=by have:=h.cells;simp only[Z2]at this;simpa[Zvb,Dk.bv,Dk.lv]using this
  hU:=hge
  ub:=by simp,ux:=by simp,ugb:=by simp,ugl:=by simp
  um:=fun p hp=>by simp only[Zg,Zgg];exact .inr (.inr (.inr (.inr ⟨p,hp,rfl⟩)))
  uo:=fun k hk=>by simp[Value.ownBlock]at hk
  dis:=by
   have d0:=Zg6.1 h.dis;have d1:=Zg6.1 d0.2;have d2:=Zg6.1 d1.2;have hg:=hdl.1;simp only[Zg,Zby]at d0 d1 d2 hg;simp only[Zg6,Zg,Zby];exact⟨⟨d0.1.1,d0.1.2.1,fun e=>hg.1 e.symm,d0.1.2.2⟩,⟨d1.1.1,fun e=>hg.2.1 e.symm,d1.1.2⟩,⟨fun e=>hg.2.2.1 e.symm,d2.1⟩,hg.2.2.2,d2.2⟩
  dio:=fun k hk=>by simp[Value.ownBlock]at hk
  tbl:=Ax ((Ax (S':=fun k=>k<w0.heap.size) hT fun k _ hl=>hl).up h.ext) (fun k hk _ hu=>by have:=(hge k hu).1;omega)
  shr:=⟨h.shr,Rd.nil _ _ _,Rd.nil _ _ _⟩
  xok:=⟨by simp[Zti],by simp[Zti],by simp[Zti],by simp[Zti],by simp[Zti],by simp[Zti]⟩
  ptr:=Rd.of_own h.mOwn (fun q hq hu=>by
   rcases(hU q).1 hu with hu|rfl
   ·exact h.dm q hq hu
   exact hdl.2 hq)
  mach:=fun p hp=>by
   obtain⟨i,hi⟩:=Zgd hp;obtain⟨h1,h2⟩:=h.mach i p hi;have hil:=(Zr.1 hi).1;rw[h.len]at hil;obtain⟨p1,p2⟩:=p;simp only at h1 h2⊢;subst h1;exact⟨⟨h2,Rd.nil _ _ _,Rd.nil _ _ _⟩,Zj4 (by omega)⟩
  box:=by have:=h.box;simpa[Dk.bv]using this
  boxes:=fun j s l h1 h2=>by
   have e1:=Zy h1;have e2:=Zy h2;rw[Zcn e1,Zcn e2];exact⟨Rd.nil _ _ _,by simp⟩
  lb:=by simp[h.len]
  lbs:=by simp[h.len]
  ll:=by simp[h.len]
  lm:=by simp[h.len];exact hn2
  own:=Own.nil _ _ _
  nms:=by simp
  lo:=by simp
  n16:=by simp
  lown:=by have:=h.lOwn.base hgg;simpa[Dk.lv]using this}
end
end
theorem Zip(w:World)(mb:Nat)(t:TypeId)(g:Nat)(hg:w.heap.size=g):RdE Zlw (w.alloc (.cells #[.pointer (some ⟨mb,0,none⟩)] t)) (fun _=>True) (.slice (some ⟨g,0,none⟩) 1 1) [mb]:=by
 subst hg;exact Qh w #[.pointer (some ⟨mb,0,none⟩)] t 1 rfl
def Zzb(T:Tbl)(n:Nat)(cp:Int)(w:World)(e:Ending)(w':World):Prop :=
 ∃ (b:Nat) (d:Dk) (U:Nat→Prop),e=.returned (.tuple #[.pointer (some ⟨b,0,none⟩),.int .i64 0])∧Wu w' U T b w.heap.size d∧d.ms.length=n∧(∀ (i:Nat) p,d.ms[i]?=some p→p.2=Tx i)∧d.x=Zti n cp∧d.n=0∧d.t=0∧d.ops=[]∧d.last=List.replicate n (-1)∧d.bs_=List.replicate n []∧Ext w w'
theorem Zy4{S:Nat→Prop}(T:Tbl)(hg:Lq T)(n:Nat)(cp:Int)(hn:0<n)(hn2:n≤64)(hc:Jx n cp=0)(w:World)(h:Xg w S T):Calls prog 31 #[Vg T,.agg #[.int .i64 (n:Int),.int .i64 cp]] w (Zzb T n cp w):=by
 have G:=Y8 hg;have Hc:=Y8 hc;have HT:=Y8 h;clear hg hc;obtain⟨X0,H,Hb0⟩:=tblX h;clear h;go_enter func31,ntmps31;go_wp2_with (first|(refine Xv rfl ?_)|(refine Xy (Hb0.o.ext ((Yk _).alloc _)) rfl ?_));have X1:=Y8 (X0.o.alloc (.cells #[.int .i64 (n:Int),.int .i64 cp] 37));have Cb:=Y8 (Xm.new (w.alloc (Wz T)) #[.int .i64 (n:Int),.int .i64 cp] 37);obtain⟨cb,hcb⟩:=gnX (((w.alloc (Wz T))).heap.size);obtain⟨W1,hW1⟩:=gnX (((w.alloc (Wz T))).alloc (.cells #[.int .i64 (n:Int),.int .i64 cp] 37));have Hb1:=Y8 (Hb0.o.ext ((Yk _).alloc (.cells #[.int .i64 (n:Int),.int .i64 cp] 37)));rw[hW1]at X1 Hb1;rw[hcb]at Cb;rw[hW1]at Cb;try rw[hW1]
 have hcb':w.heap.size+1=cb:=by rw[← hcb];simp
 try rw[hcb']
 clear hW1 hcb hcb';refine(Af T G.o _ (HT.o.up X1.o)).mono ?_;rintro e w2 ⟨rfl,hx2⟩;have c0:=(Cb.o.ext hx2).at_ 0 (by simp);have c1:=(Cb.o.ext hx2).at_ 1 (by simp);simp only[Zx,Zw]at c0 c1;have X2:=Y8 (X1.o.trans hx2);have Cb2:=Y8 (Cb.o.ext hx2);have Hb2:=Y8 (Hb1.o.ext hx2);clear hx2;go_wp2_with fail;refine(Tw n cp Hc.o _).mono ?_;rintro e w3 ⟨xb,rfl,hsh,hxb,hx3⟩;have c0:=(Cb2.o.ext hx3).at_ 0 (by simp);simp only[Zx]at c0;have X3:=Y8 (X2.o.trans hx3);have Cb3:=Y8 (Cb2.o.ext hx3);have Hb3:=Y8 (Hb2.o.ext hx3);have Hsh:=Y8 hsh;have mk:=Zmh n (by omega);clear hx3 hsh c1;have hxb2:=Hsh.o.lt;have hs3:=X3.o.size;have hxw2:=X2.o.size;have D0:=Y8 (show Pc w ((w3.alloc (.cells (Oc n) 24)).alloc (.cells #[.pointer (some ⟨xb,0,none⟩),.slice none 0 0,.slice (some ⟨w3.heap.size,0,none⟩) n n,.slice none 0 0,.slice none 0 0,.int .i64 0] 146)) T (w3.heap.size+1) xb w3.heap.size cp n 0 0 (.slice none 0 0) (.slice none 0 0) [] from
  {ext:=(X3.o.alloc _).alloc _
   cells:=by
    have:=Xm.new (w3.alloc (.cells (Oc n) 24)) #[.pointer (some ⟨xb,0,none⟩),.slice none 0 0,.slice (some ⟨w3.heap.size,0,none⟩) n n,.slice none 0 0,.slice none 0 0,.int .i64 0] 146;rw[show(w3.alloc (.cells (Oc n) 24)).heap.size=w3.heap.size+1 by simp]at this;exact this
   box:=((Zis w3 n (by omega)).base hs3).ext ((Yk _).alloc _)
   shr:=(Hsh.o.ext ((Yk _).alloc _)).ext ((Yk _).alloc _)
   mOwn:=Own.nil _ _ _
   lOwn:=Own.nil _ _ _
   len:=rfl
   mach:=fun i p hp=>by simp at hp
   ge:=fun q hq=>by simp only[Zfv,Zg,Zh,Zfi]at hq;omega
   dis:=by
    simp only[Zfv,Zg6,Zg,Zh,Zfi,Zby,not_false_eq_true,List.nodup_nil,Zfw];omega
   dm:=fun q hq=>by simp[Value.ownBlock]at hq
   dl:=fun q hq=>by simp[Value.ownBlock]at hq})
 have Hb4:=Y8 ((Hb3.o.ext ((Yk _).alloc (.cells (Oc n) 24))).ext ((Yk _).alloc (.cells #[.pointer (some ⟨xb,0,none⟩),.slice none 0 0,.slice (some ⟨w3.heap.size,0,none⟩) n n,.slice none 0 0,.slice none 0 0,.int .i64 0] 146)));have Cb4:=Y8 ((Cb3.o.ext ((Yk _).alloc (.cells (Oc n) 24))).ext ((Yk _).alloc (.cells #[.pointer (some ⟨xb,0,none⟩),.slice none 0 0,.slice (some ⟨w3.heap.size,0,none⟩) n n,.slice none 0 0,.slice none 0 0,.int .i64 0] 146)));go_upto_region 7 with fail;obtain⟨W4,hW4⟩:=gnX ((w3.alloc (.cells (Oc n) 24)).alloc (.cells #[.pointer (some ⟨xb,0,none⟩),.slice none 0 0,.slice (some ⟨w3.heap.size,0,none⟩) n n,.slice none 0 0,.slice none 0 0,.int .i64 0] 146));rw[hW4]at D0 Hb4 Cb4;rw[hW4];obtain⟨gb,hgb⟩:=gnX (w3.heap.size);obtain⟨b,hb⟩:=gnX (w3.heap.size+1);have hcl:=Cb3.o.lt;have hbl:=Hb3.o.lt;rw[hb]at D0;rw[hgb]at D0 hcl hbl hb hs3 hxb2;try rw[hgb]
 try rw[hb]
 have Hbz:=Y8 hb;clear hW4 mk c0 X1 X2 X3 Hb2 Hb3 Cb Cb2 Cb3 Hb1 Hsh hgb hb;go_wp2_with fail;go_loopw [9] (fun o wr=>∃ (k:Nat) (mv lv:Value) (ms:List (Nat×Wc)),k≤n∧o=.int .i64 (k:Int)∧Pc w wr T b xb gb cp n k k mv lv ms∧Kn wr w.heap.size T∧Xm wr cb [.int .i64 (n:Int),.int .i64 cp]) (fun o _=>n-(intOf o).toNat);case atStart=>exact⟨0,_,_,[],by omega,rfl,D0.o,Hb4.o,Cb4.o⟩
 clear D0 Hb4 Cb4;obtain⟨k,mv,lv,ms,hk,rfl,hd,hbx,hcx⟩:=hrel;rename World=>wr
 have D1:=Y8 hd;have B1:=Y8 hbx;have C1:=Y8 hcx;have c0:=hcx.at_ 0 (by simp);simp only[Zx]at c0;clear hd hbx hcx;by_cases hlt:k<n
 ·obtain⟨hd_k,i0_k,i1_k⟩:=LTl k n;go_wp2_with (refine Xy B1.o rfl ?_);refine(Zy5 T G.o k (by omega) _ (HT.o.up D1.o.ext)).mono ?_;rintro e w2 ⟨mb,rfl,hmb,hge,hx2⟩;have Hmb:=Y8 hmb;have X2:=Y8 hx2;have D2:=Y8 (D1.o.up hx2);have B2:=Y8 (B1.o.ext hx2);have C2:=Y8 (C1.o.ext hx2);have a1:=D2.o.cells.at_ 1 (by simp);simp only[Zx,Zw]at a1;obtain⟨Am,Cm,rfl,hlm,hcm⟩:=D2.o.mOwn.shape;obtain⟨nm,hnm⟩:=gnX ((ms.map Prod.fst).length);rw[hnm]at a1 D1 D2 hlm;have Hnm:=Y8 (show nm=k by rw[← hnm,Zq];exact D2.o.len);have Hnm2:=Y8 hnm;have hsz:=D2.o.ext.size;clear hmb hx2 hnm c0 hd_k;go_upto_region 12 with(at_builtin;refine Xt Zlw _ _ _ rfl rfl rfl rfl (D2.o.mOwn.ext ((Yk _).alloc _)) rfl (Zip w2 mb _ _ rfl) (by rw[Hnm2.o];show nm+1≤_;have:=Hnm.o;omega) (by show 8≤1000;omega) (by have:=D2.o.box.blk.2;simp;omega) ?_;intro A5 n5 c5 w5 hg5;have D3:=Y8 (D1.o.growM X2.o Hmb.o hge hg5);have b5:=(D2.o.cells.ext ((Yk _).alloc (.cells #[.pointer (some ⟨mb,0,none⟩)] 147))).chg hg5.chg (fun e=>D2.o.dm b e (by simp));have X5:=Y8 (hg5.ext w (D2.o.ext.alloc _) hs3);have B5:=Y8 ((B2.o.ext ((Yk _).alloc (.cells #[.pointer (some ⟨mb,0,none⟩)] 147))).chgO hg5.chg (fun e=>by have:=(D2.o.mOwn.lt _ e).1;omega));have C5:=Y8 ((C2.o.ext ((Yk _).alloc (.cells #[.pointer (some ⟨mb,0,none⟩)] 147))).chg hg5.chg (fun e=>by have:=(D2.o.mOwn.lt _ e).1;omega));have a1':=b5.at_ 1 (by simp);have f1':=b5.fz;simp only[Zx,Zw]at a1';clear hg5 b5);have cst:=(Chg.refl (· = b) w5).setCell (p:=⟨b,1,none⟩) (.inl rfl) (.slice A5 n5 c5);have B6:=Y8 (B5.o.chgO cst (show ¬ w.heap.size=b by have:=Hbz.o;omega));have C6:=Y8 (C5.o.chg cst (show ¬ cb=b by have:=Hbz.o;omega));obtain⟨W6,hW6⟩:=gnX (w5.setCell ⟨b,1,none⟩ (.slice A5 n5 c5));rw[hW6]at D3 B6 C6;rw[hW6];clear hW6 cst a1 a1' f1' D1 D2 B1 B2 C1 C2 B5 C5 X2 X5 Hmb;have a4:=D3.o.cells.at_ 4 (by simp);simp only[Zx,Zw]at a4;obtain⟨Al,Cl,rfl,hll,hcl'⟩:=D3.o.lOwn.shape;rw[Z2]at a4 D3 hll;go_upto_region 9 with(at_builtin;refine Xt Ww _ _ _ rfl rfl rfl rfl (D3.o.lOwn.ext ((Yk _).alloc _)) rfl (Ws W6 (-1) _ _ rfl) (by rw[Z2];show k+1≤_;omega) (by show 8≤1000;omega) (by have:=D3.o.box.blk.2;simp;omega) ?_;intro A7 n7 c7 w7 hg7;have D4:=Y8 (D3.o.growL hg7);have b7:=(D3.o.cells.ext ((Yk _).alloc (.cells #[.int .i64 (-1)] 3))).chg hg7.chg (fun e=>(D3.o.dl b e).1 (by simp));have B7:=Y8 ((B6.o.ext ((Yk _).alloc (.cells #[.int .i64 (-1)] 3))).chgO hg7.chg (fun e=>by have:=(D3.o.lOwn.lt _ e).1;omega));have C7:=Y8 ((C6.o.ext ((Yk _).alloc (.cells #[.int .i64 (-1)] 3))).chg hg7.chg (fun e=>by have:=(D3.o.lOwn.lt _ e).1;omega));have a4':=b7.at_ 4 (by simp);have f4':=b7.fz;simp only[Zx,Zw]at a4';clear hg7 b7);have cst:=(Chg.refl (· = b) w7).setCell (p:=⟨b,4,none⟩) (.inl rfl) (.slice A7 n7 c7);have B8:=Y8 (B7.o.chgO cst (show ¬ w.heap.size=b by have:=Hbz.o;omega));have C8:=Y8 (C7.o.chg cst (show ¬ cb=b by have:=Hbz.o;omega));clear cst a4 a4' f4' B7 C7 B6 C6;go_wp2_with fail;go_roundw;case rel=>exact⟨k+1,_,_,_,by omega,by go_num,D4.o,B8.o,C8.o⟩
  (simp[intOf];omega)
 have hd_k:=GEl k n;go_wp2_with fail;go_ret2;obtain rfl:k=n:=by omega
 obtain⟨d,U,h1,h2,h3,h4,h5,h6,h7,h8⟩:=D1.o.desk hn hn2 HT.o;exact⟨b,d,U,rfl,h1,by rw[h2];exact D1.o.len,fun i p hp=>(D1.o.mach i p (by rw[← h2];exact hp)).1,h3,h4,h5,h6,h7,h8,D1.o.ext⟩
