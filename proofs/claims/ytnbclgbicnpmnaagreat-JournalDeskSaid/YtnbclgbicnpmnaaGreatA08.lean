/- Lemmas of this claim: ModF. Conditions: as named. -/
import Derived.Test.YtnbclgbicnpmnaaGreatA07
namespace Go.Proofs.YtnbclgbicnpmnaaGreat
open Go.RowKit Go.Sort Tryz
set_option maxHeartbeats 0
set_option maxRecDepth 100000
set_option linter.all false
open Go.RowKit Go.Sort Go.Shelf
theorem Dh{w:World}{base base':Nat}{e:TypeId}{size:Nat}{v:Value}{n:Nat}{xs:List Value}(h:w.ownsRow base e size v n xs)(hb:base'≤base):w.ownsRow base' e size v n xs :=
 ⟨h.1,h.2.imp id fun⟨g,cap,cur,a,b,c⟩=>⟨g,cap,cur,a,Zgo hb b,c⟩⟩
theorem Qh(w:World)(cs:Array Value)(t:TypeId)(z:Nat)(h:cs.size=z):Rd (w.alloc (.cells cs t)) (fun _=>True) z (.slice (some ⟨w.heap.size,0,none⟩) 1 1) 1 cs.toList:=by
 refine⟨by simp[h],_,1,rfl,Ym _,by unfold maxLen;omega,fun _=>⟨w.heap.size,0,rfl,trivial,by simp,fun j u hu=>?_⟩⟩;rw[Zg7];show(w.alloc (.cells cs t)).cell? ⟨w.heap.size,j,none⟩=some u;have h1:(w.alloc (.cells cs t)).heap[w.heap.size]?=some (.cells cs t):=Zg3 w _;simp only[World.cell?,h1];simpa using hu
theorem My{S:Nat→Prop}{w w':World}{base:Nat}{e:TypeId}{size:Nat}{v:Value}{n:Nat}{xs:List Value}(h:w.ownsRow base e size v n xs)(c:Chg S w w')(hS:∀ k,v.ownBlock=some k→¬ S k):w'.ownsRow base e size v n xs:=by
 refine⟨h.1,?_⟩;rcases h.2 with hn | ⟨g,cap,cur,rfl,hb,hgg,rest⟩
 ·exact .inl hn
 exact .inr ⟨g,cap,cur,rfl,hb,(c.block g (Zgk.1 hgg).1 (hS g rfl)).trans hgg,rest⟩
abbrev Q4(w:World)(S:Nat→Prop)(v:Value)(rs:List Rc):Prop:=Rd w S 4 v rs.length (Kt rs)
theorem V7{w:World}{S:Nat→Prop}{v:Value}{rs:List Rc}(h:Q4 w S v rs){j:Nat}{r:Rc}(hr:rs[j]?=some r) :
 ∃ g o c,v=.slice (some ⟨g,o,none⟩) rs.length c∧rs.length≤c∧c≤maxLen∧g<w.heap.size ∧
  w.cell? ⟨g,o+j*4,none⟩=some (.int .i64 r.st)∧w.cell? ⟨g,o+j*4+1,none⟩=some (.int .i64 r.ow)∧w.cell? ⟨g,o+j*4+2,none⟩=some (.string r.nm)∧w.cell? ⟨g,o+j*4+3,none⟩=some (.int .i64 r.dl):=by
 have hj:=(Zr.1 hr).1;obtain⟨g,o,c,h1,h2,h3,_,h5,h6⟩:=Rd.at_ h hj;have e:rs.getD j default=r:=by rw[Zfr,hr];rfl
 have q:=fun i hi=>Zn6 rs hj i hi
 rw[e]at q;exact⟨g,o,c,h1,h2,h3,h5,h6 _ _ (q 0 (by omega)),h6 _ _ (q 1 (by omega)),h6 _ _ (q 2 (by omega)),h6 _ _ (q 3 (by omega))⟩
structure RZ(w:World)(rb:Nat):Prop where
 z0:w.cell? ⟨rb,0,none⟩=some (.int .i64 0)
 z1:w.cell? ⟨rb,1,none⟩=some (.int .i64 0)
 z2:w.cell? ⟨rb,2,none⟩=some (.string ⟨#[]⟩)
 z3:w.cell? ⟨rb,3,none⟩=some (.int .i64 0)
 z4:w.cell? ⟨rb,4,none⟩=some (.int .i64 0)
 z5:w.cell? ⟨rb,5,none⟩=some (.string ⟨#[]⟩)
 z6:w.cell? ⟨rb,6,none⟩=some (.int .i64 0)
 z7:w.cell? ⟨rb,7,none⟩=some (.int .i64 0)
 fz:∀ i,w.frozen? ⟨rb,i,none⟩=false
 lt:rb<w.heap.size
theorem RZ.chg{S:Nat→Prop}{w w':World}{rb:Nat}(h:RZ w rb)(c:Chg S w w')(hb:¬ S rb):RZ w' rb :=
 ⟨(c.cell (p:=⟨rb,0,none⟩) h.lt hb).trans h.z0,(c.cell (p:=⟨rb,1,none⟩) h.lt hb).trans h.z1,(c.cell (p:=⟨rb,2,none⟩) h.lt hb).trans h.z2,(c.cell (p:=⟨rb,3,none⟩) h.lt hb).trans h.z3,(c.cell (p:=⟨rb,4,none⟩) h.lt hb).trans h.z4,(c.cell (p:=⟨rb,5,none⟩) h.lt hb).trans h.z5,(c.cell (p:=⟨rb,6,none⟩) h.lt hb).trans h.z6,(c.cell (p:=⟨rb,7,none⟩) h.lt hb).trans h.z7,fun i=>(c.frozen (p:=⟨rb,i,none⟩) h.lt hb).trans (h.fz i),Zgp h.lt c.size⟩
theorem RZ.ext{w w':World}{rb:Nat}(h:RZ w rb)(x:Ext w w'):RZ w' rb:=h.chg (x.chg (fun _=>False)) (fun h=>h)
theorem Rg(w:World):RZ (w.alloc (.cells #[.int .i64 0,.int .i64 0,.string ⟨#[]⟩,.int .i64 0,.int .i64 0,.string ⟨#[]⟩,.int .i64 0,.int .i64 0] 53)) w.heap.size:=by
 constructor<;>first|go_simp|(intro i;go_simp)|simp
def Zs2(op ttl now:Int):Int:=if Xh op=true then now+ttl else 0
def Eb(op client dl:Int)(ps:List (Nm×Rc)):List Rc:=ps.map fun p=>Wn op client dl p.1 p.2
def Ed(cap op client ttl now count:Int)(ps:List (Nm×Rc))(w:World)(e:Ending)(w':World):Prop :=
 ∃ av,e=.returned (.tuple #[Vw (Wm cap op client ttl now count ps),av])∧Ext w w' ∧
  ((Wm cap op client ttl now count ps).e=0→w'.ownsRow w.heap.size 51 4 av ps.length (Kt (Eb op client (Zs2 op ttl now) ps))) ∧
  ((Wm cap op client ttl now count ps).e≠0→av=.slice none 0 0)
structure Zo6(cap op client now count dl:Int)(ps:List (Nm×Rc))(w W0:World)(i:Nat)(c:Int)(l:Value)(wr:World):Prop where
 j:Qu cap op client now count ps i c
 own:wr.ownsRow W0.heap.size 51 4 l i (Kt (Eb op client dl (ps.take i)))
 ext:Ext W0 wr
theorem Ml{op client dl:Int}{ps:List (Nm×Rc)}{i:Nat}{p:Nm×Rc}(h:ps[i]?=some p):Kt (Eb op client dl (ps.take (i+1)))=Kt (Eb op client dl (ps.take i))++(Wn op client dl p.1 p.2).cells:=by
 rw[take_at h];simp only[Eb,Yy,Zg4,Zfv,Fu]
theorem Rt{cap op client ttl now count:Int}{ps:List (Nm×Rc)}(h:Xh op=true∧1073741824-now<ttl):Wm cap op client ttl now count ps=⟨8,-1,⟨#[]⟩,default,now⟩:=by unfold Wm;rw[Zgn h]
theorem Kz{cap op client ttl now count e:Int}{ps:List (Nm×Rc)}{i:Nat}{n:ByteArray}(h:¬ (Xh op=true∧1073741824-now<ttl))(hj:Vl cap op client now 0 count ps=some (e,i,n)):Wm cap op client ttl now count ps=⟨e,i,n,default,now⟩:=by unfold Wm;rw[Zgq h,hj]
theorem Fq{cap op client ttl now count:Int}{p:Nm×Rc}{ps:List (Nm×Rc)}(h:¬ (Xh op=true∧1073741824-now<ttl))(hj:Vl cap op client now 0 count (p::ps)=none):Wm cap op client ttl now count (p::ps)=⟨0,-1,⟨#[]⟩,if op=7∧Kd p.2.st p.2.dl now=true then p.2 else default,now⟩:=by unfold Wm;rw[Zgq h,hj]
theorem Tv{cap op client now c t:Int}{r:Rc}(ht:Vf r.st r.ow r.dl op client now=t)(h:t≠0):Zui cap op client now c r=t:=by unfold Zui;rw[ht,Zgq fun q=>h q.1]
theorem Ov{cap op client now c:Int}{r:Rc}(ht:Vf r.st r.ow r.dl op client now=0)(hg:0<Xk r.st op)(hc:cap≤c):Zui cap op client now c r=7:=by unfold Zui;rw[Zgn ⟨ht,hg,hc⟩]
theorem Di{cap op client now c:Int}{r:Rc}(ht:Vf r.st r.ow r.dl op client now=0)(hc:¬ (0<Xk r.st op∧cap≤c)):Zui cap op client now c r=0:=by unfold Zui;rw[ht,Zgq fun q=>hc q.2]
theorem Zyw(cl cap count client op ttl now:Int)(v rv:Value)(ps:List (Nm×Rc))(w:World)(n0:0≤now)(n1:now≤1073741824)(hT:Xh op=true)(t0:1≤ttl)(t1:ttl≤1073741824)(ho:1073741824-now<ttl) :
 Calls prog 123 #[.agg #[.int .i64 cl,.int .i64 cap],.int .i64 count,.int .i64 client,.int .i64 op,.int .i64 ttl,v,rv,.int .i64 now] w (Ed cap op client ttl now count ps w):=by
 have hv:dlV now ttl=0:=by unfold dlV;rw[Zgq (by omega)]
 have he:dlE now ttl=8:=by unfold dlE;rw[Zgn ⟨Jl ⟨n0,n1⟩,t0,t1⟩,Zgq (by omega)]
 have Hj:=Y8 (Rt (cap:=cap) (client:=client) (count:=count) (ps:=ps) ⟨hT,ho⟩);clear ho n0 n1 t0 t1;go_enter func123,ntmps123;go_wp2_with (first|(go_at_call 156;refine(Vb _ _).mono ?_;rintro e w1 ⟨rfl,rfl⟩;rw[hT])|(go_at_call 159;refine(Fa _ _ _).mono ?_;rintro e w1 ⟨rfl,rfl⟩;rw[hv,he]));refine Ys (v:=.tuple #[Vw ⟨8,-1,⟨#[]⟩,default,now⟩,.slice none 0 0]) (by simp[results,results123,go_sem,Vw,Qf]) rfl ⟨.slice none 0 0,by rw[Hj.o],?_,fun h=>?_,fun _=>rfl⟩
 ·(repeat refine Y0 ?_ (by first|(simp;done)|(simp;omega)) _)
  exact((Yk w).alloc _).alloc _
 rw[Hj.o]at h;simp at h
theorem Io{S T:Nat→Prop}(cl cap count client op ttl now:Int)(v rv:Value)(ps:List (Nm×Rc))(w:World)(n0:0≤now)(n1:now≤1073741824)(hT:Xh op=true)(t0:1≤ttl)(t1:ttl≤1073741824)(hq:ttl≤1073741824-now)(hc0:0≤count)(hc1:count≤1000000)
 (hl0:1≤ps.length) (hl1:ps.length≤16) (hn:Wo w S v (ps.map Prod.fst)) (hr:Q4 w T rv (ps.map Prod.snd)) :
 Calls prog 123 #[.agg #[.int .i64 cl,.int .i64 cap],.int .i64 count,.int .i64 client,.int .i64 op,.int .i64 ttl,v,rv,.int .i64 now] w (Ed cap op client ttl now count ps w):=by
 obtain⟨A,cA,rfl⟩:=hn.shape;obtain⟨_,B,cB,rfl,hB1,hB2,_⟩:=id hr;obtain⟨nn,hnn⟩:=gnX (ps.length);have hm1:(ps.map Prod.fst).length=nn:=by simp[hnn]
 have hm2:(ps.map Prod.snd).length=nn:=by simp[hnn]
 rw[hm1,hm2];have Hm1:=Y8 hm1;have Hm2:=Y8 hm2;have Hnn:=Y8 hnn;rw[hnn]at hl0 hl1;have Hn:=Y8 hn;have Hr:=Y8 hr;obtain⟨D,hD⟩:=gnX (Zs2 op ttl now);have hv:dlV now ttl=D:=by rw[← hD];unfold dlV Zs2;rw[Zgn ⟨Jl ⟨n0,n1⟩,t0,t1,hq⟩,Zgn hT]
 have he:dlE now ttl=0:=by unfold dlE;rw[Zgn ⟨Jl ⟨n0,n1⟩,t0,t1⟩,Zgn hq]
 have hno:¬ (Xh op=true∧1073741824-now<ttl):=by omega
 clear n0 n1 t0 t1 hq;have HD:=Y8 hD;clear hn hr hm1 hm2 hnn hB1 hB2 hD;have Hno:=Y8 hno;obtain⟨cb,hcb⟩:=gnX (w.heap.size);have Hcb:=Y8 hcb;clear hno;go_enter func123,ntmps123;go_wp2_with (first|(go_at_call 156;refine(Vb _ _).mono ?_;rintro e w1 ⟨rfl,rfl⟩;rw[hT])|(go_at_call 159;refine(Fa _ _ _).mono ?_;rintro e w1 ⟨rfl,rfl⟩;rw[hv,he]));have hz0:RZ ((w.alloc (.cells #[.int .i64 cl,.int .i64 cap] 37)).alloc (.cells #[.int .i64 0,.int .i64 0,.string ⟨#[]⟩,.int .i64 0,.int .i64 0,.string ⟨#[]⟩,.int .i64 0,.int .i64 0] 53)) (cb+1):=by
  have:=Rg (w.alloc (.cells #[.int .i64 cl,.int .i64 cap] 37));rw[show(w.alloc (.cells #[.int .i64 cl,.int .i64 cap] 37)).heap.size=cb+1 by simp[hcb]]at this;exact this
 have hcf:((w.alloc (.cells #[.int .i64 cl,.int .i64 cap] 37)).alloc (.cells #[.int .i64 0,.int .i64 0,.string ⟨#[]⟩,.int .i64 0,.int .i64 0,.string ⟨#[]⟩,.int .i64 0,.int .i64 0] 53)).cell? ⟨cb,1,none⟩=some (.int .i64 cap):=by rw[← hcb];go_simp
 have hxw:Ext w ((w.alloc (.cells #[.int .i64 cl,.int .i64 cap] 37)).alloc (.cells #[.int .i64 0,.int .i64 0,.string ⟨#[]⟩,.int .i64 0,.int .i64 0,.string ⟨#[]⟩,.int .i64 0,.int .i64 0] 53)):=((Yk w).alloc _).alloc _;have hsz:((w.alloc (.cells #[.int .i64 cl,.int .i64 cap] 37)).alloc (.cells #[.int .i64 0,.int .i64 0,.string ⟨#[]⟩,.int .i64 0,.int .i64 0,.string ⟨#[]⟩,.int .i64 0,.int .i64 0] 53)).heap.size=cb+2:=by simp[hcb]
 obtain⟨W0,hW0⟩:=gnX ((w.alloc (.cells #[.int .i64 cl,.int .i64 cap] 37)).alloc (.cells #[.int .i64 0,.int .i64 0,.string ⟨#[]⟩,.int .i64 0,.int .i64 0,.string ⟨#[]⟩,.int .i64 0,.int .i64 0] 53));rw[hW0]at hz0 hcf hxw hsz;rw[hW0];clear hW0 hcb;have Hz0:=Y8 hz0;have Hcf:=Y8 hcf;have Hxw:=Y8 hxw;have Hsz:=Y8 hsz;clear hz0 hcf hxw hsz;go_loopw [44,1,21] (fun o s l wr=>∃ (i:Nat) (c:Int),i≤nn∧o=.int .i64 (i:Int)∧s=.int .i64 c∧Zo6 cap op client now count D ps w W0 i c l wr) (fun o _ _ _=>nn-(intOf o).toNat);case atStart=>exact⟨0,count,by omega,rfl,rfl,Qu.start _ _ _ _ _ _,Zfj _ _ _ _,Yk _⟩
 obtain⟨i,c,hi,rfl,rfl,hd⟩:=hrel;obtain⟨la,lc,rfl⟩:=Wv hd.own;have hbd:=hd.j.bd;have hc2:c≤1000016:=by omega
 have hc3:0≤c:=by omega
 clear hbd;have Hd:=Y8 hd;have hz:=Hz0.o.ext hd.ext;have hcf:wr.cell? ⟨cb,1,none⟩=some (.int .i64 cap):=(hd.ext.cell (p:=⟨cb,1,none⟩) (by have:=Hsz.o;simp only;omega)).trans Hcf.o;have hcbl:cb+2≤wr.heap.size:=by have:=hd.ext.size;have:=Hsz.o;omega
 obtain⟨z0,z1,z2,z3,z4,z5,z6,z7,zf,zl⟩:=hz;clear hd;by_cases hlt:i<nn
 ·have hdc:decide ((i:Int)<(nn:Int))=true:=by simpa using hlt
  obtain⟨⟨n,r⟩,hp⟩:∃ p,ps[i]?=some p:=⟨ps[i]'(by have:=Hnn.o;omega),by simp⟩;have hp1:(ps.map Prod.fst)[i]?=some n:=by rw[Zn,hp];rfl
  have hp2:(ps.map Prod.snd)[i]?=some r:=by rw[Zn,hp];rfl
  have hxr:=Hxw.o.trans Hd.o.ext;obtain⟨g,o,c',hv1,p1,p2,_,b1,hcell⟩:=(Wo.ext Hn.o hxr).get (j:=i) (by rw[Hm1.o];exact hlt);obtain⟨x1,x2,x3⟩:=hcell _ _ hp1;obtain⟨g2,o2,c2',hv2,p3,p4,b2,y0,y1,y2,y3⟩:=V7 (Rd.ext Hr.o hxr) hp2;rw[Hm1.o]at hv1 p1;rw[Hm2.o]at hv2 p3;simp only[Yd,Zg0]at hv1 hv2;obtain⟨rfl,rfl⟩:=hv1;obtain⟨rfl,rfl⟩:=hv2;have i0:(0:Int)≤(i:Int):=by omega
  have i1:(i:Int)<(nn:Int):=by omega
  have Hp:=Y8 hp;have Hxr:=Y8 hxr;clear hcell hp hp1 hp2 hxr;obtain⟨t,ht⟩:=gnX (Vf r.st r.ow r.dl op client now);obtain⟨gr,hgr⟩:=gnX (Xk r.st op);have hA2:cb+2≤wr.heap.size:=hcbl;go_wp2_with fail;refine(Zw9 _ _ _ _ _ _ _ _).mono ?_;rintro x w1 ⟨rfl,hy⟩;rw[ht];have e0:w1.cell? ⟨wr.heap.size+1,0,none⟩=some (.int .i64 r.st):=(hy.cell (by simp)).trans (by go_simp);have e1:w1.cell? ⟨wr.heap.size+1,1,none⟩=some (.int .i64 r.ow):=(hy.cell (by simp)).trans (by go_simp);have e2:w1.cell? ⟨wr.heap.size+1,2,none⟩=some (.string r.nm):=(hy.cell (by simp)).trans (by go_simp);have e3:w1.cell? ⟨wr.heap.size+1,3,none⟩=some (.int .i64 r.dl):=(hy.cell (by simp)).trans (by go_simp);have e4:w1.cell? ⟨wr.heap.size,0,none⟩=some (.string n.a):=(hy.cell (by simp;omega)).trans (by go_simp);have hb1:wr.heap.size+2≤w1.heap.size:=by have:=hy.size;simp at this;omega
  have Hx1:=Y8 ((((Yk wr).alloc _).alloc _).trans hy);clear hy x1 x2 x3 y0 y1 y2 y3 z0 z1 z2 z3 z4 z5 z6 z7 zf zl hcf b1 b2;go_wp2_with fail;refine(Ih _ _ _ _ _ _).mono ?_;rintro x w2 ⟨rfl,hy⟩;rw[hgr];have e0:=(hy.cell (p:=⟨wr.heap.size+1,0,none⟩) (by simp only;omega)).trans e0;have e1:=(hy.cell (p:=⟨wr.heap.size+1,1,none⟩) (by simp only;omega)).trans e1;have e2:=(hy.cell (p:=⟨wr.heap.size+1,2,none⟩) (by simp only;omega)).trans e2;have e3:=(hy.cell (p:=⟨wr.heap.size+1,3,none⟩) (by simp only;omega)).trans e3;have e4:=(hy.cell (p:=⟨wr.heap.size,0,none⟩) (by simp only;omega)).trans e4;have hb2:wr.heap.size+2≤w2.heap.size:=Zgo hb1 hy.size;have Hx2:=Y8 (Hx1.o.trans hy);have hcf:w2.cell? ⟨cb,1,none⟩=some (.int .i64 cap):=((Hd.o.ext.trans Hx2.o).cell (p:=⟨cb,1,none⟩) (by have:=Hsz.o;simp only;omega)).trans Hcf.o;obtain⟨z0,z1,z2,z3,z4,z5,z6,z7,zf,zl⟩:=Hz0.o.ext (Hd.o.ext.trans Hx2.o);clear hy Hx1 hb1;have Ht:=Y8 ht;have Hgr:=Y8 hgr;clear ht hgr;have hkinds:(t≠0∧(t==0)=false)∨(t=0∧0<gr∧cap≤c)∨(t=0∧¬ (0<gr∧cap≤c)):=by
   by_cases h1:t=0
   ·by_cases h2:0<gr∧cap≤c
    ·exact .inr (.inl ⟨h1,h2⟩)
    exact .inr (.inr ⟨h1,h2⟩)
   exact .inl ⟨h1,by simpa using h1⟩
  rcases hkinds with⟨h1,hq1⟩ | ⟨rfl,hq1,hq2⟩ | ⟨rfl,hq⟩
  ·have hone:=Tv (cap:=cap) (c:=c) Ht.o h1;have Hst:=Y8 (Kz Hno.o (Hd.o.j.stop (p:=(n,r)) Hp.o (by rw[hone];exact h1)));simp only at Hst;rw[hone]at Hst;clear hone;go_wp2_with fail;refine Ys (v:=.tuple #[Vw ⟨t,i,n.a,default,now⟩,.slice none 0 0]) (by simp[results,results123,go_sem,Vw,Qf, *]) rfl ⟨.slice none 0 0,by rw[Hst.o],?_,fun h=>?_,fun _=>rfl⟩
   ·(repeat refine Y0 ?_ (by first|(have:=Hcb.o;simp;omega)|(have:=Hcb.o;simp only;omega)) _)
    exact Hxr.o.trans Hx2.o
   rw[Hst.o]at h;exact absurd h h1
  ·have hg0:decide (0<gr)=true:=by simpa using hq1
   have hg1:decide (cap≤c)=true:=by simpa using hq2
   have hone:=Ov (cap:=cap) (c:=c) Ht.o (by rw[Hgr.o];exact hq1) hq2;have Hst:=Y8 (Kz Hno.o (Hd.o.j.stop (p:=(n,r)) Hp.o (by rw[hone];decide)));simp only at Hst;rw[hone]at Hst;clear hone;go_wp2_with fail;refine Ys (v:=.tuple #[Vw ⟨7,i,n.a,default,now⟩,.slice none 0 0]) (by simp[results,results123,go_sem,Vw,Qf, *]) rfl ⟨.slice none 0 0,by rw[Hst.o],?_,fun h=>?_,fun _=>rfl⟩
   ·(repeat refine Y0 ?_ (by first|(have:=Hcb.o;simp;omega)|(have:=Hcb.o;simp only;omega)) _)
    exact Hxr.o.trans Hx2.o
   rw[Hst.o]at h;simp at h
  have hone:=Di (cap:=cap) (c:=c) Ht.o (by rw[Hgr.o];exact hq);have Hj1:=Y8 (Hd.o.j.next (p:=(n,r)) Hp.o hone);have hgc:=F7 r.st op;rw[Hgr.o]at hgc;clear hone z0 z1 z2 z3 z4 z5 z6 z7 zf zl;have Q:(gr=1∧decide (cap≤c)=false∧V9 op c r=c+1)∨(gr=0∧True∧V9 op c r=c)∨(gr = -1∧True∧V9 op c r=c):=by
   rcases hgc with h|h|h
   ·exact .inl ⟨h,by simp;omega,by unfold V9;rw[Hgr.o,Zgn (by omega)]⟩
   ·exact .inr (.inl ⟨h,trivial,by unfold V9;rw[Hgr.o,Zgq (by omega)]⟩)
   exact .inr (.inr ⟨h,trivial,by unfold V9;rw[Hgr.o,Zgq (by omega)]⟩)
  clear hgc hq;rcases Q with⟨rfl,q1,q2⟩ | ⟨rfl,q1,q2⟩ | ⟨rfl,q1,q2⟩;all_goals
   rw[q2]at Hj1;have Hq2:=Y8 q2;clear q2;go_wp2_with fail;refine(Tc _ _ _ _ _ _ _ _ _).mono ?_;rintro x w3 ⟨rfl,hy⟩;have Hx3:=Y8 (Hx2.o.trans hy);have hbz:W0.heap.size≤(w3.alloc (.cells #[.int .i64 (Jh r.st op),.int .i64 (J5 r.ow op client),.string (Ko r.nm op n.a),.int .i64 (J4 r.dl op D)] 51)).heap.size:=by
    have:=hy.size;have:=Hsz.o;simp;omega
   clear hy e0 e1 e2 e3 e4 hcf Hx2;obtain⟨i0',hi',hz0',hz1',hz2'⟩:=Zgl J7;have hrl:=Qh w3 #[.int .i64 (Jh r.st op),.int .i64 (J5 r.ow op client),.string (Ko r.nm op n.a),.int .i64 (J4 r.dl op D)] 51 4 (by rfl);go_wp2_with (at_builtin;refine Vu _ rfl _ _ 25 rfl W0.heap.size 51 i0' _ 4 40 Av hi' hz0' hz1' hz2' rfl (by decide) _ i _ rfl (Ek Hd.o.own (Hx3.o.alloc _)) (fun _=>True) _ 1 _ rfl hrl (by simp[Value.oneCell']) (by unfold maxLen;omega) (by omega) hbz ?_;intro v' w4 ha;obtain⟨a3,c3,hv3⟩:=Wv ha.own;subst hv3);have hend:Zo6 cap op client now count D ps w W0 (i+1) _ (.slice a3 (i+1) c3) w4:=⟨Hj1.o,by rw[Ml Hp.o];exact ha.own,(Hd.o.ext.trans (Hx3.o.alloc _)).grown ha.grown fun k hk=>(Hd.o.own.lt k hk).1⟩;have Hend:=Y8 hend;clear ha hend hrl hbz;go_roundw;case rel=>exact⟨i+1,_,by omega,by go_num,by first|rfl|(congr 1;omega)|simp,Hend.o⟩
   simp[intOf];omega
 have hdc:decide ((i:Int)<(nn:Int))=false:=by simp;omega
 obtain rfl:i=nn:=by omega
 have Hdone:=Y8 (show Vl cap op client now 0 count ps=none from by
  have:=Hd.o.j;rw[← Hnn.o]at this;exact this.done)
 have hown:=Hd.o.own;rw[Zm (by rw[Hnn.o];exact Ym _)]at hown;have Hown:=Y8 hown;clear hown;obtain⟨⟨n,r⟩,ps',rfl⟩:∃ p ps',ps=p::ps':=by
  cases ps with
  | nil=>have:=Hnn.o;simp at this;omega
  | cons p ps'=>exact⟨p,ps',rfl⟩
 have Hj:=Y8 (Fq Hno.o Hdone.o);simp only at Hj;have Hwl:=Y8 hcbl;by_cases h7:op=7
 ·subst h7;exact absurd hT (by decide)
 have h7':(op==7)=false:=by simpa using h7
 have Hj':=Y8 (show Wm cap op client ttl now count ((n,r)::ps')=⟨0,-1,⟨#[]⟩,default,now⟩ by rw[Hj.o,Zgq fun q=>h7 q.1]);clear Hj h7;go_wp2_with fail;refine Ys (v:=.tuple #[Vw ⟨0,-1,⟨#[]⟩,default,now⟩,.slice la i lc]) (by simp[results,results123,go_sem,Vw,Qf, *]) rfl ⟨.slice la i lc,by rw[Hj'.o],?_,fun _=>?_,fun h=>absurd (by rw[Hj'.o]) h⟩
 ·refine Yj ?_ _;(repeat refine Y0 ?_ (by first|(have:=Hcb.o;simp;omega)|(have:=Hcb.o;have:=Hwl.o;simp only;omega)) _);exact(Hxw.o.trans Hd.o.ext)
 rw[HD.o,Hnn.o];refine Dh (My (S:=fun b=>b=cb+1∨b=wr.heap.size) Hown.o ?_ fun k hk hs=>?_) (by rw[Hsz.o];have:=Hcb.o;omega)
 ·refine Chg.alloc ?_ _;(repeat refine Chg.setCell (S:=fun b=>b=cb+1∨b=wr.heap.size) ?_ (by exact .inl (.inl rfl)) _);exact Chg.refl _ _
 have:=Hown.o.lt k hk;have:=Hsz.o;rcases hs with hs|hs<;>omega
theorem Ip{S T:Nat→Prop}(cl cap count client op ttl now:Int)(v rv:Value)(ps:List (Nm×Rc))(w:World)(hT:Xh op=false)(hc0:0≤count)(hc1:count≤1000000)
 (hl0:1≤ps.length) (hl1:ps.length≤16) (hn:Wo w S v (ps.map Prod.fst)) (hr:Q4 w T rv (ps.map Prod.snd)) :
 Calls prog 123 #[.agg #[.int .i64 cl,.int .i64 cap],.int .i64 count,.int .i64 client,.int .i64 op,.int .i64 ttl,v,rv,.int .i64 now] w (Ed cap op client ttl now count ps w):=by
 obtain⟨A,cA,rfl⟩:=hn.shape;obtain⟨_,B,cB,rfl,hB1,hB2,_⟩:=id hr;obtain⟨nn,hnn⟩:=gnX (ps.length);have hm1:(ps.map Prod.fst).length=nn:=by simp[hnn]
 have hm2:(ps.map Prod.snd).length=nn:=by simp[hnn]
 rw[hm1,hm2];have Hm1:=Y8 hm1;have Hm2:=Y8 hm2;have Hnn:=Y8 hnn;rw[hnn]at hl0 hl1;have Hn:=Y8 hn;have Hr:=Y8 hr;have hD:Zs2 op ttl now=0:=by unfold Zs2;rw[hT];rfl
 have hno:¬ (Xh op=true∧1073741824-now<ttl):=by rw[hT];simp
 have HD:=Y8 hD;clear hn hr hm1 hm2 hnn hB1 hB2 hD;have Hno:=Y8 hno;obtain⟨cb,hcb⟩:=gnX (w.heap.size);have Hcb:=Y8 hcb;clear hno;go_enter func123,ntmps123;go_wp2_with (go_at_call 156;refine(Vb _ _).mono ?_;rintro e w1 ⟨rfl,rfl⟩;rw[hT]);have hz0:RZ ((w.alloc (.cells #[.int .i64 cl,.int .i64 cap] 37)).alloc (.cells #[.int .i64 0,.int .i64 0,.string ⟨#[]⟩,.int .i64 0,.int .i64 0,.string ⟨#[]⟩,.int .i64 0,.int .i64 0] 53)) (cb+1):=by
  have:=Rg (w.alloc (.cells #[.int .i64 cl,.int .i64 cap] 37));rw[show(w.alloc (.cells #[.int .i64 cl,.int .i64 cap] 37)).heap.size=cb+1 by simp[hcb]]at this;exact this
 have hcf:((w.alloc (.cells #[.int .i64 cl,.int .i64 cap] 37)).alloc (.cells #[.int .i64 0,.int .i64 0,.string ⟨#[]⟩,.int .i64 0,.int .i64 0,.string ⟨#[]⟩,.int .i64 0,.int .i64 0] 53)).cell? ⟨cb,1,none⟩=some (.int .i64 cap):=by rw[← hcb];go_simp
 have hxw:Ext w ((w.alloc (.cells #[.int .i64 cl,.int .i64 cap] 37)).alloc (.cells #[.int .i64 0,.int .i64 0,.string ⟨#[]⟩,.int .i64 0,.int .i64 0,.string ⟨#[]⟩,.int .i64 0,.int .i64 0] 53)):=((Yk w).alloc _).alloc _;have hsz:((w.alloc (.cells #[.int .i64 cl,.int .i64 cap] 37)).alloc (.cells #[.int .i64 0,.int .i64 0,.string ⟨#[]⟩,.int .i64 0,.int .i64 0,.string ⟨#[]⟩,.int .i64 0,.int .i64 0] 53)).heap.size=cb+2:=by simp[hcb]
 obtain⟨W0,hW0⟩:=gnX ((w.alloc (.cells #[.int .i64 cl,.int .i64 cap] 37)).alloc (.cells #[.int .i64 0,.int .i64 0,.string ⟨#[]⟩,.int .i64 0,.int .i64 0,.string ⟨#[]⟩,.int .i64 0,.int .i64 0] 53));rw[hW0]at hz0 hcf hxw hsz;rw[hW0];clear hW0 hcb;have Hz0:=Y8 hz0;have Hcf:=Y8 hcf;have Hxw:=Y8 hxw;have Hsz:=Y8 hsz;clear hz0 hcf hxw hsz;go_loopw [44,1,21] (fun o s l wr=>∃ (i:Nat) (c:Int),i≤nn∧o=.int .i64 (i:Int)∧s=.int .i64 c∧Zo6 cap op client now count 0 ps w W0 i c l wr) (fun o _ _ _=>nn-(intOf o).toNat);case atStart=>exact⟨0,count,by omega,rfl,rfl,Qu.start _ _ _ _ _ _,Zfj _ _ _ _,Yk _⟩
 obtain⟨i,c,hi,rfl,rfl,hd⟩:=hrel;obtain⟨la,lc,rfl⟩:=Wv hd.own;have hbd:=hd.j.bd;have hc2:c≤1000016:=by omega
 have hc3:0≤c:=by omega
 clear hbd;have Hd:=Y8 hd;have hz:=Hz0.o.ext hd.ext;have hcf:wr.cell? ⟨cb,1,none⟩=some (.int .i64 cap):=(hd.ext.cell (p:=⟨cb,1,none⟩) (by have:=Hsz.o;simp only;omega)).trans Hcf.o;have hcbl:cb+2≤wr.heap.size:=by have:=hd.ext.size;have:=Hsz.o;omega
 obtain⟨z0,z1,z2,z3,z4,z5,z6,z7,zf,zl⟩:=hz;clear hd;by_cases hlt:i<nn
 ·have hdc:decide ((i:Int)<(nn:Int))=true:=by simpa using hlt
  obtain⟨⟨n,r⟩,hp⟩:∃ p,ps[i]?=some p:=⟨ps[i]'(by have:=Hnn.o;omega),by simp⟩;have hp1:(ps.map Prod.fst)[i]?=some n:=by rw[Zn,hp];rfl
  have hp2:(ps.map Prod.snd)[i]?=some r:=by rw[Zn,hp];rfl
  have hxr:=Hxw.o.trans Hd.o.ext;obtain⟨g,o,c',hv1,p1,p2,_,b1,hcell⟩:=(Wo.ext Hn.o hxr).get (j:=i) (by rw[Hm1.o];exact hlt);obtain⟨x1,x2,x3⟩:=hcell _ _ hp1;obtain⟨g2,o2,c2',hv2,p3,p4,b2,y0,y1,y2,y3⟩:=V7 (Rd.ext Hr.o hxr) hp2;rw[Hm1.o]at hv1 p1;rw[Hm2.o]at hv2 p3;simp only[Yd,Zg0]at hv1 hv2;obtain⟨rfl,rfl⟩:=hv1;obtain⟨rfl,rfl⟩:=hv2;have i0:(0:Int)≤(i:Int):=by omega
  have i1:(i:Int)<(nn:Int):=by omega
  have Hp:=Y8 hp;have Hxr:=Y8 hxr;clear hcell hp hp1 hp2 hxr;obtain⟨t,ht⟩:=gnX (Vf r.st r.ow r.dl op client now);obtain⟨gr,hgr⟩:=gnX (Xk r.st op);have hA2:cb+2≤wr.heap.size:=hcbl;go_wp2_with fail;refine(Zw9 _ _ _ _ _ _ _ _).mono ?_;rintro x w1 ⟨rfl,hy⟩;rw[ht];have e0:w1.cell? ⟨wr.heap.size+1,0,none⟩=some (.int .i64 r.st):=(hy.cell (by simp)).trans (by go_simp);have e1:w1.cell? ⟨wr.heap.size+1,1,none⟩=some (.int .i64 r.ow):=(hy.cell (by simp)).trans (by go_simp);have e2:w1.cell? ⟨wr.heap.size+1,2,none⟩=some (.string r.nm):=(hy.cell (by simp)).trans (by go_simp);have e3:w1.cell? ⟨wr.heap.size+1,3,none⟩=some (.int .i64 r.dl):=(hy.cell (by simp)).trans (by go_simp);have e4:w1.cell? ⟨wr.heap.size,0,none⟩=some (.string n.a):=(hy.cell (by simp;omega)).trans (by go_simp);have hb1:wr.heap.size+2≤w1.heap.size:=by have:=hy.size;simp at this;omega
  have Hx1:=Y8 ((((Yk wr).alloc _).alloc _).trans hy);clear hy x1 x2 x3 y0 y1 y2 y3 z0 z1 z2 z3 z4 z5 z6 z7 zf zl hcf b1 b2;go_wp2_with fail;refine(Ih _ _ _ _ _ _).mono ?_;rintro x w2 ⟨rfl,hy⟩;rw[hgr];have e0:=(hy.cell (p:=⟨wr.heap.size+1,0,none⟩) (by simp only;omega)).trans e0;have e1:=(hy.cell (p:=⟨wr.heap.size+1,1,none⟩) (by simp only;omega)).trans e1;have e2:=(hy.cell (p:=⟨wr.heap.size+1,2,none⟩) (by simp only;omega)).trans e2;have e3:=(hy.cell (p:=⟨wr.heap.size+1,3,none⟩) (by simp only;omega)).trans e3;have e4:=(hy.cell (p:=⟨wr.heap.size,0,none⟩) (by simp only;omega)).trans e4;have hb2:wr.heap.size+2≤w2.heap.size:=Zgo hb1 hy.size;have Hx2:=Y8 (Hx1.o.trans hy);have hcf:w2.cell? ⟨cb,1,none⟩=some (.int .i64 cap):=((Hd.o.ext.trans Hx2.o).cell (p:=⟨cb,1,none⟩) (by have:=Hsz.o;simp only;omega)).trans Hcf.o;obtain⟨z0,z1,z2,z3,z4,z5,z6,z7,zf,zl⟩:=Hz0.o.ext (Hd.o.ext.trans Hx2.o);clear hy Hx1 hb1;have Ht:=Y8 ht;have Hgr:=Y8 hgr;clear ht hgr;have hkinds:(t≠0∧(t==0)=false)∨(t=0∧0<gr∧cap≤c)∨(t=0∧¬ (0<gr∧cap≤c)):=by
   by_cases h1:t=0
   ·by_cases h2:0<gr∧cap≤c
    ·exact .inr (.inl ⟨h1,h2⟩)
    exact .inr (.inr ⟨h1,h2⟩)
   exact .inl ⟨h1,by simpa using h1⟩
  rcases hkinds with⟨h1,hq1⟩ | ⟨rfl,hq1,hq2⟩ | ⟨rfl,hq⟩
  ·have hone:=Tv (cap:=cap) (c:=c) Ht.o h1;have Hst:=Y8 (Kz Hno.o (Hd.o.j.stop (p:=(n,r)) Hp.o (by rw[hone];exact h1)));simp only at Hst;rw[hone]at Hst;clear hone;go_wp2_with fail;refine Ys (v:=.tuple #[Vw ⟨t,i,n.a,default,now⟩,.slice none 0 0]) (by simp[results,results123,go_sem,Vw,Qf, *]) rfl ⟨.slice none 0 0,by rw[Hst.o],?_,fun h=>?_,fun _=>rfl⟩
   ·(repeat refine Y0 ?_ (by first|(have:=Hcb.o;simp;omega)|(have:=Hcb.o;simp only;omega)) _)
    exact Hxr.o.trans Hx2.o
   rw[Hst.o]at h;exact absurd h h1
  ·have hg0:decide (0<gr)=true:=by simpa using hq1
   have hg1:decide (cap≤c)=true:=by simpa using hq2
   have hone:=Ov (cap:=cap) (c:=c) Ht.o (by rw[Hgr.o];exact hq1) hq2;have Hst:=Y8 (Kz Hno.o (Hd.o.j.stop (p:=(n,r)) Hp.o (by rw[hone];decide)));simp only at Hst;rw[hone]at Hst;clear hone;go_wp2_with fail;refine Ys (v:=.tuple #[Vw ⟨7,i,n.a,default,now⟩,.slice none 0 0]) (by simp[results,results123,go_sem,Vw,Qf, *]) rfl ⟨.slice none 0 0,by rw[Hst.o],?_,fun h=>?_,fun _=>rfl⟩
   ·(repeat refine Y0 ?_ (by first|(have:=Hcb.o;simp;omega)|(have:=Hcb.o;simp only;omega)) _)
    exact Hxr.o.trans Hx2.o
   rw[Hst.o]at h;simp at h
  have hone:=Di (cap:=cap) (c:=c) Ht.o (by rw[Hgr.o];exact hq);have Hj1:=Y8 (Hd.o.j.next (p:=(n,r)) Hp.o hone);have hgc:=F7 r.st op;rw[Hgr.o]at hgc;clear hone z0 z1 z2 z3 z4 z5 z6 z7 zf zl;have Q:(gr=1∧decide (cap≤c)=false∧V9 op c r=c+1)∨(gr=0∧True∧V9 op c r=c)∨(gr = -1∧True∧V9 op c r=c):=by
   rcases hgc with h|h|h
   ·exact .inl ⟨h,by simp;omega,by unfold V9;rw[Hgr.o,Zgn (by omega)]⟩
   ·exact .inr (.inl ⟨h,trivial,by unfold V9;rw[Hgr.o,Zgq (by omega)]⟩)
   exact .inr (.inr ⟨h,trivial,by unfold V9;rw[Hgr.o,Zgq (by omega)]⟩)
  clear hgc hq;rcases Q with⟨rfl,q1,q2⟩ | ⟨rfl,q1,q2⟩ | ⟨rfl,q1,q2⟩;all_goals
   rw[q2]at Hj1;have Hq2:=Y8 q2;clear q2;go_wp2_with fail;refine(Tc _ _ _ _ _ _ _ _ _).mono ?_;rintro x w3 ⟨rfl,hy⟩;have Hx3:=Y8 (Hx2.o.trans hy);have hbz:W0.heap.size≤(w3.alloc (.cells #[.int .i64 (Jh r.st op),.int .i64 (J5 r.ow op client),.string (Ko r.nm op n.a),.int .i64 (J4 r.dl op 0)] 51)).heap.size:=by
    have:=hy.size;have:=Hsz.o;simp;omega
   clear hy e0 e1 e2 e3 e4 hcf Hx2;obtain⟨i0',hi',hz0',hz1',hz2'⟩:=Zgl J7;have hrl:=Qh w3 #[.int .i64 (Jh r.st op),.int .i64 (J5 r.ow op client),.string (Ko r.nm op n.a),.int .i64 (J4 r.dl op 0)] 51 4 (by rfl);go_wp2_with (at_builtin;refine Vu _ rfl _ _ 25 rfl W0.heap.size 51 i0' _ 4 40 Av hi' hz0' hz1' hz2' rfl (by decide) _ i _ rfl (Ek Hd.o.own (Hx3.o.alloc _)) (fun _=>True) _ 1 _ rfl hrl (by simp[Value.oneCell']) (by unfold maxLen;omega) (by omega) hbz ?_;intro v' w4 ha;obtain⟨a3,c3,hv3⟩:=Wv ha.own;subst hv3);have hend:Zo6 cap op client now count 0 ps w W0 (i+1) _ (.slice a3 (i+1) c3) w4:=⟨Hj1.o,by rw[Ml Hp.o];exact ha.own,(Hd.o.ext.trans (Hx3.o.alloc _)).grown ha.grown fun k hk=>(Hd.o.own.lt k hk).1⟩;have Hend:=Y8 hend;clear ha hend hrl hbz;go_roundw;case rel=>exact⟨i+1,_,by omega,by go_num,by first|rfl|(congr 1;omega)|simp,Hend.o⟩
   simp[intOf];omega
 have hdc:decide ((i:Int)<(nn:Int))=false:=by simp;omega
 obtain rfl:i=nn:=by omega
 have Hdone:=Y8 (show Vl cap op client now 0 count ps=none from by
  have:=Hd.o.j;rw[← Hnn.o]at this;exact this.done)
 have hown:=Hd.o.own;rw[Zm (by rw[Hnn.o];exact Ym _)]at hown;have Hown:=Y8 hown;clear hown;obtain⟨⟨n,r⟩,ps',rfl⟩:∃ p ps',ps=p::ps':=by
  cases ps with
  | nil=>have:=Hnn.o;simp at this;omega
  | cons p ps'=>exact⟨p,ps',rfl⟩
 have Hj:=Y8 (Fq Hno.o Hdone.o);simp only at Hj;have Hwl:=Y8 hcbl;by_cases h7:op=7
 ·subst h7;obtain⟨g2,o2,c2',hv2,p3,p4,b2,y0,y1,y2,y3⟩:=V7 (Rd.ext Hr.o (Hxw.o.trans Hd.o.ext)) (j:=0) (r:=r) rfl;rw[Hm2.o]at hv2 p3;simp only[Yd,Zg0]at hv2;obtain⟨rfl,rfl⟩:=hv2;simp only[Zcb,Zfu]at y0 y1 y2 y3;have i1:(0:Int)<(i:Int):=by omega
  obtain⟨lv,hlv⟩:=gnX (Kd r.st r.dl now);go_wp2_with fail;refine(Ql _ _ _ _ _ _).mono ?_;rintro x w5 ⟨rfl,hy⟩;rw[hlv];have Hy:=Y8 (((Yk wr).alloc _).trans hy);have t0:w5.cell? ⟨wr.heap.size,0,none⟩=some (.int .i64 0):=(hy.cell (by simp)).trans (by go_simp);have t1:w5.cell? ⟨wr.heap.size,1,none⟩=some (.int .i64 (-1)):=(hy.cell (by simp)).trans (by go_simp);have t2:w5.cell? ⟨wr.heap.size,2,none⟩=some (.string ⟨#[]⟩):=(hy.cell (by simp)).trans (by go_simp);have t3:w5.cell? ⟨wr.heap.size,3,none⟩=some (.int .i64 0):=(hy.cell (by simp)).trans (by go_simp);have t4:w5.cell? ⟨wr.heap.size,4,none⟩=some (.int .i64 0):=(hy.cell (by simp)).trans (by go_simp);have t5:w5.cell? ⟨wr.heap.size,5,none⟩=some (.string ⟨#[]⟩):=(hy.cell (by simp)).trans (by go_simp);have t6:w5.cell? ⟨wr.heap.size,6,none⟩=some (.int .i64 0):=(hy.cell (by simp)).trans (by go_simp);have t7:w5.cell? ⟨wr.heap.size,7,none⟩=some (.int .i64 now):=(hy.cell (by simp)).trans (by go_simp);have tf:∀ j,w5.frozen? ⟨wr.heap.size,j,none⟩=false:=fun j=>(hy.frozen (by simp)).trans (by go_simp)
  have tl:wr.heap.size<w5.heap.size:=Zgp (by simp) hy.size;clear z0 z1 z2 z3 z4 z5 z6 z7 zf zl;obtain⟨z0,z1,z2,z3,z4,z5,z6,z7,zf,zl⟩:=Hz0.o.ext (Hd.o.ext.trans Hy.o);have y0:=(Hy.o.cell (p:=⟨g2,o2,none⟩) b2).trans y0;have y1:=(Hy.o.cell (p:=⟨g2,o2+1,none⟩) b2).trans y1;have y2:=(Hy.o.cell (p:=⟨g2,o2+2,none⟩) b2).trans y2;have y3:=(Hy.o.cell (p:=⟨g2,o2+3,none⟩) b2).trans y3;have hne:¬ wr.heap.size=cb+1:=by omega
  have Hlv:=Y8 hlv;clear hy hlv hcf;cases lv with
  | true =>
   have Hj':=Y8 (show Wm cap 7 client ttl now count ((n,r)::ps')=⟨0,-1,⟨#[]⟩,r,now⟩ by rw[Hj.o];simp[Hlv.o]);clear Hj;go_wp2_with fail;refine Ys (v:=.tuple #[Vw ⟨0,-1,⟨#[]⟩,r,now⟩,.slice la i lc]) (by simp[results,results123,go_sem,Vw, *]) rfl ⟨.slice la i lc,by rw[Hj'.o],?_,fun _=>?_,fun h=>absurd (by rw[Hj'.o]) h⟩
   ·(repeat refine Y0 ?_ (by first|(have:=Hcb.o;simp;omega)|(have:=Hcb.o;have:=Hwl.o;simp only;omega)) _)
    exact(Hxw.o.trans Hd.o.ext).trans Hy.o
   rw[HD.o,Hnn.o];refine Dh (My (S:=fun b=>b=cb+1∨b=wr.heap.size) Hown.o ?_ fun k hk hs=>?_) (by rw[Hsz.o];have:=Hcb.o;omega)
   ·(repeat refine Chg.setCell (S:=fun b=>b=cb+1∨b=wr.heap.size) ?_ (by first|exact .inl (.inl rfl)|exact .inl (.inr rfl)) _);exact Hy.o.chg _
   have:=Hown.o.lt k hk;have:=Hsz.o;rcases hs with hs|hs<;>omega
  | false =>
   have Hj':=Y8 (show Wm cap 7 client ttl now count ((n,r)::ps')=⟨0,-1,⟨#[]⟩,default,now⟩ by rw[Hj.o];simp[Hlv.o]);clear Hj;go_wp2_with fail;refine Ys (v:=.tuple #[Vw ⟨0,-1,⟨#[]⟩,default,now⟩,.slice la i lc]) (by simp[results,results123,go_sem,Vw,Qf, *]) rfl ⟨.slice la i lc,by rw[Hj'.o],?_,fun _=>?_,fun h=>absurd (by rw[Hj'.o]) h⟩
   ·(repeat refine Y0 ?_ (by first|(have:=Hcb.o;simp;omega)|(have:=Hcb.o;have:=Hwl.o;simp only;omega)) _)
    exact(Hxw.o.trans Hd.o.ext).trans Hy.o
   rw[HD.o,Hnn.o];refine Dh (My (S:=fun b=>b=cb+1∨b=wr.heap.size) Hown.o ?_ fun k hk hs=>?_) (by rw[Hsz.o];have:=Hcb.o;omega)
   ·(repeat refine Chg.setCell (S:=fun b=>b=cb+1∨b=wr.heap.size) ?_ (by first|exact .inl (.inl rfl)|exact .inl (.inr rfl)) _);exact Hy.o.chg _
   have:=Hown.o.lt k hk;have:=Hsz.o;rcases hs with hs|hs<;>omega
 have h7':(op==7)=false:=by simpa using h7
 have Hj':=Y8 (show Wm cap op client ttl now count ((n,r)::ps')=⟨0,-1,⟨#[]⟩,default,now⟩ by rw[Hj.o,Zgq fun q=>h7 q.1]);clear Hj h7;go_wp2_with fail;refine Ys (v:=.tuple #[Vw ⟨0,-1,⟨#[]⟩,default,now⟩,.slice la i lc]) (by simp[results,results123,go_sem,Vw,Qf, *]) rfl ⟨.slice la i lc,by rw[Hj'.o],?_,fun _=>?_,fun h=>absurd (by rw[Hj'.o]) h⟩
 ·refine Yj ?_ _;(repeat refine Y0 ?_ (by first|(have:=Hcb.o;simp;omega)|(have:=Hcb.o;have:=Hwl.o;simp only;omega)) _);exact(Hxw.o.trans Hd.o.ext)
 rw[HD.o,Hnn.o];refine Dh (My (S:=fun b=>b=cb+1∨b=wr.heap.size) Hown.o ?_ fun k hk hs=>?_) (by rw[Hsz.o];have:=Hcb.o;omega)
 ·refine Chg.alloc ?_ _;(repeat refine Chg.setCell (S:=fun b=>b=cb+1∨b=wr.heap.size) ?_ (by exact .inl (.inl rfl)) _);exact Chg.refl _ _
 have:=Hown.o.lt k hk;have:=Hsz.o;rcases hs with hs|hs<;>omega
theorem P9{S T:Nat→Prop}(cl cap count client op ttl now:Int)(v rv:Value)(ps:List (Nm×Rc))(w:World)(hp:Fe cl client op ttl now (ps.map Prod.fst))(hc0:0≤count)(hc1:count≤1000000)
 (hn:Wo w S v (ps.map Prod.fst)) (hr:Q4 w T rv (ps.map Prod.snd)) :
 Calls prog 123 #[.agg #[.int .i64 cl,.int .i64 cap],.int .i64 count,.int .i64 client,.int .i64 op,.int .i64 ttl,v,rv,.int .i64 now] w (Ed cap op client ttl now count ps w):=by
 have l0:=hp.l0;have l1:=hp.l1;rw[Zq]at l0 l1;cases hT:Xh op with
 | true =>
  obtain⟨t0,t1⟩:=hp.t1 hT;by_cases h:ttl≤1073741824-now
  ·exact Io cl cap count client op ttl now v rv ps w hp.n0 hp.n1 hT t0 t1 h hc0 hc1 l0 l1 hn hr
  exact Zyw cl cap count client op ttl now v rv ps w hp.n0 hp.n1 hT t0 t1 (by omega)
 | false=>exact Ip cl cap count client op ttl now v rv ps w hT hc0 hc1 l0 l1 hn hr
