/- Lemmas of this claim: Blk, Blk2, RCk, RCh. Conditions: as named. -/
import Derived.Deep.MidRow
import Derived.Test.YtnbclgbicnpmnaaGreatA07
import Derived.Test.YtnbclgbicnpmnaaGreatA08
import Derived.Test.YtnbclgbicnpmnaaGreatA10
import Derived.Test.YtnbclgbicnpmnaaGreatA15
namespace Go.Proofs.YtnbclgbicnpmnaaGreat
open Go.RowKit Go.Sort
set_option maxHeartbeats 0
set_option maxRecDepth 100000
set_option linter.all false
structure Xr(w:World)(b:Nat)(cs:List Value):Prop where
 lt:b<w.heap.size
 fz:∀ k,w.frozen? ⟨b,k,none⟩=false
 at_:∀ k,k<cs.length→w.cell? ⟨b,k,none⟩=cs[k]?
theorem Xr.chg{U:Nat→Prop}{w w':World}{b:Nat}{cs:List Value}(h:Xr w b cs)(c:Chg U w w')(hb:¬ U b):Xr w' b cs :=
 ⟨Zlr h.lt c.size,fun k=>(c.frozen (p:=⟨b,k,none⟩) h.lt hb).trans (h.fz k),fun k hk=>(c.cell (p:=⟨b,k,none⟩) h.lt hb).trans (h.at_ k hk)⟩
theorem Xr.ext{w w':World}{b:Nat}{cs:List Value}(h:Xr w b cs)(x:Ext w w'):Xr w' b cs:=h.chg (x.chg fun _=>False) fun h=>h
theorem Xr.new(w:World)(cs:Array Value)(t:TypeId):Xr (w.alloc (.cells cs t)) w.heap.size cs.toList :=
 ⟨by simp,fun k=>by go_simp,fun k hk=>by go_simp⟩
theorem Xr.set{w:World}{b:Nat}{cs:List Value}(h:Xr w b cs){j:Nat}(hj:j<cs.length)(u:Value):Xr (w.setCell ⟨b,j,none⟩ u) b (cs.set j u):=by
 obtain⟨h1,h2,h3⟩:=h;have hc:=h3 j hj;rw[Zz hj]at hc;refine⟨by simpa[World.setCell]using h1,fun k=>?_,fun k hk=>?_⟩
 ·have:=h2 k;simp only[World.frozen?,World.setCell]at this⊢;rw[Zk9];simp only[Zhh];cases hh:w.heap[b]? with
  | none=>rfl
  | some o=>cases o<;>simp_all
 rw[Zf]at hk;have hck:=h3 k hk;rw[Yx];by_cases e:j=k
 ·subst e;rw[Zlm rfl,Zlm hj];go_simp
 rw[Zlq e,← hck];go_simp
theorem Chg.thenB{S T:Nat→Prop}{a b c:World}(h:Chg S a b)(k:Chg T b c)(hT:∀ i,i<a.heap.size→T i→S i):Chg S a c :=
 ⟨k.os.trans h.os,k.tape.trans h.tape,k.output.trans h.output,Zlo h.size k.size,fun i hi hS=>(k.block i (Zlr hi h.size) (fun ht=>hS (hT i hi ht))).trans (h.block i hi hS)⟩
theorem Xr.drew{w:World}{b:Nat}{cs:List Value}(h:Xr w b cs):Xr w.drew b cs:=h.ext (Yn w).drew
theorem Xr.far{w:World}{b c j:Nat}{cs:List Value}(h:Xr w b cs)(hne:b≠c)(u:Value):Xr (w.setCell ⟨c,j,none⟩ u) b cs:=h.chg ((Chg.refl (· = c) w).setCell (p:=⟨c,j,none⟩) (.inl rfl) u) hne
theorem RdE.far{α:Type}{E:Enc α}{w:World}{S:Nat→Prop}{v:Value}{l:List α}{c j:Nat}(h:RdE E w S v l)(hS:¬ S c)(u:Value):RdE E (w.setCell ⟨c,j,none⟩ u) S v l:=Rd.chg h ((Chg.refl (· = c) w).setCell (p:=⟨c,j,none⟩) (.inl rfl) u) (fun k hk e=>hS (e▸hk))
theorem Own.far{α:Type}{E:Enc α}{w:World}{B:Nat}{v:Value}{l:List α}{c j:Nat}(h:Own E w B v l)(hS:v.ownBlock≠some c)(u:Value):Own E (w.setCell ⟨c,j,none⟩ u) B v l:=h.chg ((Chg.refl (· = c) w).setCell (p:=⟨c,j,none⟩) (.inl rfl) u) (fun k hk e=>hS (by rw[hk,e]))
theorem Xp{S:Nat→Prop}{a:World}{b:Nat}(hb:S b∨a.heap.size≤b):∀ {vs:List Value} {o:Nat} {w:World},Chg S a w→Chg S a (w.setCells b o vs)
 | [],_,_,h=>h
 | v::r,o,w,h=>Xp hb (vs:=r) (h.setCell (p:=⟨b,o,none⟩) hb v)
theorem Zsn{w:World}{S:Nat→Prop}{T:Tbl}(h:Xn w S T):∀ v∈Qu T,v.oneCell'=true:=by
 obtain⟨_,_,e0,_,_⟩:=h.cat.shape;obtain⟨_,_,e1,_,_⟩:=h.cls.shape;obtain⟨_,_,e2,_,_⟩:=h.joi.shape;obtain⟨_,_,e3,_,_⟩:=h.bid.shape;obtain⟨_,_,e4,_,_⟩:=h.scr.shape;obtain⟨_,_,e5,_,_⟩:=h.sta.shape;obtain⟨_,_,e6,_,_⟩:=h.ign.shape;obtain⟨_,_,e7,_,_⟩:=h.ext.shape;obtain⟨_,_,e8,_,_⟩:=h.map.shape;obtain⟨_,_,e9,_,_⟩:=h.dec.shape;obtain⟨_,_,e10,_,_⟩:=h.exc.shape;obtain⟨_,_,e11,_,_⟩:=h.pro.shape;intro v hv;simp only[Qu,Zg,Zh,Zkl]at hv;rcases hv with rfl|rfl|rfl|rfl|rfl|rfl|rfl|rfl|rfl|rfl|rfl|rfl
 ·rw[e0];rfl
 ·rw[e1];rfl
 ·rw[e2];rfl
 ·rw[e3];rfl
 ·rw[e4];rfl
 ·rw[e5];rfl
 ·rw[e6];rfl
 ·rw[e7];rfl
 ·rw[e8];rfl
 ·rw[e9];rfl
 ·rw[e10];rfl
 rw[e11];rfl
theorem Xr.there{w:World}{b o n:Nat}{cs:List Value}(h:Xr w b cs)(hn:o+n≤cs.length):w.there b o n:=fun j hj =>
 ⟨by rw[h.at_ (o+j) (by omega),Zz (by omega)];rfl,h.fz _⟩
theorem Xr.mid{w:World}{b o:Nat}{cs vs cs':List Value}(h:Xr w b cs)(ho:o+vs.length≤cs.length)(he:cs'=cs.take o++(vs++cs.drop (o+vs.length))):Xr (w.setCells b o vs) b cs':=by
 subst he;refine⟨Zlr h.lt (Xp (S:=fun _=>True) (.inl trivial) (Chg.refl _ w)).size,fun k=>by rw[World.frozen?_setCells];exact h.fz k,fun k hk=>?_⟩;have hl:(cs.take o).length=o:=by simp;omega
 by_cases h1:k<o
 ·rw[World.cell?_setCells_out b vs o w ⟨b,k,none⟩ (fun _ _=>.inl h1),h.at_ k (by omega),Ze (by omega),Zi5 h1]
 by_cases h2:k<o+vs.length
 ·have e:=World.cell?_setCells_in b vs o w (fun j hj=>((h.there ho) j hj).1) (k-o) (by omega);rw[show o+(k-o)=k by omega]at e;rw[e,Zd (by omega),hl,Ze (by omega),Zz (by omega)]
 rw[World.cell?_setCells_out b vs o w ⟨b,k,none⟩ (fun _ _=>.inr (by simp only;omega)),Zd (by omega),hl,Zd (by omega),Yz];rw[h.at_ k (by simp at hk;omega)];congr 1;omega
theorem Lc(a b:Opn)(w:World):Calls Tryz.prog 20 #[opV a,opV b] w fun e w'=>e=.returned (.bool (Ba a b))∧Ext w w':=by
 unfold opV Ba;cases h1:decide (0≤a.ans)<;>cases h2:decide (a.ans<b.begun)
 all_goals
  go_enter Tryz.func20,Tryz.ntmps20;go_wp2_with fail;go_ret;exact⟨rfl,((Yn w).alloc _).alloc _⟩
def Ku(os:List Opn):Nat→Int→Int
 | 0,_=>-1
 | i+1,c=>match os[i]? with|some o=>if o.cl=c then(i:Int)else Ku os i c|none=>Ku os i c
theorem Gf(os:List Opn){i:Nat}{o:Opn}(h:os[i]?=some o)(c:Int):Ku os (i+1) c=if o.cl=c then(i:Int)else Ku os i c:=by
 show(match os[i]? with|some o=>if o.cl=c then(i:Int)else Ku os i c|none=>Ku os i c)=_;rw[h]
theorem Sj(os:List Opn)(c:Int):∀ i,i≤os.length→(Ku os i c = -1∧Jh os i c=none)∨∃ (k:Nat) (o:Opn),k<i∧Ku os i c=k∧os[k]?=some o∧Jh os i c=some o.ans
 | 0,_=>.inl ⟨rfl,rfl⟩
 | i+1,hi=>by
  obtain⟨o,ho⟩:=geX (l:=os) (i:=i) (by omega);rw[Gf os ho,Dm os ho];by_cases hc:o.cl=c
  ·rw[Zlm hc,Zlm hc];exact .inr ⟨i,o,by omega,rfl,ho,rfl⟩
  rw[Zlq hc,Zlq hc];rcases Sj os c i (by omega)with h | ⟨k,p,h1,h2⟩
  ·exact .inl h
  exact .inr ⟨k,p,by omega,h2⟩
theorem Kc.cl{w:World}{b p:Nat}{o:Opn}(h:Kc w b p o):w.cell? ⟨b,p+0,none⟩=some (.int .i64 o.cl):=h.2 0 (by omega)
theorem Ztw{cl:Int}{os:List Opn}{i:Nat}{o:Opn}(h:os[i]?=some o)(hc:Vq cl o=false):Di cl os i=false:=by
 unfold Di;rw[h];simp[hc]
theorem Ztu{cl:Int}{os:List Opn}{i:Nat}{o:Opn}(h:os[i]?=some o)(hd:o.dec≠-1)(hc:seenD os i o.dec=true):Di cl os i=false:=by
 unfold Di;rw[h];simp[hc,hd]
theorem Zqo{cl:Int}{os:List Opn}{i:Nat}{o:Opn}(h:os[i]?=some o)(hc:Il os i o=true):Di cl os i=false:=by
 unfold Di;rw[h];simp[hc]
theorem Ztv{cl:Int}{os:List Opn}{i:Nat}{o:Opn}(h:os[i]?=some o)(hc:Vq cl o=true)(hb:Il os i o=false)(hd:o.dec≠-1→seenD os i o.dec=false):Di cl os i = !Gp os i o:=by
 unfold Di;rw[h];by_cases hq:o.dec = -1
 ·simp[hc,hb,hq]
 simp[hc,hb,hd hq]
theorem Zwk{os:List Opn}{j:Nat}{p:Opn}(h:os[j]?=some p){d:Int}(h0:d≠-1→seenD os j d=false)(hne:(p.dec == -1)=true∨(p.dec==d)=false):d≠-1→seenD os (j+1) d=false:=by
 intro hd;cases h3:seenD os (j+1) d with
 | false=>rfl
 | true =>
  rcases(Ou os h d).1 h3 with e|e
  ·rcases hne with hne|hne
   ·have h4:p.dec = -1:=by simpa using hne
    exact absurd (e.trans h4) hd
   have h4:p.dec≠d:=by simpa using hne
   exact absurd e.symm h4
  rw[h0 hd]at e;cases e
theorem Zt8{os:List Opn}{i j:Nat}{p:Opn}{d:Int}(h:os[j]?=some p)(hj:j<i)(hb:(p.dec==d)=true):seenD os i d=true:=by
 unfold seenD;rw[Zkr];exact⟨p,Zy (i:=j) (by rw[Zi5 hj];exact h),hb⟩
theorem Zqn{cl:Int}{os:List Opn}{i j:Nat}{o p:Opn}(h:os[i]?=some o)(hp:os[j]?=some p)(hj:j<i)(h1:(p.dec == -1)=false)(h2:(p.dec==o.dec)=true):Di cl os i=false :=
 Ztu h (fun e=>by rw[e]at h2;rw[h2]at h1;cases h1) (Zt8 hp hj h2)
theorem Zxc{os:List Opn}{j:Nat}{p:Opn}(h:os[j]?=some p){c:Int}(hb:(p.cl==c)=true):Ku os (j+1) c=(j:Int):=by
 rw[Gf os h,Zlm (by simpa using hb)]
theorem Cx{os:List Opn}{j:Nat}{p:Opn}(h:os[j]?=some p){c:Int}(hb:(p.cl==c)=false):Ku os (j+1) c=Ku os j c:=by
 rw[Gf os h,Zlq (by simpa using hb)]
theorem Zqm{cl:Int}{os:List Opn}{i:Nat}{o:Opn}(h:os[i]?=some o)(hc:Vq cl o=true)(hd:o.dec≠-1→seenD os i o.dec=false):Di cl os i=(!Il os i o&&!Gp os i o):=by
 cases hb:Il os i o
 ·rw[Ztv h hc hb hd];simp
 rw[Zqo h hb];simp
theorem Zvj(os:List Opn)(o:Opn):Il os 0 o=false:=by unfold Il;split<;>simp
theorem Zx0(os:List Opn)(o:Opn):Gp os 0 o=false:=rfl
theorem Zod{os:List Opn}{i:Nat}{o p:Opn}(h0:0<i)(hp:os[i-1]?=some p):Il os i o = !decide (p.begun<o.begun):=by
 unfold Il;rw[hp];cases h:decide (p.begun<o.begun)<;>simp_all
theorem Zxa{os:List Opn}{i:Nat}{o:Opn}(h:Jh os i o.cl=none):Gp os i o=false:=by unfold Gp;rw[h]
theorem Nc{os:List Opn}{i:Nat}{o:Opn}{a:Int}(h:Jh os i o.cl=some a):Gp os i o=(a == -1||!decide (a<o.begun)):=by
 unfold Gp;rw[h];show(a == -1||decide (o.begun≤a))=(a == -1||!decide (a<o.begun));congr 1;by_cases h:a<o.begun
 ·rw[Yh h,Yi (by omega)];rfl
 rw[Yi h,Yh (by omega)];rfl
theorem Ztc{S:Nat→Prop}(cl cp:Int)(v:Value)(os:List Opn)(i:Nat)(w:World)(ho:Vy w S v os)(hi:i<os.length) :
 Calls Tryz.prog 92 #[.agg #[.int .i64 cl,.int .i64 cp],v,.int .i64 (i:Int)] w fun e w'=>e=.returned (.bool (Di cl os i))∧Ext w w':=by
 obtain⟨n,hnn⟩:=gnX (os.length);obtain⟨o,hoi⟩:∃ o,os[i]?=some o:=⟨os[i]'hi,Zz _⟩;obtain⟨g,p,C,rfl,hc1,hc2,_,hA,hN⟩:=ho.get hoi;rw[hnn]at hi hc1⊢;unfold maxLen at hc2;obtain⟨nA,nC,hnv⟩:=hN.shape;have hone:o.nv.oneCell'=true:=by rw[hnv];rfl
 have Ho:=Ya (ho.ext ((Yn w).alloc (.cells #[.int .i64 cl,.int .i64 cp] 37)));have HA1:=Ya (hA.ext ((Yn w).alloc (.cells #[.int .i64 cl,.int .i64 cp] 37)));have Hoi:=Ya hoi;have Hnn:=Ya hnn;have i0:(0:Int)≤(i:Int):=by omega
 have i1:(i:Int)<(n:Int):=by omega
 have i2:(i:Int)≤(C:Int):=by omega
 have i3:i≤C:=by omega
 clear ho hA hN hnv hoi hnn;go_enter Tryz.func92,Tryz.ntmps92;go_upto_region 1 with fail;obtain⟨W0,hW0⟩:=gnX (w.alloc (.cells #[.int .i64 cl,.int .i64 cp] 37));have hc0:=Zhg _ _ 0 #[.int .i64 cl,.int .i64 cp] 37 (0,0) (Zl2 w _);replace hc0:(w.alloc (.cells #[.int .i64 cl,.int .i64 cp] 37)).cell? ⟨w.heap.size,0,none⟩=some (.int .i64 cl):=hc0;rw[hW0]at hc0;have hx0:Ext w W0:=by rw[← hW0];exact(Yn w).alloc _
 have hs0:w.heap.size<W0.heap.size:=by rw[← hW0];simp
 rw[hW0]at Ho HA1⊢;obtain⟨fb,hfb⟩:=gnX (w.heap.size);rw[hfb]at hc0 hs0⊢;clear hW0 hfb;go_upto_region 2 with(first|(refine Xh HA1.o rfl ?_)|(refine Wl rfl rfl rfl hone ?_));have hNw:=Un W0 o;have hx1:=(Yn W0).alloc (opO o);obtain⟨W1,hW1⟩:=gnX (W0.alloc (opO o));obtain⟨bo,hbo⟩:=gnX (W0.heap.size);rw[hW1,hbo]at hNw;rw[hW1]at hx1;rw[hW1,hbo];have q0:W1.cell? ⟨fb,0,none⟩=some (.int .i64 cl):=(hx1.cell (p:=⟨fb,0,none⟩) hs0).trans hc0;have HN:=Ya hNw;have HX1:=Ya (hx0.trans hx1);have Ho1:=Ya (Ho.o.ext hx1);have q1:=hNw.cl;have q2:=hNw.begun;have q3:=hNw.dec;have q4:=hNw.ans;rw[Zle]at q1 q2 q3 q4;clear hc0 hx0 hs0 hNw hx1 hW1 hbo Ho HA1;simp only[Act.put,Zv,Zu,Zt];go_cut [58] (fun z wq=>z=.bool (!Vq cl o)∧Ext W1 wq);case first =>
  by_cases h1:o.cl<0
  ·have d1:decide (o.cl<0)=true:=Yh h1;have Hc:=Ya (show Vq cl o=false by simp[Vq,h1]);clear h1;(go_wp2_with fail;go_meet;exact⟨by rw[Hc.o];rfl,Yn _⟩)
  have d1:decide (o.cl<0)=false:=Yi h1;by_cases h2:cl≤o.cl
  ·have d2:decide (cl≤o.cl)=true:=Yh h2;have Hc:=Ya (show Vq cl o=false by simp[Vq,h2]);clear h1 h2;(go_wp2_with fail;go_meet;exact⟨by rw[Hc.o];rfl,Yn _⟩)
  have d2:decide (cl≤o.cl)=false:=Yi h2;by_cases h3:o.begun<0
  ·have d3:decide (o.begun<0)=true:=Yh h3;have Hc:=Ya (show Vq cl o=false by simp[Vq,h3]);clear h1 h2 h3;(go_wp2_with fail;go_meet;exact⟨by rw[Hc.o];rfl,Yn _⟩)
  have d3:decide (o.begun<0)=false:=Yi h3;by_cases h4:o.dec = -1
  ·have d4:(o.dec == -1)=true:=by simp[h4]
   have d4n:(o.dec != -1)=false:=by simp[h4]
   by_cases h5:o.ans = -1
   ·have d5:(o.ans == -1)=true:=by simp[h5]
    have d5n:(o.ans != -1)=false:=by simp[h5]
    have Hc:=Ya (show Vq cl o=true by simp[Vq,h1,h2,h3,h4,h5]<;>omega);clear h1 h2 h3 h4 h5;(go_wp2_with fail;go_meet;exact⟨by rw[Hc.o];rfl,Yn _⟩)
   have d5:(o.ans == -1)=false:=by simp[h5]
   have d5n:(o.ans != -1)=true:=by simp[h5]
   have Hc:=Ya (show Vq cl o=false by simp[Vq,h4,h5]);clear h1 h2 h3 h4 h5;(go_wp2_with fail;go_meet;exact⟨by rw[Hc.o];rfl,Yn _⟩)
  have d4:(o.dec == -1)=false:=by simp[h4]
  have d4n:(o.dec != -1)=true:=by simp[h4]
  by_cases h5:o.dec≤o.begun
  ·have d5:decide (o.dec≤o.begun)=true:=Yh h5;have Hc:=Ya (show Vq cl o=false by simp[Vq,h4]<;>omega);clear h1 h2 h3 h4 h5;(go_wp2_with fail;go_meet;exact⟨by rw[Hc.o];rfl,Yn _⟩)
  have d5:decide (o.dec≤o.begun)=false:=Yi h5;by_cases h6:o.ans = -1
  ·have d6:(o.ans == -1)=true:=by simp[h6]
   have d6n:(o.ans != -1)=false:=by simp[h6]
   have Hc:=Ya (show Vq cl o=true by simp[Vq,h1,h2,h3,h4,h6]<;>omega);clear h1 h2 h3 h4 h5 h6;(go_wp2_with fail;go_meet;exact⟨by rw[Hc.o];rfl,Yn _⟩)
  have d6:(o.ans == -1)=false:=by simp[h6]
  have d6n:(o.ans != -1)=true:=by simp[h6]
  by_cases h7:o.ans≤o.dec
  ·have d7:decide (o.ans≤o.dec)=true:=Yh h7;have Hc:=Ya (show Vq cl o=false by simp[Vq,h4,h6]<;>omega);clear h1 h2 h3 h4 h5 h6 h7;(go_wp2_with fail;go_meet;exact⟨by rw[Hc.o];rfl,Yn _⟩)
  have d7:decide (o.ans≤o.dec)=false:=Yi h7;have Hc:=Ya (show Vq cl o=true by simp[Vq,h1,h2,h3,h4,h6]<;>omega);clear h1 h2 h3 h4 h5 h6 h7;(go_wp2_with fail;go_meet;exact⟨by rw[Hc.o];rfl,Yn _⟩)
 obtain⟨rfl,hxq⟩:=hcut;rename World=>wq
 have HXq:=Ya hxq;have HNq:=Ya (HN.o.ext hxq);have Hoq:=Ya (Ho1.o.ext hxq);have Hw:=Ya (HX1.o.trans hxq);clear hxq q0 q1 q2 q3 q4 HN Ho1;obtain⟨zz,hzz⟩:=gnX ((!Vq cl o));rw[hzz];cases zz
 rotate_left
 ·have Hc:=Ya (show Vq cl o=false by simpa using hzz);clear hzz;go_wp2_with fail;go_ret;exact⟨by rw[Ztw Hoi.o Hc.o];rfl,Hw.o⟩
 have Hc:=Ya (show Vq cl o=true by simpa using hzz);clear hzz;go_wp2_with fail;go_loopw [63,8] (fun x y wr=>∃ j:Nat,j≤i∧x=.int .i64 (j:Int)∧y=.int .i64 (Ku os j o.cl)∧(o.dec≠-1→seenD os j o.dec=false)∧Ext wq wr) (fun x _ _=>i-(intOf x).toNat);case atStart=>exact⟨0,by omega,rfl,rfl,fun _=>rfl,Yn _⟩
 obtain⟨j,hj,rfl,rfl,hse,hx⟩:=hrel;rename World=>wr
 have Hse:=Ya hse;have Hx:=Ya hx;have HNr:=Ya (HNq.o.ext hx);clear hse hx;by_cases hlt:j<i
 ·obtain⟨hd_j,i0_j,i1_j⟩:=LTl j i;obtain⟨p2,hp2⟩:=geX (l:=os) (i:=j) (by rw[Hnn.o];omega);obtain⟨g2,a2,c2,hv2,_,_,_,hA2,hN2⟩:=(Hoq.o.ext Hx.o).get hp2;rw[Hnn.o]at hv2;simp only[Yg,Yf,Zlh,Zlc,Zky]at hv2;obtain⟨⟨rfl,rfl⟩,rfl⟩:=hv2;obtain⟨nA2,nC2,hnv2⟩:=hN2.shape;have hone2:p2.nv.oneCell'=true:=by rw[hnv2];rfl
  have HA2:=Ya hA2;have Hp2:=Ya hp2;clear hA2 hN2 hnv2 hp2;go_upto_region 8 with(first|(refine Xh HA2.o rfl ?_)|(refine Wl rfl rfl rfl hone2 ?_));have hNw:=Un wr p2;have hx1:=(Yn wr).alloc (opO p2);obtain⟨W2,hW2⟩:=gnX (wr.alloc (opO p2));obtain⟨b2,hb2⟩:=gnX (wr.heap.size);rw[hW2,hb2]at hNw;rw[hW2]at hx1;rw[hW2,hb2];have hN1:=HNr.o.ext hx1;have q1:=hN1.cl;have q3:=hN1.dec;have r1:=hNw.cl;have r3:=hNw.dec;rw[Zle]at q1 q3 r1 r3;have X2:=Ya (Hx.o.trans hx1);clear hW2 hb2 hNw hx1 hN1;cases b1:(p2.dec == -1)<;>cases b2:(p2.dec==o.dec)<;>cases b3:(p2.cl==o.cl)
  all_goals
   have b1n:(p2.dec != -1) = !(p2.dec == -1):=rfl;rw[b1]at b1n;have B1:=Ya b1;have B2:=Ya b2;have B3:=Ya b3;go_wp2_with fail
   first
   | (go_roundw
      case rel=>exact⟨j+1,by omega,by go_num,(by first|rw[Zxc Hp2.o B3.o]|rw[Cx Hp2.o B3.o]),Zwk Hp2.o Hse.o (by first|exact .inl B1.o|exact .inr B2.o),X2.o⟩
      (simp[intOf];omega))
   | (go_ret
      exact⟨by rw[Zqn Hoi.o Hp2.o hlt B1.o B2.o];rfl,Hw.o.trans X2.o⟩)
 have hd_j:=GEl j i;obtain rfl:j=i:=by omega
 have Hok2:=Ya (Zqm Hoi.o Hc.o Hse.o);have q12:=HNr.o.begun;rw[Zle]at q12;have l12:=lat q12;clear q12;rcases Zkv j with h0|h0
 ·subst h0;have li:Ku os 0 o.cl = -1:=rfl;rw[li];go_upto_region 13 with fail;have hun:=Yd;refine Y0 (by kernel_rfl) (by kernel_rfl) ?_;repeat((with_reducible refine Yw ?_);intro K hK;go_simp;(with_reducible refine hK _ ?_);clear hK K)
  (with_reducible refine Yv ?_)
  intro w9 hy9;clear hun;try simp only[Ye]
  go_wp2_with fail;go_ret;exact⟨Q2 (by rw[Hok2.o,Zvj,Zx0];rfl),(Hw.o.trans Hx.o).trans hy9⟩
 have LI:=Ya (Sj os o.cl j (by rw[Hnn.o];omega));obtain⟨p1,hp1⟩:=geX (l:=os) (i:=j-1) (by rw[Hnn.o];omega);obtain⟨g1,a1,c1',hv1,_,_,_,hA1,_⟩:=(Hoq.o.ext Hx.o).get hp1;rw[Hnn.o]at hv1;simp only[Yg,Yf,Zlh,Zlc,Zky]at hv1;obtain⟨⟨rfl,rfl⟩,rfl⟩:=hv1;have l1:=lat hA1.begun;have u0:((j:Int)==0)=false:=by simp;omega
 have u1:=Vw j h0 (by omega);have u2:(0:Int)≤((j-1:Nat):Int):=by omega
 have u3:((j-1:Nat):Int)<(n:Int):=by omega
 have Hbg:=Ya (Zod (o:=o) h0 hp1);clear hA1 hp1 h0;cases hb:decide (p1.begun<o.begun)
 ·have Hb:=Ya hb;go_upto_region 13 with fail;have hun:=Yd;refine Y0 (by kernel_rfl) (by kernel_rfl) ?_;repeat((with_reducible refine Yw ?_);intro K hK;go_simp;(with_reducible refine hK _ ?_);clear hK K)
  (with_reducible refine Yv ?_)
  intro w9 hy9;clear hun;try simp only[Ye]
  go_wp2_with fail;go_ret;exact⟨Q2 (by rw[Hok2.o,Hbg.o,Hb.o];rfl),(Hw.o.trans Hx.o).trans hy9⟩
 have Hb:=Ya hb;rcases LI.o with⟨li,la⟩ | ⟨k,qo,hk,li,hqo,la⟩
 ·rw[li];have La:=Ya la;clear la li;go_upto_region 13 with fail;have hun:=Yd;refine Y0 (by kernel_rfl) (by kernel_rfl) ?_;repeat((with_reducible refine Yw ?_);intro K hK;go_simp;(with_reducible refine hK _ ?_);clear hK K)
  (with_reducible refine Yv ?_)
  intro w9 hy9;clear hun;try simp only[Ye]
  go_wp2_with fail;go_ret;exact⟨Q2 (by rw[Hok2.o,Hbg.o,Hb.o,Zxa La.o];rfl),(Hw.o.trans Hx.o).trans hy9⟩
 rw[li];obtain⟨g3,a3,c3',hv3,_,_,_,hA3,_⟩:=(Hoq.o.ext Hx.o).get hqo;rw[Hnn.o]at hv3;simp only[Yg,Yf,Zlh,Zlc,Zky]at hv3;obtain⟨⟨rfl,rfl⟩,rfl⟩:=hv3;have l3:=lat hA3.ans;have v0:decide ((k:Int)<0)=false:=Yi;have v1:(0:Int)≤(k:Int):=by omega
 have v2:(k:Int)<(n:Int):=by omega
 have La:=Ya la;clear la li hqo hA3 hk;cases ha:(qo.ans == -1)
 ·have han:(qo.ans != -1)=true:=by rw[bne,ha];rfl
  have Ha:=Ya ha;go_upto_region 13 with fail;have hun:=Yd;refine Y0 (by kernel_rfl) (by kernel_rfl) ?_;repeat((with_reducible refine Yw ?_);intro K hK;go_simp;(with_reducible refine hK _ ?_);clear hK K)
  (with_reducible refine Yv ?_)
  intro w9 hy9;clear hun;try simp only[Ye]
  go_wp2_with fail;go_ret;exact⟨Q2 (by rw[Hok2.o,Hbg.o,Hb.o,Nc La.o,Ha.o];simp),(Hw.o.trans Hx.o).trans hy9⟩
 have han:(qo.ans != -1)=false:=by rw[bne,ha];rfl
 have Ha:=Ya ha;go_upto_region 13 with fail;have hun:=Yd;refine Y0 (by kernel_rfl) (by kernel_rfl) ?_;repeat((with_reducible refine Yw ?_);intro K hK;go_simp;(with_reducible refine hK _ ?_);clear hK K)
 (with_reducible refine Yv ?_)
 intro w9 hy9;clear hun;try simp only[Ye]
 go_wp2_with fail;go_ret;exact⟨Q2 (by rw[Hok2.o,Hbg.o,Hb.o,Nc La.o,Ha.o];rfl),(Hw.o.trans Hx.o).trans hy9⟩
theorem Zq0{S:Nat→Prop}(cl cp:Int)(v:Value)(os:List Opn)(w:World)(ho:Vy w S v os) :
 Calls Tryz.prog 57 #[.agg #[.int .i64 cl,.int .i64 cp],v] w fun e w'=>e=.returned (.tuple #[.int .i64 (Vl cl cp os).1,.int .i64 (Vl cl cp os).2])∧Ext w w':=by
 obtain⟨A,C,rfl⟩:=ho.shape;have X0:=Ya ((Yn w).alloc (.cells #[.int .i64 cl,.int .i64 cp] 37));have F0:=Ya (Xr.new w #[.int .i64 cl,.int .i64 cp] 37);obtain⟨n,hnn⟩:=gnX (os.length);have Hnn:=Ya hnn;have Ho:=Ya ho;rw[hnn];clear ho hnn;rcases Aj cl cp with hc|hc
 ·have HR:=Ya (show Vl cl cp os=(0,3) by unfold Vl;rw[hc];rfl);go_enter Tryz.func57,Tryz.ntmps57;go_wp2_with fail;refine(Qe cl cp _).mono ?_;rintro x w1 ⟨rfl,hx1⟩;rw[hc];have Hx1:=Ya (X0.o.trans hx1);clear hx1 hc;go_wp2_with fail;go_ret2;rw[HR.o];exact⟨rfl,Hx1.o⟩
 have Hc:=Ya hc;by_cases hn4:4096<n
 ·have hd4:decide ((4096:Int)<(n:Int))=true:=Yh;have HR:=Ya (show Vl cl cp os=(0,7) by unfold Vl;rw[Zlq (by omega),Zlm (by rw[Hnn.o];exact hn4)]);go_enter Tryz.func57,Tryz.ntmps57;go_wp2_with fail;refine(Qe cl cp _).mono ?_;rintro x w1 ⟨rfl,hx1⟩;rw[hc];have Hx1:=Ya (X0.o.trans hx1);clear hx1 hc;go_wp2_with fail;go_ret2;rw[HR.o];exact⟨rfl,Hx1.o⟩
 have hd4:decide ((4096:Int)<(n:Int))=false:=Yi;have Hl4:=Ya (show ¬ 4096<os.length by rw[Hnn.o];exact hn4);go_enter Tryz.func57,Tryz.ntmps57;go_wp2_with fail;refine(Qe cl cp _).mono ?_;rintro x w1 ⟨rfl,hx1⟩;rw[hc];have FB:=Ya (F0.o.ext hx1);have Hx1:=Ya (X0.o.trans hx1);obtain⟨fb,hfb⟩:=gnX (w.heap.size);rw[hfb]at FB;rw[hfb];clear hx1 hc hfb;go_wp2_with fail;go_loopw [18] (fun o wr=>∃ i:Nat,i≤n∧o=.int .i64 (i:Int)∧Ext w1 wr∧∀ j,j<i→Di cl os j=true) (fun o _=>n-(intOf o).toNat);case atStart=>exact⟨0,by omega,rfl,Yn _,fun j hj=>by omega⟩
 obtain⟨i,hi,rfl,hx,hok⟩:=hrel;rename World=>wr
 have Hx:=Ya hx;have Hok:=Ya hok;clear hx hok;by_cases hin:i<n
 ·obtain⟨hd_i,i0_i,i1_i⟩:=LTl i n;have c0:=(FB.o.ext Hx.o).at_ 0 (by simp);have c1:=(FB.o.ext Hx.o).at_ 1 (by simp);simp only[Zx,Zw]at c0 c1;go_wp2_with fail;refine(Ztc cl cp _ os i _ (by have:=Ho.o.ext (Hx1.o.trans Hx.o);rwa [Hnn.o]at this) (by rw[Hnn.o];exact hin)).mono ?_;rintro x w3 ⟨rfl,hx3⟩;have Hx3:=Ya (Hx.o.trans hx3);clear hx3 c0 c1;cases hb:Di cl os i with
  | false =>
   have HR:=Ya (Nq Hc.o Hl4.o (by rw[Hnn.o];exact hin) hb Hok.o);go_wp2_with fail;go_ret2;rw[HR.o];exact⟨rfl,Hx1.o.trans Hx3.o⟩
  | true =>
   have Hb:=Ya hb;clear hb;go_wp2_with fail;go_roundw;case rel=>exact⟨i+1,by omega,by go_num,Hx3.o,fun j hj=>by
    by_cases e:j=i
    ·rw[e];exact Hb.o
    exact Hok.o j (by omega)⟩
   case measure=>(simp[intOf];omega)
 have hd_i:=GEl i n;have HR:=Ya (Fq Hc.o Hl4.o (fun j hj=>Hok.o j (by rw[Hnn.o]at hj;omega)));go_wp2_with fail;go_ret2;rw[HR.o];exact⟨rfl,Hx1.o.trans Hx.o⟩
end Go.Proofs.YtnbclgbicnpmnaaGreat
