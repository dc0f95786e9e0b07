/- Lemmas of this claim: Dk2, ModG, Da, Db, Nd. Conditions: as named. -/
import Derived.Test.YtnbclgbicnpmnaaGreatA12
import Derived.Test.YtnbclgbicnpmnaaGreatA14
namespace Go.Proofs.YtnbclgbicnpmnaaGreat
open Go.RowKit Go.Sort Tryz
set_option maxHeartbeats 0
set_option maxRecDepth 100000
set_option linter.all false
theorem Eu:(prog.info? 55).map (fun i=>(i.zero,i.size,i.bytes))=some (some (.agg #[.int .i64 0,.int .i64 0,.int .i64 0,.slice none 0 0,.int .i64 0,.int .i64 0,.string ⟨#[]⟩,.int .i64 0,.int .i64 0,.string ⟨#[]⟩,.int .i64 0,.int .i64 0,.int .i64 0,.int .i64 0,.int .i64 0,.int .i64 0,.int .i64 0,.string ⟨#[]⟩,.int .i64 0,.int .i64 0,.string ⟨#[]⟩,.int .i64 0,.int .i64 0]),23,232):=by kernel_rfl
theorem Zor:prog.underlying 23=some (.slice 55):=by kernel_rfl
abbrev OpS:={o:Opn // o.nv.oneCell'=true}
def Zpg(l:List OpS):List Value:=Gj (l.map Subtype.val)
theorem Q8:∀ a b:List Opn,Gj (a++b)=Gj a++Gj b
 | [],_=>rfl
 | n::r,b=>by simp[Gj,Q8 r b]
theorem Zpf(l:List OpS):∀ u∈Zpg l,u.oneCell'=true:=by
 induction l with
 | nil=>simp[Zpg,Gj]
 | cons o r ih =>
  intro u hu;obtain⟨o,ho⟩:=o;simp only[Zpg,Zj0,Gj,Zj]at hu;rcases hu with hu|hu
  ·simp only[opC,Zg,Zh,Zin]at hu;rcases hu with rfl|rfl|rfl|rfl|rfl|rfl|rfl|rfl|rfl|rfl|rfl|rfl|rfl|rfl|rfl|rfl|rfl|rfl|rfl|rfl|rfl|rfl|rfl;all_goals first|rfl|exact ho
  exact ih u hu
noncomputable def opE:Enc OpS where
 ty:=55
 sl:=23
 z:=23
 bytes:=232
 cells l:=Zpg l
 app a b:=by simp[Zpg,Q8]
 len l:=by simp[Zpg,En]
 one l:=Zpf l
 und:=Zor
 i:=Classical.choose (Zju Eu)
 zero:=.agg #[.int .i64 0,.int .i64 0,.int .i64 0,.slice none 0 0,.int .i64 0,.int .i64 0,.string ⟨#[]⟩,.int .i64 0,.int .i64 0,.string ⟨#[]⟩,.int .i64 0,.int .i64 0,.int .i64 0,.int .i64 0,.int .i64 0,.int .i64 0,.int .i64 0,.string ⟨#[]⟩,.int .i64 0,.int .i64 0,.string ⟨#[]⟩,.int .i64 0,.int .i64 0]
 info:=(Yo (Zju Eu)).1
 hz:=(Yo (Zju Eu)).2.1
 hs:=(Yo (Zju Eu)).2.2.1
 hb:=(Yo (Zju Eu)).2.2.2
 hc:=rfl
 pos:=by omega
theorem Ll:(prog.info? 147).map (fun i=>(i.zero,i.size,i.bytes))=some (some (.pointer none),1,8):=by kernel_rfl
theorem Zlp:prog.underlying 144=some (.slice 147):=by kernel_rfl
def Zm2(b:Nat):Value:=.pointer (some ⟨b,0,none⟩)
noncomputable def Zp2:Enc Nat where
 ty:=147
 sl:=144
 z:=1
 bytes:=8
 cells l:=l.map Zm2
 app a b:=Yy
 len l:=by simp
 one l:=Dh _ (fun _=>rfl) l
 und:=Zlp
 i:=Classical.choose (Zju Ll)
 zero:=.pointer none
 info:=(Yo (Zju Ll)).1
 hz:=(Yo (Zju Ll)).2.1
 hs:=(Yo (Zju Ll)).2.2.1
 hb:=(Yo (Zju Ll)).2.2.2
 hc:=rfl
 pos:=by omega
theorem Zm4{l:List Nat}{j:Nat}{x:Nat}(h:l[j]?=some x):(Zp2.cells l)[j]?=some (Zm2 x):=by
 show(l.map Zm2)[j]?=_;rw[Zn,h];rfl
theorem Dm:(prog.info? 24).map (fun i=>(i.zero,i.size,i.bytes))=some (some (.slice none 0 0),1,24):=by kernel_rfl
theorem Zo9:prog.underlying 143=some (.slice 24):=by kernel_rfl
noncomputable def ssE:Enc Sl where
 ty:=24
 sl:=143
 z:=1
 bytes:=24
 cells l:=l.map Sl.v
 app a b:=Yy
 len l:=by simp
 one l:=Dh _ (fun _=>rfl) l
 und:=Zo9
 i:=Classical.choose (Zju Dm)
 zero:=.slice none 0 0
 info:=(Yo (Zju Dm)).1
 hz:=(Yo (Zju Dm)).2.1
 hs:=(Yo (Zju Dm)).2.2.1
 hb:=(Yo (Zju Dm)).2.2.2
 hc:=rfl
 pos:=by omega
theorem Ir{l:List Sl}{j:Nat}{x:Sl}(h:l[j]?=some x):(ssE.cells l)[j]?=some x.v:=by
 show(l.map Sl.v)[j]?=_;rw[Zn,h];rfl
structure Dk where
 xb:Nat
 x:Shr
 mv:Value
 ms:List (Nat×Wc)
 gb:Nat
 cb:Nat
 bx:List Sl
 bs_:List (List ByteArray)
 ov:Value
 ops:List OpS
 gl:Nat
 cl:Nat
 last:List Int
 t:Nat
 n:Nat
def Dk.bv(d:Dk):Value:=.slice (some ⟨d.gb,0,none⟩) d.bx.length d.cb
def Dk.lv(d:Dk):Value:=.slice (some ⟨d.gl,0,none⟩) d.last.length d.cl
def Zwx(d:Dk):List Value:=[.pointer (some ⟨d.xb,0,none⟩),d.mv,d.bv,d.ov,d.lv,.int .i64 d.t]
def I5(o:Opn):Prop:=0≤o.cl∧o.cl<64∧-1≤o.dec∧o.dec≤2000000∧KS o.ns∧0≤o.res.tick
structure Wt(w:World)(U:Nat→Prop)(T:Tbl)(b B:Nat)(d:Dk):Prop where
 cells:Xp w b (Zwx d)
 hU:∀ k,U k→B≤k∧k<w.heap.size
 ub:U b
 ux:U d.xb
 ugb:U d.gb
 ugl:U d.gl
 um:∀ p∈d.ms,U p.1
 uo:∀ k,d.ov.ownBlock=some k→U k
 dis:(b::d.xb::d.gb::d.gl::d.ms.map Prod.fst).Nodup
 dio:∀ k,d.ov.ownBlock=some k→k ∉ b::d.xb::d.gb::d.gl::d.ms.map Prod.fst
 tbl:Xk w (fun k=>¬ U k) T
 shr:Qc w (fun k=>¬ U k) d.xb d.x
 xok:XOk d.n d.x
 ptr:RdE Zp2 w (fun k=>¬ U k) d.mv (d.ms.map Prod.fst)
 mach:∀ p∈d.ms,Wa w (fun k=>¬ U k) T p.1 p.2∧MOk p.2
 box:Own ssE w B d.bv d.bx
 boxes:∀ (j:Nat) (s:Sl) (l:List ByteArray),d.bx[j]?=some s→d.bs_[j]?=some l→RdE Jr w (fun k=>¬ U k) s.v l∧l.length≤8
 lb:d.bx.length=d.ms.length
 lbs:d.bs_.length=d.ms.length
 ll:d.last.length=d.ms.length
 lm:d.ms.length≤64
 own:Own opE w B d.ov d.ops
 nms:∀ o∈d.ops,Vw w (fun k=>¬ U k) o.1.nv o.1.ns
 lo:d.ops.length≤4096
 n16:∀ o∈d.ops,o.1.ns.length≤16∧I5 o.1
 lown:Own Wb w B d.lv d.last
theorem Zpk{l:List Nat}(nd:l.Nodup){i j x:Nat}(h1:l[i]?=some x)(h2:l[j]?=some x):i=j:=by
 obtain⟨a1,e1⟩:=Zr.1 h1;obtain⟨a2,e2⟩:=Zr.1 h2;have:=Zjh.1 nd;rcases Zi2 i j with h|h|h
 ·exact absurd (e1.trans e2.symm) (this i j a1 a2 h)
 ·exact h
 exact absurd (e2.trans e1.symm) (this j i a2 a1 h)
theorem Wt.step{w w':World}{U:Nat→Prop}{T:Tbl}{b B k mb:Nat}{d:Dk}{m m':Wc}{x':Shr}(h:Wt w U T b B d)(hk:d.ms[k]?=some (mb,m))(c:Chg (fun j=>j=mb∨j=d.xb) w w')
 (hm:Wa w' (fun k=>¬ U k) T mb m') (hok:MOk m') (hx:Qc w' (fun k=>¬ U k) d.xb x') (hxo:XOk (d.n+1) x') :
 Wt w' U T b B {d with x:=x',ms:=d.ms.set k (mb,m'),n:=d.n+1}:=by
 have hum:=h.um _ (Zy hk);have hux:=h.ux;have hS:∀ j,¬ U j→¬ (j=mb∨j=d.xb):=fun j hj=>by rintro(rfl|rfl);exact hj hum;exact hj hux
 have hfst:(d.ms.set k (mb,m')).map Prod.fst=d.ms.map Prod.fst:=by
  rw[Zi4];have hkl:=(Zr.1 hk).1;apply Zhd;intro j;rw[Yv];split
  ·rename_i e;subst e;rw[Zjx (by simpa using hkl),Zn,hk];rfl
  rfl
 have hmem:∀ p∈d.ms.set k (mb,m'),(p∈d.ms∧p.1≠mb)∨p=(mb,m'):=fun p hp=>by
  obtain⟨j,hj⟩:=Zjr hp;rw[Yv]at hj;split at hj
  ·split at hj
   ·exact .inr (Zjy hj).symm
   simp at hj
  rename_i hne;refine .inl ⟨Zy hj,fun e=>?_⟩;have nd:(d.ms.map Prod.fst).Nodup:=(Zja.1 (Zja.1 (Zja.1 (Zja.1 h.dis).2).2).2).2;have h1:(d.ms.map Prod.fst)[k]?=some mb:=by rw[Zn,hk];rfl
  have h2:(d.ms.map Prod.fst)[j]?=some mb:=by rw[Zn,hj,← e];rfl
  exact hne (Zpk nd h1 h2)
 have d0:=Zja.1 h.dis;have d1:=Zja.1 d0.2;have d2:=Zja.1 d1.2;have d3:=Zja.1 d2.2;have hmbm:mb∈d.ms.map Prod.fst:=Zjs.2 ⟨_,Zy hk,rfl⟩;have nb:¬ (b=mb∨b=d.xb):=by
  rintro(e|e)
  ·exact d0.1 (by rw[e];simp[hmbm])
  exact d0.1 (by rw[e];simp)
 have ngb:¬ (d.gb=mb∨d.gb=d.xb):=by
  rintro(e|e)
  ·exact d2.1 (by rw[e];simp[hmbm])
  exact d1.1 (by rw[e];simp)
 have ngl:¬ (d.gl=mb∨d.gl=d.xb):=by
  rintro(e|e)
  ·exact d3.1 (by rw[e];simp[hmbm])
  exact d1.1 (by rw[e];simp)
 have nx:∀ p∈d.ms,p.1≠d.xb:=fun p hp e=>d1.1 (by rw[← e];simp;exact .inr (.inr ⟨_,hp⟩))
 exact {
  cells:=h.cells.chg c nb
  hU:=fun j hj=>⟨(h.hU j hj).1,Zk8 (h.hU j hj).2 c.size⟩
  ub:=h.ub,ux:=h.ux,ugb:=h.ugb,ugl:=h.ugl
  um:=fun p hp=>by rcases hmem p hp with⟨h1,_⟩|rfl;exact h.um p h1;exact hum
  uo:=h.uo
  dis:=by rw[hfst];exact h.dis
  dio:=by rw[hfst];exact h.dio
  tbl:=h.tbl.chg c hS
  shr:=hx
  xok:=hxo
  ptr:=by rw[hfst];exact Rd.chg h.ptr c hS
  mach:=fun p hp=>by
   rcases hmem p hp with⟨h1,h2⟩|rfl
   ·exact⟨(h.mach p h1).1.chg c (by rintro(e|e);exact h2 e;exact nx p h1 e) hS,(h.mach p h1).2⟩
   exact⟨hm,hok⟩
  box:=h.box.chg c (by intro j hj;simp only[Dk.bv,Value.ownBlock,Yd]at hj;subst hj;exact ngb)
  boxes:=fun j s l h1 h2=>⟨Rd.chg (h.boxes j s l h1 h2).1 c hS,(h.boxes j s l h1 h2).2⟩
  lb:=by simpa using h.lb
  lbs:=by simpa using h.lbs
  ll:=by simpa using h.ll
  lm:=by simpa using h.lm
  own:=h.own.chg c (by
   intro j hj;have:=h.dio j hj;rintro(e|e)
   ·exact this (by rw[e];simp[hmbm])
   exact this (by rw[e];simp))
  nms:=fun o ho=>Rd.chg (h.nms o ho) c hS
  lo:=h.lo
  n16:=h.n16
  lown:=h.lown.chg c (by intro j hj;simp only[Dk.lv,Value.ownBlock,Yd]at hj;subst hj;exact ngl)}
open Go.RowKit Go.Sort Go.Shelf
theorem O8{S T:Nat→Prop}(cl cap count client op ttl now:Int)(v rv:Value)(ps:List (Nm×Rc))(w:World)(hl0:1≤ps.length)(hl1:ps.length≤16)(n0:0≤now)(n1:now≤1073741824)(hc0 : -10000000≤count)(hc1:count≤10000000)
 (hn:Vw w S v (ps.map Prod.fst)) (hr:Jv w T rv (ps.map Prod.snd)) :
 Calls prog 72 #[.agg #[.int .i64 cl,.int .i64 cap],.int .i64 client,.int .i64 op,.int .i64 ttl,v,rv,.int .i64 count,.int .i64 now] w fun e w'=>e=.returned (Wu (Wq cap op client ttl now count ps))∧Ext w w':=by
 obtain⟨A,cA,rfl⟩:=hn.shape;obtain⟨_,B,cB,rfl,hB1,hB2,_⟩:=id hr;obtain⟨nn,hnn⟩:=gnX (ps.length);have hm1:(ps.map Prod.fst).length=nn:=by simp[hnn]
 have hm2:(ps.map Prod.snd).length=nn:=by simp[hnn]
 rw[hm1,hm2];have Hm1:=Y4 hm1;have Hm2:=Y4 hm2;have Hnn:=Y4 hnn;rw[hnn]at hl0 hl1;have Hn:=Y4 hn;have Hr:=Y4 hr;clear hn hr hm1 hm2 hnn hB1 hB2;obtain⟨cb,hcb⟩:=gnX (w.heap.size);have Hcb:=Y4 hcb;have kinds:(Wz op=true∧decide (1073741824-now<ttl)=true∧(Wz op=true∧1073741824-now<ttl))∨(Wz op=true∧decide (1073741824-now<ttl)=false∧¬ (Wz op=true∧1073741824-now<ttl))∨(Wz op=false∧True∧¬ (Wz op=true∧1073741824-now<ttl)):=by
  cases hT:Wz op with
  | true =>
   by_cases h:1073741824-now<ttl
   ·exact .inl ⟨rfl,by simpa using h,rfl,h⟩
   exact .inr (.inl ⟨rfl,by simpa using h,fun q=>h q.2⟩)
  | false=>exact .inr (.inr ⟨rfl,trivial,by simp⟩)
 rcases kinds with⟨hT,hov,hno⟩|hrest
 ·have Hj:=Y4 (O7 (cap:=cap) (client:=client) (count:=count) (ps:=ps) hno);clear hno hcb;go_enter func72,ntmps72;go_wp2_with (go_at_call 101;refine(V3 _ _).mono ?_;rintro e w1 ⟨rfl,rfl⟩;rw[hT]);refine Ys (v:=Wu ⟨8,-1,⟨#[]⟩,default,now⟩) (by simp[results,results72,go_sem,Wu,Qp]) rfl ⟨by rw[Hj.o],?_⟩;(repeat refine Ya ?_ (by first|(simp;done)|(simp;omega)) _)
  exact((Yl w).alloc _).alloc _
 rcases hrest with⟨hT,hov,hno⟩ | ⟨hT,hov,hno⟩;all_goals
  have Hno:=Y4 hno;clear hno;go_enter func72,ntmps72;go_wp2_with (go_at_call 101;refine(V3 _ _).mono ?_;rintro e w1 ⟨rfl,rfl⟩;rw[hT]);have hz0:RZ ((w.alloc (.cells #[.int .i64 cl,.int .i64 cap] 37)).alloc (.cells #[.int .i64 0,.int .i64 0,.string ⟨#[]⟩,.int .i64 0,.int .i64 0,.string ⟨#[]⟩,.int .i64 0,.int .i64 0] 53)) (cb+1):=by
   have:=Fz (w.alloc (.cells #[.int .i64 cl,.int .i64 cap] 37));rw[show(w.alloc (.cells #[.int .i64 cl,.int .i64 cap] 37)).heap.size=cb+1 by simp[hcb]]at this;exact this
  have hcf:((w.alloc (.cells #[.int .i64 cl,.int .i64 cap] 37)).alloc (.cells #[.int .i64 0,.int .i64 0,.string ⟨#[]⟩,.int .i64 0,.int .i64 0,.string ⟨#[]⟩,.int .i64 0,.int .i64 0] 53)).cell? ⟨cb,1,none⟩=some (.int .i64 cap):=by rw[← hcb];go_simp
  have hxw:Ext w ((w.alloc (.cells #[.int .i64 cl,.int .i64 cap] 37)).alloc (.cells #[.int .i64 0,.int .i64 0,.string ⟨#[]⟩,.int .i64 0,.int .i64 0,.string ⟨#[]⟩,.int .i64 0,.int .i64 0] 53)):=((Yl w).alloc _).alloc _;have hsz:((w.alloc (.cells #[.int .i64 cl,.int .i64 cap] 37)).alloc (.cells #[.int .i64 0,.int .i64 0,.string ⟨#[]⟩,.int .i64 0,.int .i64 0,.string ⟨#[]⟩,.int .i64 0,.int .i64 0] 53)).heap.size=cb+2:=by simp[hcb]
  obtain⟨W0,hW0⟩:=gnX ((w.alloc (.cells #[.int .i64 cl,.int .i64 cap] 37)).alloc (.cells #[.int .i64 0,.int .i64 0,.string ⟨#[]⟩,.int .i64 0,.int .i64 0,.string ⟨#[]⟩,.int .i64 0,.int .i64 0] 53));rw[hW0]at hz0 hcf hxw hsz;rw[hW0];clear hW0 hcb;have Hz0:=Y4 hz0;have Hcf:=Y4 hcf;have Hxw:=Y4 hxw;have Hsz:=Y4 hsz;clear hz0 hcf hxw hsz;go_loopw [33,6] (fun o s wr=>∃ (i:Nat) (c:Int),i≤nn∧o=.int .i64 (i:Int)∧s=.int .i64 c∧Qt cap op client now count ps i c∧Ext W0 wr) (fun o _ _=>nn-(intOf o).toNat);case atStart=>exact⟨0,count,by omega,rfl,rfl,Qt.start _ _ _ _ _ _,Yl _⟩
  obtain⟨i,c,hi,rfl,rfl,hj,hx⟩:=hrel;have hbd:=hj.bd;have hc2:c≤10000016:=by omega
  have hc3 : -10000000≤c:=by omega
  clear hbd;have Hj:=Y4 hj;have Hx:=Y4 hx;have hcbl:cb+2≤wr.heap.size:=by have:=hx.size;have:=Hsz.o;omega
  have Hwl:=Y4 hcbl;clear hj hx;by_cases hlt:i<nn
  ·have hdc:decide ((i:Int)<(nn:Int))=true:=by simpa using hlt
   obtain⟨⟨n,r⟩,hp⟩:∃ p,ps[i]?=some p:=⟨ps[i]'(by have:=Hnn.o;omega),by simp⟩;have hp1:(ps.map Prod.fst)[i]?=some n:=by rw[Zn,hp];rfl
   have hp2:(ps.map Prod.snd)[i]?=some r:=by rw[Zn,hp];rfl
   have hxr:=Hxw.o.trans Hx.o;obtain⟨g,o,c',hv1,p1,p2,_,b1,hcell⟩:=(Vw.ext Hn.o hxr).get (j:=i) (by rw[Hm1.o];exact hlt);obtain⟨x1,x2,x3⟩:=hcell _ _ hp1;obtain⟨g2,o2,c2',hv2,p3,p4,b2,y0,y1,y2,y3⟩:=Qx (Rd.ext Hr.o hxr) hp2;rw[Hm1.o]at hv1 p1;rw[Hm2.o]at hv2 p3;simp only[Ye,Zjj]at hv1 hv2;obtain⟨rfl,rfl⟩:=hv1;obtain⟨rfl,rfl⟩:=hv2;have i0:(0:Int)≤(i:Int):=by omega
   have i1:(i:Int)<(nn:Int):=by omega
   have Hp:=Y4 hp;have Hxr:=Y4 hxr;clear hcell hp hp1 hp2 hxr;obtain⟨t,ht⟩:=gnX (V8 r.st r.ow r.dl op client now);obtain⟨gr,hgr⟩:=gnX (Xn r.st op);have Hgr:=Y4 hgr;go_wp2_with fail;refine(Zs4 _ _ _ _ _ _ _ _).mono ?_;rintro x w1 ⟨rfl,hy⟩;rw[ht];have e0:w1.cell? ⟨wr.heap.size,0,none⟩=some (.int .i64 r.st):=(hy.cell (by simp)).trans (by go_simp);have e1:w1.cell? ⟨wr.heap.size,1,none⟩=some (.int .i64 r.ow):=(hy.cell (by simp)).trans (by go_simp);have e2:w1.cell? ⟨wr.heap.size,2,none⟩=some (.string r.nm):=(hy.cell (by simp)).trans (by go_simp);have e3:w1.cell? ⟨wr.heap.size,3,none⟩=some (.int .i64 r.dl):=(hy.cell (by simp)).trans (by go_simp);have hx1:Ext wr w1:=((Yl wr).alloc _).trans hy;have x1:=(hx1.cell (p:=⟨g,o+i*3,none⟩) b1).trans x1;have hcf:w1.cell? ⟨cb,1,none⟩=some (.int .i64 cap):=((Hx.o.trans hx1).cell (p:=⟨cb,1,none⟩) (by have:=Hsz.o;simp only;omega)).trans Hcf.o;obtain⟨z0,z1,z2,z3,z4,z5,z6,z7,zf,zl⟩:=Hz0.o.ext (Hx.o.trans hx1);have b3:g<w1.heap.size:=Zk8 b1 hx1.size;have Hx1:=Y4 hx1;have Ht:=Y4 ht;clear hy x2 x3 y0 y1 y2 y3 hx1 ht b2;by_cases ht0:t=0
   ·subst ht0;go_wp2_with fail;refine(Ps _ _ _ _ _ _).mono ?_;rintro x w2 ⟨rfl,hy⟩;rw[hgr];have x1:=(hy.cell (p:=⟨g,o+i*3,none⟩) b3).trans x1;have Hx2:=Y4 (Hx1.o.trans hy);have hcf:w2.cell? ⟨cb,1,none⟩=some (.int .i64 cap):=((Hx.o.trans Hx2.o).cell (p:=⟨cb,1,none⟩) (by have:=Hsz.o;simp only;omega)).trans Hcf.o;clear z0 z1 z2 z3 z4 z5 z6 z7 zf zl;obtain⟨z0,z1,z2,z3,z4,z5,z6,z7,zf,zl⟩:=Hz0.o.ext (Hx.o.trans Hx2.o);have b4:g<w2.heap.size:=Zk8 b3 hy.size;clear hy e0 e1 e2 e3 hgr Hx1;have K:(decide (0<gr)=true∧decide (cap≤c)=true∧(0<gr∧cap≤c))∨(decide (0<gr)=true∧decide (cap≤c)=false∧(0<gr∧¬ cap≤c))∨(decide (0<gr)=false∧¬ 0<gr):=by
     by_cases h1:0<gr
     ·by_cases h2:cap≤c
      ·exact .inl ⟨by simpa using h1,by simpa using h2,h1,h2⟩
      exact .inr (.inl ⟨by simpa using h1,by simpa using h2,h1,h2⟩)
     exact .inr (.inr ⟨by simpa using h1,h1⟩)
    rcases K with⟨k1,k2,k3,k4⟩ | ⟨k1,k2,k3,k4⟩ | ⟨k1,k3⟩
    ·have hone:=Mv (cap:=cap) (c:=c) Ht.o (by rw[Hgr.o];exact k3) k4;have Hst:=Y4 (Jd Hno.o (Hj.o.stop (p:=(n,r)) Hp.o (by rw[hone];decide)));simp only at Hst;rw[hone]at Hst;clear hone k3 k4;go_wp2_with fail;refine Ys (v:=Wu ⟨7,i,n.a,default,now⟩) (by simp[results,results72,go_sem,Wu,Qp, *]) rfl ⟨by rw[Hst.o],?_⟩;(repeat refine Ya ?_ (by first|(have:=Hcb.o;simp;omega)|(have:=Hcb.o;simp only;omega)) _)
     exact Hxr.o.trans Hx2.o
    ·have hone:=Eo (cap:=cap) (c:=c) Ht.o (fun q=>k4 q.2);have hj1:=Hj.o.next (p:=(n,r)) Hp.o hone;have q2:Jo op c r=c+1:=by unfold Jo;rw[Hgr.o,Zjx k3]
     simp only at hj1;rw[q2]at hj1;have Hj1:=Y4 hj1;have Hend:=Y4 (Hx.o.trans Hx2.o);clear hone hj1 q2 k3 k4 z0 z1 z2 z3 z4 z5 z6 z7 zf zl;go_wp2_with fail;go_roundw;case rel=>exact⟨i+1,_,by omega,by go_num,rfl,Hj1.o,Hend.o⟩
     simp[intOf];omega
    have hone:=Eo (cap:=cap) (c:=c) Ht.o (fun q=>k3 (by have:=q.1;rw[Hgr.o]at this;exact this));have hj1:=Hj.o.next (p:=(n,r)) Hp.o hone;have q2:Jo op c r=c:=by unfold Jo;rw[Hgr.o,Zk9 k3]
    simp only at hj1;rw[q2]at hj1;have Hj1:=Y4 hj1;have Hend:=Y4 (Hx.o.trans Hx2.o);clear hone hj1 q2 k3 z0 z1 z2 z3 z4 z5 z6 z7 zf zl;go_wp2_with fail;go_roundw;case rel=>exact⟨i+1,_,by omega,by go_num,rfl,Hj1.o,Hend.o⟩
    simp[intOf];omega
   have ht1:(t==0)=false:=by simpa using ht0
   have hone:=Rs (cap:=cap) (c:=c) Ht.o ht0;have Hst:=Y4 (Jd Hno.o (Hj.o.stop (p:=(n,r)) Hp.o (by rw[hone];exact ht0)));simp only at Hst;rw[hone]at Hst;clear hone ht0 e0 e1 e2 e3 hgr;go_wp2_with fail;refine Ys (v:=Wu ⟨t,i,n.a,default,now⟩) (by simp[results,results72,go_sem,Wu,Qp, *]) rfl ⟨by rw[Hst.o],?_⟩;(repeat refine Ya ?_ (by first|(have:=Hcb.o;simp;omega)|(have:=Hcb.o;simp only;omega)) _)
   exact Hxr.o.trans Hx1.o
  have hdc:decide ((i:Int)<(nn:Int))=false:=by simp;omega
  obtain rfl:i=nn:=by omega
  have Hdone:=Y4 (show Vk cap op client now 0 count ps=none from by
   have:=Hj.o;rw[← Hnn.o]at this;exact this.done)
  obtain⟨⟨n,r⟩,ps',rfl⟩:∃ p ps',ps=p::ps':=by
   cases ps with
   | nil=>have:=Hnn.o;simp at this;omega
   | cons p ps'=>exact⟨p,ps',rfl⟩
  have Hjf:=Y4 (Dj Hno.o Hdone.o);simp only at Hjf;obtain⟨z0,z1,z2,z3,z4,z5,z6,z7,zf,zl⟩:=Hz0.o.ext Hx.o;by_cases h7:op=7
  ·subst h7;obtain⟨g2,o2,c2',hv2,p3,p4,b2,y0,y1,y2,y3⟩:=Qx (Rd.ext Hr.o (Hxw.o.trans Hx.o)) (j:=0) (r:=r) rfl;rw[Hm2.o]at hv2 p3;simp only[Ye,Zjj]at hv2;obtain⟨rfl,rfl⟩:=hv2;simp only[Zfv,Zix]at y0 y1 y2 y3;have i1:(0:Int)<(i:Int):=by omega
   obtain⟨lv,hlv⟩:=gnX (Uw r.st r.dl now);go_wp2_with fail;refine(Iz _ _ _ _ _ _).mono ?_;rintro x w5 ⟨rfl,hy⟩;rw[hlv];have Hy:=Y4 (((Yl wr).alloc _).trans hy);have t0:w5.cell? ⟨wr.heap.size,0,none⟩=some (.int .i64 0):=(hy.cell (by simp)).trans (by go_simp);have t1:w5.cell? ⟨wr.heap.size,1,none⟩=some (.int .i64 (-1)):=(hy.cell (by simp)).trans (by go_simp);have t2:w5.cell? ⟨wr.heap.size,2,none⟩=some (.string ⟨#[]⟩):=(hy.cell (by simp)).trans (by go_simp);have t3:w5.cell? ⟨wr.heap.size,3,none⟩=some (.int .i64 0):=(hy.cell (by simp)).trans (by go_simp);have t4:w5.cell? ⟨wr.heap.size,4,none⟩=some (.int .i64 0):=(hy.cell (by simp)).trans (by go_simp);have t5:w5.cell? ⟨wr.heap.size,5,none⟩=some (.string ⟨#[]⟩):=(hy.cell (by simp)).trans (by go_simp);have t6:w5.cell? ⟨wr.heap.size,6,none⟩=some (.int .i64 0):=(hy.cell (by simp)).trans (by go_simp);have t7:w5.cell? ⟨wr.heap.size,7,none⟩=some (.int .i64 now):=(hy.cell (by simp)).trans (by go_simp);have tf:∀ j,w5.frozen? ⟨wr.heap.size,j,none⟩=false:=fun j=>(hy.frozen (by simp)).trans (by go_simp)
   have tl:wr.heap.size<w5.heap.size:=Zk8 (by simp) hy.size;clear z0 z1 z2 z3 z4 z5 z6 z7 zf zl;obtain⟨z0,z1,z2,z3,z4,z5,z6,z7,zf,zl⟩:=Hz0.o.ext (Hx.o.trans Hy.o);have y0:=(Hy.o.cell (p:=⟨g2,o2,none⟩) b2).trans y0;have y1:=(Hy.o.cell (p:=⟨g2,o2+1,none⟩) b2).trans y1;have y2:=(Hy.o.cell (p:=⟨g2,o2+2,none⟩) b2).trans y2;have y3:=(Hy.o.cell (p:=⟨g2,o2+3,none⟩) b2).trans y3;have hne:¬ wr.heap.size=cb+1:=by omega
   have Hlv:=Y4 hlv;clear hy hlv;cases lv with
   | true =>
    have Hj':=Y4 (show Wq cap 7 client ttl now count ((n,r)::ps')=⟨0,-1,⟨#[]⟩,r,now⟩ by rw[Hjf.o];simp[Hlv.o]);clear Hjf;go_wp2_with fail;refine Ys (v:=Wu ⟨0,-1,⟨#[]⟩,r,now⟩) (by simp[results,results72,go_sem,Wu, *]) rfl ⟨by rw[Hj'.o],?_⟩;(repeat refine Ya ?_ (by first|(have:=Hcb.o;simp;omega)|(have:=Hcb.o;have:=Hwl.o;simp only;omega)) _)
    exact(Hxw.o.trans Hx.o).trans Hy.o
   | false =>
    have Hj':=Y4 (show Wq cap 7 client ttl now count ((n,r)::ps')=⟨0,-1,⟨#[]⟩,default,now⟩ by rw[Hjf.o];simp[Hlv.o]);clear Hjf;go_wp2_with fail;refine Ys (v:=Wu ⟨0,-1,⟨#[]⟩,default,now⟩) (by simp[results,results72,go_sem,Wu,Qp, *]) rfl ⟨by rw[Hj'.o],?_⟩;(repeat refine Ya ?_ (by first|(have:=Hcb.o;simp;omega)|(have:=Hcb.o;have:=Hwl.o;simp only;omega)) _)
    exact(Hxw.o.trans Hx.o).trans Hy.o
  have h7':(op==7)=false:=by simpa using h7
  have Hj':=Y4 (show Wq cap op client ttl now count ((n,r)::ps')=⟨0,-1,⟨#[]⟩,default,now⟩ by rw[Hjf.o,Zk9 fun q=>h7 q.1]);clear Hjf h7;go_wp2_with fail;refine Ys (v:=Wu ⟨0,-1,⟨#[]⟩,default,now⟩) (by simp[results,results72,go_sem,Wu,Qp, *]) rfl ⟨by rw[Hj'.o],?_⟩;refine Yk ?_ _;(repeat refine Ya ?_ (by first|(have:=Hcb.o;simp;omega)|(have:=Hcb.o;have:=Hwl.o;simp only;omega)) _)
  exact Hxw.o.trans Hx.o
theorem Tu{S T:Nat→Prop}(cl cap count client op ttl now:Int)(v rv:Value)(ps:List (Nm×Rc))(w:World)(hp:Oq cl client op ttl now (ps.map Prod.fst))(hc0:0≤count)(hc1:count≤1000000)
 (hn:Vw w S v (ps.map Prod.fst)) (hr:Jv w T rv (ps.map Prod.snd)) :
 Calls prog 72 #[.agg #[.int .i64 cl,.int .i64 cap],.int .i64 client,.int .i64 op,.int .i64 ttl,v,rv,.int .i64 count,.int .i64 now] w fun e w'=>e=.returned (Wu (Wq cap op client ttl now count ps))∧Ext w w':=by
 have hl0:=hp.l0;have hl1:=hp.l1;rw[Zq]at hl0 hl1;exact O8 cl cap count client op ttl now v rv ps w hl0 hl1 hp.n0 hp.n1 (by omega) (by omega) hn hr
def Zpc(r:Rc):Int:=if r.st=1 then r.ow else -1
theorem Zsn{S:Nat→Prop}(xb:Nat)(x:Shr)(key:ByteArray)(w:World)(h:Qc w S xb x):Calls prog 150 #[.pointer (some ⟨xb,0,none⟩),.string key] w fun e w'=>e=.returned (.int .i64 (Zpc (Xg x.ks key)))∧Ext w w':=by
 have c4:=h.cells.at_ 4 (by simp[Zlg]);have c4':w.cell? ⟨xb,4,none⟩=some x.kv:=c4;obtain⟨A,C,hv⟩:=h.ks.shape;rw[hv]at c4';have Hk:=Y4 (show KeptAt w S (.slice A x.ks.length C) x.ks by rw[← hv];exact h.ks);have Hlt:=Y4 h.cells.lt;obtain⟨z,hz⟩:=gnX (Zpc (Xg x.ks key));have Hz:=Y4 hz;rw[hz];clear c4 h hv hz;go_enter func150,ntmps150;go_wp2_with fail;refine(Rl _ x.ks key _ Hk.o).mono ?_;rintro e w1 ⟨rfl,hx1⟩;obtain⟨r,hr⟩:=gnX (Xg x.ks key);rw[hr];have hz:=Hz.o;rw[hr]at hz;obtain⟨st,ow,nm,dl⟩:=r;unfold rcV;unfold Zpc at hz;have Hz:=Y4 hz;clear hr hz;cases hs:(st==1)
 ·have e:z = -1:=by rw[← Hz.o,Zk9 (by simpa using hs)]
  subst e;go_wp2_with fail;go_ret;exact⟨rfl,hx1.alloc _⟩
 have e:z=ow:=by rw[← Hz.o,Zjx (by simpa using hs)]
 subst e;go_wp2_with fail;go_ret;exact⟨rfl,hx1.alloc _⟩
theorem Zs8{S:Nat→Prop}(xb:Nat)(x:Shr)(key:ByteArray)(w:World)(h:Qc w S xb x):Calls prog 152 #[.pointer (some ⟨xb,0,none⟩),.string key] w fun e w'=>e=.returned (rcV (Xg x.rs key))∧Ext w w':=by
 have c5:w.cell? ⟨xb,5,none⟩=some x.rv:=h.cells.at_ 5 (by simp[Zlg]);obtain⟨A,C,hv⟩:=h.rs.shape;rw[hv]at c5;have Hk:=Y4 (show KeptAt w S (.slice A x.rs.length C) x.rs by rw[← hv];exact h.rs);have hlt:=h.cells.lt;have hb:=Xp.new w #[.int .i64 0,.int .i64 0,.string ⟨#[]⟩,.int .i64 0] 51;have HX:=Y4 ((Yl w).alloc (.cells #[.int .i64 0,.int .i64 0,.string ⟨#[]⟩,.int .i64 0] 51));have HB:=Y4 hb;clear h hv hb;go_enter func152,ntmps152;go_wp2_with fail;refine(Rl _ x.rs key _ (Rd.ext Hk.o HX.o)).mono ?_;rintro e w1 ⟨rfl,hx1⟩;obtain⟨r,hr⟩:=gnX (Xg x.rs key);rw[hr];obtain⟨st,ow,nm,dl⟩:=r;have hb1:=HB.o.ext hx1;have k0:=hb1.at_ 0 (by simp);have k1:=hb1.at_ 1 (by simp);have k2:=hb1.at_ 2 (by simp);have k3:=hb1.at_ 3 (by simp);have fz:=hb1.fz;simp only[Zx,Zw]at k0 k1 k2 k3;unfold rcV;have HX1:=Y4 (HX.o.trans hx1);clear hx1 hb1;go_wp2_with fail;refine Ys (v:=.agg #[.int .i64 st,.int .i64 ow,.string nm,.int .i64 dl]) (by simp[results,results152,go_sem, *]) rfl ⟨by rw[hr];rfl,?_⟩;(repeat refine Ya ?_ (by first|exact Yn _|(simp;done)|(simp;omega)) _)
 exact HX1.o
def Qb(m:Wc)(n:Nat)(next:Int):Wc:=if m.i+1=n then {m with i:=0,st:=next}else {m with i:=m.i+1}
theorem Fj(T:Tbl)(b:Nat)(m:Wc)(next:Int)(A:Option Addr)(n C:Nat)(w:World)(h:Xp w b (machC T m))(hl:m.lv=.slice A n C)(hi:0≤m.i)(hi2:m.i<n)(hn:n≤16) :
 Calls prog 151 #[.pointer (some ⟨b,0,none⟩),.int .i64 next] w fun e w'=>e=.returned (.int .i64 1)∧Xp w' b (machC T (Qb m n next))∧Chg (· = b) w w':=by
 have c27:w.cell? ⟨b,27,none⟩=some (.int .i64 m.i):=h.at_ 27 (by simp[machC]);have fz:=h.fz;obtain⟨I,hI⟩:=gnX (m.i+1);have r1:IntKind.i64.wrap (m.i+1)=I:=by rw[Yp _ (by omega)];exact hI
 have h1:=h.set (j:=27) (by simp[machC]) (.int .i64 I);have HC1:=Y4 ((Chg.refl (· = b) w).setCell (p:=⟨b,27,none⟩) (.inl rfl) (.int .i64 I));have d27:(w.setCell ⟨b,27,none⟩ (.int .i64 I)).cell? ⟨b,27,none⟩=some (.int .i64 I):=h1.at_ 27 (by simp[machC]);have d17:(w.setCell ⟨b,27,none⟩ (.int .i64 I)).cell? ⟨b,17,none⟩=some (.slice A n C):=by rw[← hl];exact h1.at_ 17 (by simp[machC])
 have m27:=lat d27;have m17:=lat d17;have H1:=Y4 h1;have hlt:=h.lt;have HI:=Y4 hI;clear h1 d27 d17 h hl;go_enter func151,ntmps151;go_upto_region 2 with fail;obtain⟨W1,hW1⟩:=gnX (w.setCell ⟨b,27,none⟩ (.int .i64 I));rw[hW1]at H1 HC1 m27 m17;rw[hW1];clear hW1 c27 fz r1;by_cases hl:I=n
 ·have e1:(I==(n:Int))=true:=by simp[hl]
  have hun:=Yb;refine Y8 (by kernel_rfl) (by kernel_rfl) ?_;repeat((with_reducible refine Yu ?_);intro K hK;go_simp;(with_reducible refine hK _ ?_);clear hK K)
  (with_reducible refine Yt ?_)
  intro w9 hy9;clear hun;try simp only[Yc]
  have h9:=H1.o.ext hy9;have k27:=h9.at_ 27 (by simp[machC]);have k13:=h9.at_ 13 (by simp[machC]);have fz:=h9.fz;simp only[machC,Zt,Zu,Zx,Zw]at k27 k13;have HY:=Y4 hy9;clear h9 hy9;go_wp2_with fail;go_ret;refine⟨rfl,?_,?_⟩
  ·rw[show Qb m n next={m with i:=0,st:=next} from Zjx (by rw[HI.o];exact hl)];have:=((H1.o.ext HY.o).set (j:=27) (by simp[machC]) (.int .i64 0)).set (j:=13) (by simp[machC]) (.int .i64 next);exact this
  exact((HC1.o.trans (HY.o.chg _)).setCell (p:=⟨b,27,none⟩) (.inl rfl) _).setCell (p:=⟨b,13,none⟩) (.inl rfl) _
 have e1:(I==(n:Int))=false:=by simp[hl]
 have hun:=Yb;refine Y8 (by kernel_rfl) (by kernel_rfl) ?_;repeat((with_reducible refine Yu ?_);intro K hK;go_simp;(with_reducible refine hK _ ?_);clear hK K)
 (with_reducible refine Yt ?_)
 intro w9 hy9;clear hun;try simp only[Yc]
 go_wp2_with fail;go_ret;refine⟨rfl,?_,HC1.o.trans (hy9.chg _)⟩;rw[show Qb m n next={m with i:=m.i+1} from Zk9 (by rw[HI.o];exact hl)];have:=H1.o.ext hy9;rw[← HI.o]at this;exact this
def V0(cl:Int)(text:ByteArray):Wc:=⟨cl,1,text,0,0,.slice none 0 0,[],.slice none 0 0,[],⟨0,0,⟨#[]⟩,⟨0,0,⟨#[]⟩,0⟩,0⟩,0⟩
def Zkz(m:Wc):List Value:=[.int .i64 m.cl,.int .i64 m.st,.string m.text,.int .i64 m.op,.int .i64 m.ttl,m.lv,m.rv,.int .i64 m.ans.e,.int .i64 m.ans.at_,.string m.ans.nm,.int .i64 m.ans.rc.st,.int .i64 m.ans.rc.ow,.string m.ans.rc.nm,.int .i64 m.ans.rc.dl,.int .i64 m.ans.tick,.int .i64 m.i]
theorem Zyb(T:Tbl)(m:Wc):machC T m=Qj T++Zkz m:=rfl
theorem Zt1{w:World}{b:Nat}{T:Tbl}{m:Wc}(h:Xp w b (machC T m)):J4 w b T :=
 ⟨h.lt,fun k hk=>by rw[h.at_ k (by show k<28;omega),Zyb,Ze hk]⟩
theorem Zps{w:World}{S:Nat→Prop}{T:Tbl}{m:Wc}(hT:Xk w S T)(h1:m.lv.oneCell'=true)(h2:m.rv.oneCell'=true):∀ v∈machC T m,v.oneCell'=true:=fun v hv=>by
 rw[Zyb,Zj]at hv;rcases hv with hv|hv
 ·exact Zrm hT v hv
 simp only[Zkz,Zg,Zh,Zin]at hv;rcases hv with rfl|rfl|rfl|rfl|rfl|rfl|rfl|rfl|rfl|rfl|rfl|rfl|rfl|rfl|rfl|rfl;all_goals first|rfl|exact h1|exact h2
theorem Ztm:(prog.info? 163).map (·.size)=some 28:=by kernel_rfl
theorem Zuh{S:Nat→Prop}(T:Tbl)(b:Nat)(m:Wc)(text:ByteArray)(w:World)(h:Xp w b (machC T m))(hT:Xk w S T)(hs:m.st=0) :
 Calls prog 114 #[.pointer (some ⟨b,0,none⟩),.string text] w fun e w'=>e=.returned (.int .i64 0)∧Xp w' b (machC T (V0 m.cl text))∧Chg (· = b) w w':=by
 have z13:w.cell? ⟨b,13,none⟩=some (.int .i64 m.st):=h.at_ 13 (by simp[machC]);have z12:w.cell? ⟨b,12,none⟩=some (.int .i64 m.cl):=h.at_ 12 (by simp[machC]);rw[hs]at z13;have m12:=lat z12;have hC:∀ w',(∃ p:Vz,w'=later w p.n p.os)→J4 w' b T:=fun w' ⟨p,e⟩=>by rw[e];exact(Zt1 h).ext (⟨_,_,rfl⟩)
 have hone:=all_oneCell_toArray (Zps (m:=V0 m.cl text) hT rfl rfl);have H:=Y4 h;clear h hT hs;go_enter func114,ntmps114;go_upto_region 3 with fail;clear z12 z13;refine Wy 11 13 (by kernel_rfl) (by omega) (by kernel_rfl) (by kernel_rfl) (by kernel_rfl) ?_;simp only[Z6,Z7,Z8,Z9];repeat(first|((with_reducible refine Xi ?_ ?_ hC ?_);(focus(go_simp;done));rfl)|((with_reducible refine Yu ?_);intro K hK;go_simp;(with_reducible refine hK _ ?_);clear hK K))
 unfold Vn;((with_reducible refine Yu ?_);intro K hK;go_simp;(with_reducible refine hK _ ?_);clear hK K)
 (with_reducible refine Yt ?_)
 intro w9 hy9;have H9:=Y4 (H.o.ext hy9);have Y9:=Y4 hy9;have hth:=H9.o.there (o:=0) (n:=28) (Yn _);clear hy9 m12 hC;go_wp2_with (refine Zhk rfl _ _ _ rfl b 0 (machC T (V0 m.cl text)).toArray rfl rfl hth (by rw[Ztm];rfl) hone ?_);have HZ:=Y4 (H9.o.mid (o:=0) (vs:=machC T (V0 m.cl text)) (cs':=machC T (V0 m.cl text)) (Yn _) rfl);have CZ:=Y4 (Xl (S:=(· = b)) (b:=b) (.inl rfl) (vs:=machC T (V0 m.cl text)) (o:=0) (Y9.o.chg (· = b)));obtain⟨W,hW⟩:=gnX (w9.setCells b 0 (machC T (V0 m.cl text)));rw[hW]at HZ CZ;rw[show w9.setCells b 0 (machC T (V0 m.cl text)).toArray.toList=W from hW];clear hW hth hone H9 Y9;go_wp2_with fail;go_ret;exact⟨rfl,HZ.o,CZ.o⟩
def Zv1(cl cp:Int):Shr:=⟨cl,cp,0,0,.slice none 0 0,[],.slice none 0 0,[]⟩
theorem Rt(cl cp:Int)(hc:V7 cl cp=0)(w:World):Calls prog 76 #[.agg #[.int .i64 cl,.int .i64 cp]] w fun e w'=>∃ b,e=.returned (.tuple #[.pointer (some ⟨b,0,none⟩),.int .i64 0])∧Xp w' b (Zlg (Zv1 cl cp))∧w.heap.size≤b∧Ext w w':=by
 have Hc:=Y4 hc;clear hc;go_enter func76,ntmps76;go_wp2_with fail;refine(Bn cl cp _).mono ?_;rintro x w1 ⟨rfl,hx1⟩;rw[Hc.o];have k0:w1.cell? ⟨w.heap.size,0,none⟩=some (.int .i64 cl):=(hx1.cell (by simp)).trans (by go_simp);have k1:w1.cell? ⟨w.heap.size,1,none⟩=some (.int .i64 cp):=(hx1.cell (by simp)).trans (by go_simp);have Hx1:=Y4 (((Yl w).alloc _).trans hx1);clear hx1;go_wp2_with fail;go_ret2;exact⟨w1.heap.size,rfl,Xp.new w1 _ _,Hx1.o.size,Hx1.o.alloc _⟩
def Ru(cl:Int):Wc:=⟨cl,0,⟨#[]⟩,0,0,.slice none 0 0,[],.slice none 0 0,[],⟨0,0,⟨#[]⟩,⟨0,0,⟨#[]⟩,0⟩,0⟩,0⟩
theorem Zzo{S:Nat→Prop}(T:Tbl)(hg:Fv T)(k:Nat)(hk:k<64)(w:World)(h:Xk w S T):Calls prog 77 #[Vn T,.int .i64 (k:Int)] w fun e w'=>∃ b,e=.returned (.tuple #[.pointer (some ⟨b,0,none⟩),.int .i64 0])∧Xp w' b (machC T (Ru k))∧w.heap.size≤b∧Ext w w':=by
 have G:=Y4 hg;clear hg;have X0:=Y4 ((Yl w).alloc (Wx T));have H:=Y4 (h.up X0.o);have Hb0:=Y4 (Xm w T);clear h;have q1:decide ((k:Int)<0)=false:=Yg;have q2:decide ((64:Int)≤(k:Int))=false:=Yg;go_enter func77,ntmps77;go_wp2_with (first|(refine Xw rfl ?_)|(refine Xz Hb0.o rfl ?_));refine(Dw T G.o _ H.o).mono ?_;rintro e w1 ⟨rfl,hx1⟩;have Hx1:=Y4 hx1;clear hx1;go_wp2_with (refine Xz (Hb0.o.ext Hx1.o) rfl ?_;unfold Vn);go_ret2;exact⟨w1.heap.size,rfl,Xp.new w1 _ _,(X0.o.trans Hx1.o).size,(X0.o.trans Hx1.o).alloc _⟩
