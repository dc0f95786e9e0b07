/- Lemmas of this claim: DuP, Kt, Ran. Conditions: as named. -/
import Derived.Test.YtnbclgbicnpmnaaGreatA39
import Derived.Test.YtnbclgbicnpmnaaGreatA43
import Derived.Test.YtnbclgbicnpmnaaGreatA44
namespace Go.Proofs.YtnbclgbicnpmnaaGreat
open Go.RowKit Go.Sort Tryz
set_option maxHeartbeats 0
set_option maxRecDepth 100000
set_option linter.all false
theorem Rd.ne_blk{w:World}{S:Nat→Prop}{z n rb:Nat}{v:Value}{xs:List Value}(h:Rd w S z v n xs)(h00:xs=[]→n=0)(hne:∀ (o:Nat) u,xs[0]?=some u→w.cell? ⟨rb,o,none⟩≠some u):Rd w (fun k=>S k∧k≠rb) z v n xs:=by
 obtain⟨h1,A,c,hv,h2,h3,h4⟩:=h;refine⟨h1,A,c,hv,h2,h3,fun h0=>?_⟩;obtain⟨g,o,e,hS,hg,hc⟩:=h4 h0;refine⟨g,o,e,⟨hS,fun e2=>?_⟩,hg,hc⟩;subst e2;cases xs with
 | nil=>have:=h00 rfl;omega
 | cons u r=>exact absurd (hc 0 u rfl) (hne _ u rfl)
theorem Zl5{w:World}{b:Nat}{cs:Array Value}{t:TypeId}(h:w.heap[b]?=some (.cells cs t)):Xp w b cs.toList :=
 ⟨(Zjz.1 h).1,fun k=>by simp[World.frozen?,h],fun k hk=>by simp only[World.cell?,h];simp⟩
theorem Zsy{ns:List Nm}{u:Value}(h:(Wm ns)[0]?=some u):∃ s,u=.string s:=by
 cases ns with
 | nil=>simp[Wm]at h
 | cons n r =>
  have h1:some (Value.string n.a)=some u:=h;exact⟨_,(Zjy h1).symm⟩
theorem Kd.extE{w w':World}{a:Option Addr}{len:Nat}(h:Kd w a len)(x:Ext w w'):Kd w' a len:=by
 obtain⟨h1,h2⟩:=h;refine⟨h1,fun hl=>?_⟩;obtain⟨y,e,hy,hc⟩:=h2 hl;refine⟨y,e,Zk8 hy x.size,fun j hj=>?_⟩;obtain⟨z,hz,hi⟩:=hc j hj;exact⟨z,(x.cell (by rw[add_block];exact hy)).trans hz,hi⟩
theorem Zu5(w:World)(b:Nat)(A:Option Addr)(n C:Nat)(c3:w.cell? ⟨b,3,none⟩=some (.slice A n C)):Calls prog 34 #[.pointer (some ⟨b,0,none⟩)] w fun e w'=>e=.returned (.slice A n C)∧w=w':=by
 go_enter func34,ntmps34;go_wp2_with fail;go_ret;exact⟨rfl,rfl⟩
theorem Wt.opsFar{w w':World}{U:Nat→Prop}{T:Tbl}{b B rb:Nat}{d:Dk}{cs:Array Value}{t:TypeId}{fr:Nat×Nat}(D:Wt w U T b B d)(hrB:rb<B)(R:w.heap[rb]?=some (.cells cs t fr))(hcs:∀ u∈cs,∀ s,u≠.string s)(c:Chg (· = rb) w w'):V6 w' (fun _=>True) d.ov (d.ops.map Subtype.val):=by
 have h1:=Own.rd (E:=opE) D.own;refine⟨?_,fun o ho=>?_⟩
 ·rw[Zq];exact Rd.mono (Rd.chg h1 c (fun q hq e=>by have:B≤q:=hq;omega)) fun _ _ _=>trivial
 obtain⟨x,hx,rfl⟩:=Zjs.1 ho;have hn:=D.nms x hx;exact Rd.mono (Rd.chg (Rd.ne_blk hn (fun e=>by cases hns:x.1.ns with|nil=>rfl|cons a r=>rw[hns]at e;simp[Wm,Df]at e) (fun o u hu hc=>by
  obtain⟨s',hs'⟩:=Zsy hu;simp only[World.cell?,R]at hc;exact hcs u (Array.mem_of_getElem? hc) s' hs')) c (fun q hq e=>hq.2 e)) fun _ _ _=>trivial
structure Pi(w wx:World)(b:Nat)(v:Value)(l:List Zyu):Prop where
 src:Src w.heap.size wx b
 ext:Ext w wx
 own:Own Zx2 wx (b+1) v l
theorem Pi.next{w w1 w2:World}{b B:Nat}{v:Value}{l:List Zyu}(h:Pi w w1 b v l)(hb:w.heap.size=b)(t:Vx w.heap.size B w1 w2)(hB:B=b:=by rfl):Pi w w2 b v l:=by
 subst hB;exact⟨t.src,h.ext.chg_new t.chg (fun i hi=>by omega),h.own.chg t.chg (fun k hk e=>by have:=(h.own.lt k hk).1;omega)⟩
theorem Pi.grow{w w1 w5:World}{b:Nat}{v:Value}{l l':List Zyu}{o:Obj}{A:Option Addr}{n c:Nat}(h:Pi w w1 b v l)(hb:w.heap.size=b)(hg:Grew Zx2 (w1.alloc o) (b+1) v l' A n c w5):Pi w w5 b (.slice A n c) l':=by
 have hlt:∀ k,v.ownBlock=some k→b+1≤k:=fun k hk=>(h.own.lt k hk).1
 exact⟨(h.src.alloc o).chg hg.chg (fun e=>by have:=hlt b e;omega) (fun k hk e=>by have:=hlt k e;omega),(h.ext.alloc o).chg_new hg.chg (fun i hi=>by have:=hlt i hi;omega),hg.own⟩
theorem F9(w:World)(a b c:Int)(s:ByteArray)(t:TypeId)(g:Nat)(hg:w.heap.size=g):RdE Zx2 (w.alloc (.cells #[.int .i64 a,.int .i64 b,.int .i64 c,.string s] t)) (fun _=>True) (.slice (some ⟨g,0,none⟩) 1 1) [⟨a,b,c,s⟩]:=by
 subst hg;exact Qr w #[.int .i64 a,.int .i64 b,.int .i64 c,.string s] t 4 rfl
def Zxa(w:World)(e:Ending)(w':World):Prop:=∃ (v:Value) (l:List Zyu),e=.returned v∧RdE Zx2 w' (fun k=>w.heap.size≤k) v l∧l.length≤65∧Ext w w'
theorem Zzw(a:Option Addr)(len cap:Nat)(w:World)(hrow:Kd w a len):Calls prog 12 #[.slice a len cap] w (Zxa w):=by
 obtain⟨b,hb⟩:=gnX (w.heap.size);have Hbw:=Y4 hb;have S0:=Y4 (show Pi w (w.alloc (.cells #[.slice a len cap,.int .i64 0] 165)) b (.slice none 0 0) [] from⟨by have:=Gy (cap:=cap) hrow (Yl w);rw[← hb];exact this,(Yl w).alloc _,Own.nil _ _ _⟩);clear hrow;go_enter func12,ntmps12;go_wp2_with fail;refine(P8 _ _ _ _).mono ?_;rintro e w0 ⟨rfl,rfl⟩;obtain⟨W0,hW0⟩:=gnX (w.alloc (.cells #[.slice a len cap,.int .i64 0] 165));rw[hW0]at S0⊢;rw[hb];clear hW0;go_wp2_with fail;go_loopw [4] (fun u wr=>∃ l:List Zyu,l.length≤65∧Pi w wr b u l) (fun u _=>100-sliceLen u);case atStart=>exact⟨[],by simp,S0.o⟩
 clear S0;obtain⟨l,hl,hS⟩:=hrel;obtain⟨A,C,rfl,hlC,hC⟩:=hS.own.shape;obtain⟨m,hm⟩:=gnX (l.length);rw[hm]at hS hlC hl⊢;have Hm:=Y4 hm;have S1:=Y4 hS;clear hS hm;unfold maxLen at hC;go_wp2_with fail;refine(Ztd b _ _ S1.o.src).mono ?_;rintro e w1 ⟨⟨q,rfl⟩,hs,hc⟩;have S9:=Y4 (S1.o.next Hbw.o ⟨hs,hc⟩);clear hs hc;cases q with
 | false =>
  go_wp2_with fail;go_ret;exact⟨_,l,rfl,by rw[← Hm.o];exact Rd.mono (show RdE Zx2 w1 (fun k=>b+1≤k) (.slice A l.length C) l by have:=S9.o.own.rd;rw[Hm.o];exact this) fun k hk _=>by have:=Hbw.o;omega,by rw[Hm.o];exact hl,S9.o.ext⟩
 | true =>
  by_cases h60:m<60
  ·have d1:decide ((m:Int)<60)=true:=Yf;go_wp2_with fail;refine(Xh b 8 (by omega) (by omega) _ _ S9.o.src).mono ?_;rintro e w2 ⟨v,hv,rfl,h⟩;have S2:=Y4 (S9.o.next Hbw.o h);clear h;by_cases hv0:v=0
   ·subst hv0;go_wp2_with fail;refine(Xh b 4 (by omega) (by omega) _ _ S2.o.src).mono ?_;rintro e w3 ⟨v3,hv3,rfl,h⟩;have S3:=Y4 (S2.o.next Hbw.o h);clear h;go_wp2_with fail;refine(Mi _ b _ S3.o.src).mono ?_;rintro e w4 ⟨t,rfl,ht,h⟩;have S4:=Y4 (S3.o.next Hbw.o h);clear h;go_wp2_with (at_builtin;refine Xt Zx2 _ _ _ rfl rfl rfl rfl (S4.o.own.ext ((Yl _).alloc _)) rfl (F9 _ 1 (v3:Int) 0 t _ _ rfl) (by rw[Hm.o];show _+1≤_;omega) (by show 40≤1000;omega) (by have:=S4.o.src.lt;simp;omega) ?_;intro A5 n5 c5 w5 hg5;have S5:=Y4 (S4.o.grow Hbw.o hg5);have N5:=Y4 hg5.len;clear hg5);go_roundw;case rel=>exact⟨_,by rw[Zs,Hm.o];show m+1≤65;omega,S5.o⟩
    case measure =>
     have e5:=N5.o;rw[Zs,Hm.o]at e5;simp only[Zl,Zk]at e5;simp only[sliceLen];omega
   have f0:((v:Int)==0)=false:=by simp;omega
   have f0n:(v==0)=false:=by simp;omega
   have f0p:¬ (v:Int)=0:=by omega
   by_cases hv1:v=1
   ·subst hv1;go_wp2_with fail;refine(Xh b 4 (by omega) (by omega) _ _ S2.o.src).mono ?_;rintro e w3 ⟨v3,hv3,rfl,h⟩;have S3:=Y4 (S2.o.next Hbw.o h);clear h;go_wp2_with fail;refine(Mi _ b _ S3.o.src).mono ?_;rintro e w4 ⟨t,rfl,ht,h⟩;have S4:=Y4 (S3.o.next Hbw.o h);clear h;go_wp2_with (at_builtin;refine Xt Zx2 _ _ _ rfl rfl rfl rfl (S4.o.own.ext ((Yl _).alloc _)) rfl (F9 _ 1 (v3:Int) 0 t _ _ rfl) (by rw[Hm.o];show _+1≤_;omega) (by show 40≤1000;omega) (by have:=S4.o.src.lt;simp;omega) ?_;intro A5 n5 c5 w5 hg5;have S5:=Y4 (S4.o.grow Hbw.o hg5);have N5:=Y4 hg5.len;clear hg5);go_roundw;case rel=>exact⟨_,by rw[Zs,Hm.o];show m+1≤65;omega,S5.o⟩
    case measure =>
     have e5:=N5.o;rw[Zs,Hm.o]at e5;simp only[Zl,Zk]at e5;simp only[sliceLen];omega
   have f1:((v:Int)==1)=false:=by simp;omega
   have f1n:(v==1)=false:=by simp;omega
   have f1p:¬ (v:Int)=1:=by omega
   by_cases hv2:v=2
   ·subst hv2;go_wp2_with fail;refine(Xh b 12 (by omega) (by omega) _ _ S2.o.src).mono ?_;rintro e w3 ⟨v3,hv3,rfl,h⟩;have S3:=Y4 (S2.o.next Hbw.o h);clear h;obtain⟨t3,ht3⟩:∃ t:Int,(v3:Int)-1=t:=⟨_,rfl⟩;have r3:IntKind.i64.wrap ((v3:Int)-1)=t3:=by rw[Yp _ (by omega)];exact ht3
    go_wp2_with (at_builtin;refine Xt Zx2 _ _ _ rfl rfl rfl rfl (S3.o.own.ext ((Yl _).alloc _)) rfl (F9 _ 3 0 t3 ⟨#[]⟩ _ _ rfl) (by rw[Hm.o];show _+1≤_;omega) (by show 40≤1000;omega) (by have:=S3.o.src.lt;simp;omega) ?_;intro A5 n5 c5 w5 hg5;have S5:=Y4 (S3.o.grow Hbw.o hg5);have N5:=Y4 hg5.len;clear hg5);go_roundw;case rel=>exact⟨_,by rw[Zs,Hm.o];show m+1≤65;omega,S5.o⟩
    case measure =>
     have e5:=N5.o;rw[Zs,Hm.o]at e5;simp only[Zl,Zk]at e5;simp only[sliceLen];omega
   have f2:((v:Int)==2)=false:=by simp;omega
   have f2n:(v==2)=false:=by simp;omega
   have f2p:¬ (v:Int)=2:=by omega
   by_cases hv3:v=3
   ·subst hv3;go_wp2_with fail;refine(Xh b 4 (by omega) (by omega) _ _ S2.o.src).mono ?_;rintro e w3 ⟨v3,hv3,rfl,h⟩;have S3:=Y4 (S2.o.next Hbw.o h);clear h;obtain⟨t3,ht3⟩:∃ t:Int,1+(v3:Int)=t:=⟨_,rfl⟩;have r3:IntKind.i64.wrap (1+(v3:Int))=t3:=by rw[Yp _ (by omega)];exact ht3
    go_wp2_with fail;refine(Xh b 7 (by omega) (by omega) _ _ S3.o.src).mono ?_;rintro e w4 ⟨v4,hv4,rfl,h⟩;have S4:=Y4 (S3.o.next Hbw.o h);clear h;obtain⟨t4,ht4⟩:∃ t:Int,(v4:Int)-1=t:=⟨_,rfl⟩;have r4:IntKind.i64.wrap ((v4:Int)-1)=t4:=by rw[Yp _ (by omega)];exact ht4
    go_wp2_with fail;refine(Xh b 2 (by omega) (by omega) _ _ S4.o.src).mono ?_;rintro e w6 ⟨v6,hv6,rfl,h⟩;have S6:=Y4 (S4.o.next Hbw.o h);clear h;obtain⟨t6,ht6⟩:∃ t:Int,1073741824*(v6:Int)=t:=⟨_,rfl⟩;have r6:IntKind.i64.wrap (1073741824*(v6:Int))=t6:=by rw[Yp _ (by omega)];exact ht6
    go_wp2_with (at_builtin;refine Xt Zx2 _ _ _ rfl rfl rfl rfl (S6.o.own.ext ((Yl _).alloc _)) rfl (F9 _ t3 t4 t6 ⟨#[81,85,69,82,89,32,97]⟩ _ _ rfl) (by rw[Hm.o];show _+1≤_;omega) (by show 40≤1000;omega) (by have:=S6.o.src.lt;simp;omega) ?_;intro A5 n5 c5 w5 hg5;have S5:=Y4 (S6.o.grow Hbw.o hg5);have N5:=Y4 hg5.len;clear hg5);go_roundw;case rel=>exact⟨_,by rw[Zs,Hm.o];show m+1≤65;omega,S5.o⟩
    case measure =>
     have e5:=N5.o;rw[Zs,Hm.o]at e5;simp only[Zl,Zk]at e5;simp only[sliceLen];omega
   have f3:((v:Int)==3)=false:=by simp;omega
   have f3n:(v==3)=false:=by simp;omega
   have f3p:¬ (v:Int)=3:=by omega
   clear hv0 hv1 hv2 hv3;go_wp2_with fail;refine(Xh b 4 (by omega) (by omega) _ _ S2.o.src).mono ?_;rintro e w3 ⟨v3,hv3,rfl,h⟩;have S3:=Y4 (S2.o.next Hbw.o h);clear h;go_wp2_with fail;refine(Xh b 6 (by omega) (by omega) _ _ S3.o.src).mono ?_;rintro e w4 ⟨v4,hv4,rfl,h⟩;have S4:=Y4 (S3.o.next Hbw.o h);clear h;obtain⟨k0,hk0⟩:=gnX (1+v4);have r4:IntKind.i64.wrap (1+(v4:Int))=(k0:Int):=by rw[Yp _ (by omega)];omega
   have hk1:1≤k0:=by omega
   have hk6:k0≤6:=by omega
   clear hk0 hv4;go_wp2_with fail;go_loopw [6,4] (fun o u wx=>∃ (k:Nat) (l2:List Zyu),o=.int .i64 (k:Int)∧l2.length+k=m+k0∧Pi w wx b u l2) (fun o _ _=>(intOf o).toNat);case atStart=>exact⟨k0,l,rfl,by rw[Hm.o],S4.o⟩
   rename World=>wi
   obtain⟨k,l2,rfl,hk,hS⟩:=hrel;obtain⟨A2,C2,rfl,hlC2,hC2⟩:=hS.own.shape;obtain⟨m2,hm2⟩:=gnX (l2.length);rw[hm2]at hS hlC2 hk⊢;have Hm2:=Y4 hm2;have S7:=Y4 hS;clear hS hm2;unfold maxLen at hC2;by_cases hk2:0<k
   ·have d2:decide ((0:Int)<(k:Int))=true:=Yf;obtain⟨p,hp⟩:=gnX (k-1);have r2:IntKind.i64.wrap ((k:Int)-1)=(p:Int):=by rw[Yp _ (by omega)];omega
    go_wp2_with (at_builtin;refine Xt Zx2 _ _ _ rfl rfl rfl rfl (S7.o.own.ext ((Yl _).alloc _)) rfl (F9 _ 2 (v3:Int) 0 ⟨#[]⟩ _ _ rfl) (by rw[Hm2.o];show _+1≤_;omega) (by show 40≤1000;omega) (by have:=S7.o.src.lt;simp;omega) ?_;intro A5 n5 c5 w5 hg5;have S5:=Y4 (S7.o.grow Hbw.o hg5);clear hg5);go_roundw;case rel=>exact⟨p,_,rfl,by rw[Zs,Hm2.o];show m2+1+p=_;omega,S5.o⟩
    (simp[intOf];omega)
   obtain rfl:k=0:=by omega
   go_wp2_with fail;go_roundw;case rel=>exact⟨l2,by rw[Hm2.o];omega,S7.o⟩
   case measure =>
    simp only[sliceLen];omega
  have d1:decide ((m:Int)<60)=false:=Yg;go_wp2_with fail;go_ret;exact⟨_,l,rfl,by rw[← Hm.o];exact Rd.mono (show RdE Zx2 w1 (fun k=>b+1≤k) (.slice A l.length C) l by have:=S9.o.own.rd;rw[Hm.o];exact this) fun k hk _=>by have:=Hbw.o;omega,by rw[Hm.o];exact hl,S9.o.ext⟩
theorem Zq5:(prog.info? 37).map (·.size)=some 2:=by kernel_rfl
structure Zld(cl cp:Int)(os:List Opn):Prop where
 lin:∃ x ms last t,Lin cl cp x ms os last t
 repl:Bm cl cp os=(0,0)
 real:∀ (a b i j:Nat) (o p:Opn),b<a→(Kf os)[a]?=some i→(Kf os)[b]?=some j→os[i]?=some o→os[j]?=some p→¬ (0≤o.ans∧o.ans<p.begun)
theorem Zpt{d:Dk}{cl cp:Int}(h:V9 (cl,cp) d)(hc:V7 cl cp=0)(hl:d.ops.length≤4096):Zld cl cp (d.ops.map Subtype.val) :=
 ⟨⟨_,_,_,_,h.1⟩,Lin.repl h.1 hc (by rw[Zq];exact hl),fun _ _ _ _ _ _ a b c d e=>Lin.real h.1 a b c d e⟩
def Zv3(os:List Opn):Prop:=∀ o∈os,(o.dec≠-1∧o.ans≠-1)∧0≤o.ans∧o.ans≤100000
theorem Zmr{cc:Int×Int}{d:Dk}(h:V9 cc d)(hi:Zqx d)(ht:d.t≤100000):Zv3 (d.ops.map Subtype.val):=fun o ho=>by
 obtain⟨⟨_,M,_,hO,_⟩,_⟩:=h;obtain⟨i,hi'⟩:=Zjr ho;have ha:o.ans≠-1:=fun e=>by
  obtain⟨k,m,_,hm,h0,_⟩:=hO.opn i o hi' e;rw[Zn,Zjl]at hm;obtain⟨p,hp,rfl⟩:=hm;exact h0 (hi k p hp).1
 have hE:=hO.each o ho;have hd:o.dec≠-1:=fun e=>ha (hE.d0 e)
 have hb:=hE.b0;have h1:=hE.d1 hd;exact⟨⟨hd,ha⟩,by omega,by omega⟩
theorem Zkg{w:World}{U:Nat→Prop}{T:Tbl}{b B:Nat}{d:Dk}(h:Wt w U T b B d):wrk d≤136*d.ms.length+136*load d:=by
 have h1:=Zo5 rank 136 (l:=d.ms.map Prod.snd) fun m hm=>by
  obtain⟨p,hp,rfl⟩:=Zjs.1 hm;exact Zm6 (h.mach p hp).2
 rw[Zq]at h1;unfold wrk work load;omega
theorem Zmq{w:World}{U:Nat→Prop}{T:Tbl}{b B n:Nat}{cp:Int}{d:Dk}(h:Wt w U T b B d)(hml:d.ms.length=n)(hmn:∀ (i:Nat) p,d.ms[i]?=some p→p.2=Ru i)(hx:d.x=Zv1 n cp)(ht:d.t=0)(ho:d.ops=[]):V9 ((n:Int),cp) d:=by
 unfold V9 Znj;rw[ho,hx,ht];refine⟨Lin.start (fun k m hk=>?_) ?_ rfl rfl rfl rfl,Zvd.none rfl⟩
 ·rw[Zn,Zjl]at hk;obtain⟨p,hp,rfl⟩:=hk;have e:=hmn k p hp;have hlt:=(Zr.1 hp).1;refine⟨by rw[e];rfl,by show(k:Int)<(n:Int);omega,(h.mach p (Zy hp)).2,by rw[e];rfl⟩
 rw[Zq];exact h.ll
def Zn0(all:Bool)(w:World)(e:Ending)(w':World):Prop:=∃ (cl cp:Int) (v:Value) (os:List OpS),e=.returned (.tuple #[.agg #[.int .i64 cl,.int .i64 cp],v])∧V6 w' (fun _=>True) v (os.map Subtype.val)∧(Zqz os∧Zld cl cp (os.map Subtype.val)∧(all=true→Zv3 (os.map Subtype.val)))∧Ext w w'
theorem Zm5(a0 a1 a2:Option Addr)(len0 cap0 len1 cap1 len2 cap2:Nat)(all:Bool)(w:World)(r0:Kd w a0 len0)(r1:Kd w a1 len1)(r2:Kd w a2 len2):Calls prog 17 #[.slice a0 len0 cap0,.slice a1 len1 cap1,.slice a2 len2 cap2,.bool all] w (Zn0 all w):=by
 have R0:=Y4 r0;have R1:=Y4 r1;have R2:=Y4 r2;have X0:=Y4 ((Yl w).alloc (.cells #[.int .i64 0,.int .i64 0] 37));have RB:=Y4 (Zjc w (.cells #[.int .i64 0,.int .i64 0] 37));clear r0 r1 r2;go_enter func17,ntmps17;go_wp2_with fail;obtain⟨rb,hrb⟩:=gnX (w.heap.size);obtain⟨W0,hW0⟩:=gnX (w.alloc (.cells #[.int .i64 0,.int .i64 0] 37));have Hrb:=Y4 hrb;rw[hrb]at RB;rw[hW0]at X0 RB;rw[hW0,hrb];clear hW0 hrb;refine(Zqd _ _ _ _ (Kd.extE R2.o X0.o)).mono ?_;rintro e wb ⟨cl,cp,h1,h2,h3,h4,rfl,hxb⟩;obtain⟨n,rfl⟩:∃ n:Nat,cl=n:=⟨cl.toNat,by omega⟩;have Hc:=Y4 (Zqe h1 h2 h3 h4);have RB1:=Y4 ((hxb.block (Zjz.1 RB.o).1).trans RB.o);have X1:=Y4 (X0.o.trans hxb);have hn0:0<n:=by omega
 have hn4:n≤4:=by omega
 have hrl:=(Zjz.1 RB1.o).1;clear hxb h1 h2 h3 h4 RB X0;go_upto_region 2 with fail;have CB:=Y4 (Xp.new wb #[.int .i64 (n:Int),.int .i64 cp] 37);have xa:=(Yl wb).alloc (.cells #[.int .i64 (n:Int),.int .i64 cp] 37);have RB2:=Y4 ((xa.block hrl).trans RB1.o);have X2:=Y4 (X1.o.trans xa);obtain⟨cb,hcb⟩:=gnX (wb.heap.size);obtain⟨W1,hW1⟩:=gnX (wb.alloc (.cells #[.int .i64 (n:Int),.int .i64 cp] 37));have hrc:rb<cb:=by rw[← hcb];exact hrl
 rw[hcb,hW1]at CB;rw[hW1]at RB2 X2;rw[hW1,hcb];clear hW1 hcb xa RB1 X1 hrl;refine Zjo (S:=fun w'=>w'.cell? ⟨cb,0,none⟩=some (.int .i64 (n:Int))∧w'.cell? ⟨cb,1,none⟩=some (.int .i64 cp)) (by kernel_rfl) ⟨CB.o.at_ 0 (by simp),CB.o.at_ 1 (by simp)⟩ (fun hHeld=>?_);have CD:=Y4 (CB.o.ext (Yl W1).drew);have RD:=Y4 (((Yl W1).drew.block (Zjz.1 RB2.o).1).trans RB2.o);have XD:=Y4 X2.o.drew;obtain⟨Wd,hWd⟩:=gnX (W1.drew);rw[hWd]at CD RD XD hHeld;rw[hWd];clear hWd CB RB2 X2;refine Xv [0,2] 7 (by rfl) (by kernel_rfl) (by kernel_rfl) (fun _ _ d _ _ h=>by cases d<;>exact h) hHeld ?_;simp only[Z3,Z4,Z5,Zw,Zx];repeat(refine Xu (v:=?_) (by kernel_rfl) ?_ ?_;rotate_left;(focus((intro wT hST;(try obtain⟨hS1,hS2⟩:=hST);go_simp);(first|done|(with_reducible rfl))));(try simp only[Act.put,Zv,Zu,Zt]))
 refine Xs ?_;clear hHeld;refine Zjv (rs:=[1]) (by kernel_rfl) (by simp) ?_;refine Yr (o:=_) rfl (fun K hK=>?_) Yq;go_simp;refine(Zvk _ _ _ _ (Kd.extE R1.o XD.o)).mono ?_;rintro e wa ⟨T,rfl,hT,hf,hu,hk,hxa⟩;have G:=Y4 (Zmw hf hu hk);have TA:=Y4 hT;have CA:=Y4 (CD.o.ext hxa);have RA:=Y4 ((hxa.block (Zjz.1 RD.o).1).trans RD.o);have XA:=Y4 (XD.o.trans hxa);clear hT hf hu hk hxa CD RD XD;refine hK.out _ _ ⟨CA.o.at_ 0 (by simp),CA.o.at_ 1 (by simp)⟩ (fun hHeld=>?_);clear hHeld hK K;try simp only[Act.put,Zv,Zu,Zt]
 refine Zjv (rs:=[3]) (by kernel_rfl) (by simp) ?_;refine Yr (o:=_) rfl (fun K hK=>?_) Yq;go_simp;refine(Zzp T G.o n cp hn0 (by omega) Hc.o _ TA.o).mono ?_;rintro e w2 ⟨b,d,U,rfl,hD,hml,hmn,hq1,hn',ht',hq2,hq3,hq4,hx2⟩;obtain⟨B,hB⟩:=gnX (wa.heap.size);rw[hB]at hD;have hcB:cb<B:=by rw[← hB];exact CA.o.lt
 have HwB:=Y4 (show w.heap.size≤B by rw[← hB];exact XA.o.size);have D2:=Y4 hD;have L2:=Y4 (Zmq hD hml hmn hq1 ht' hq2);have Hld0:=Y4 (show load d=0 by unfold load;rw[hq2,hq4];simp);have Hml:=Y4 hml;have Hn0:=Y4 hn';have Ht0:=Y4 ht';have C2:=Y4 (CA.o.ext hx2);have R3:=Y4 ((hx2.block (Zjz.1 RA.o).1).trans RA.o);have X3:=Y4 (XA.o.trans hx2);clear hD hml hmn hn' ht' hx2 hB CA RA XA TA hq1 hq2 hq3 hq4;refine hK.out _ _ ⟨C2.o.at_ 0 (by simp),C2.o.at_ 1 (by simp)⟩ (fun hHeld=>?_);clear hK K;try simp only[Act.put,Zv,Zu,Zt]
 refine Xv [4,5,6,7,8] 0 (by rfl) (by kernel_rfl) (by kernel_rfl) (fun _ _ d _ _ h=>by cases d<;>exact h) hHeld ?_;simp only[Z3,Z4,Z5,Zw,Zx];repeat(refine Xu (v:=?_) (by kernel_rfl) ?_ ?_;rotate_left;(focus((intro wT hST;(try obtain⟨hS1,hS2⟩:=hST);go_simp);(first|done|(with_reducible rfl))));(try simp only[Act.put,Zv,Zu,Zt]))
 refine Xs ?_;clear hHeld;refine Zjf (by kernel_rfl) ?_ _;go_wp2_with fail;refine(Zzw _ _ _ _ (Kd.extE R0.o X3.o)).mono ?_;rintro e w3 ⟨v,l,rfl,hv,hl65,hx3⟩;have D3:=Y4 (D2.o.ext hx3);have C3:=Y4 (C2.o.ext hx3);have R4:=Y4 ((hx3.block (Zjz.1 R3.o).1).trans R3.o);have X4:=Y4 (X3.o.trans hx3);obtain⟨Al,Cl,rfl,_,_⟩:=hv.shape;obtain⟨m,hm⟩:=gnX (l.length);have HL:=Y4 (show RdE Zx2 w3 (fun k=>¬ U k) (.slice Al l.length Cl) l from Rd.mono hv fun k hk _ hu=>by have:=(D2.o.hU k hu).2;have hk:w2.heap.size≤k:=hk;omega);have Hm:=Y4 hm;rw[hm]at HL hl65;rw[hm];clear hv hx3 hm D2 C2 R3 X3;go_wp2_with fail;go_loopw [32] (fun o wr=>∃ (i:Nat) (d:Dk) (U:Nat→Prop),i≤m∧o=.int .i64 (i:Int)∧Wt wr U T b B d∧(V9 ((n:Int),cp) d∧load d≤i)∧d.ms.length=n∧d.n≤i∧d.t=i∧Ext w wr∧Xp wr cb [.int .i64 (n:Int),.int .i64 cp]∧wr.heap[rb]?=some (.cells #[.int .i64 0,.int .i64 0] 37)∧RdE Zx2 wr (fun k=>¬ U k) (.slice Al m Cl) l) (fun o _=>m-(intOf o).toNat);case atStart=>exact⟨0,d,U,by omega,rfl,D3.o,⟨L2.o,by rw[Hld0.o];exact Yn _⟩,Hml.o,by rw[Hn0.o];omega,Ht0.o,X4.o,C3.o,R4.o,HL.o⟩
 clear D3 C3 R4 L2 Hml Hn0 Ht0 HL X4 Hld0 d U;obtain⟨i,d,U,hi,rfl,hD,⟨hL,hld⟩,hml,hn',ht',hx,hc,hr,hl⟩:=hrel;have Hld:=Y4 hld;clear hld;rename World=>wr
 have D1:=Y4 hD;have L1:=Y4 hL;have Hml:=Y4 hml;have Hn0:=Y4 hn';have Ht0:=Y4 ht';have X5:=Y4 hx;have C5:=Y4 hc;have R5:=Y4 hr;have HL:=Y4 hl;clear hD hL hml hn' ht' hx hc hr hl;by_cases hlt:i<m
 ·obtain⟨hd_i,i0_i,i1_i⟩:=LTl i m;obtain⟨a,ha⟩:=geX (l:=l) (i:=i) (by rw[Hm.o];exact hlt);obtain⟨g,o,c',hvv,_,_,_,hgl,hcc⟩:=Rd.at_ HL.o (k:=i) (by rw[Hm.o];exact hlt);simp only[Ye]at hvv;obtain⟨rfl,-,rfl⟩:=hvv;obtain⟨e0,e1,e2,e3⟩:=Zyp ha;have a0:=hcc _ _ e0;have a1:=hcc _ _ e1;have a2:=hcc _ _ e2;have a3:=hcc _ _ e3;rw[← Zid]at a1 a2 a3;clear hcc e0 e1 e2 e3 ha;go_wp2_with fail;refine(Zn9 T G.o.few G.o b B d a.kind a.cl a.n a.text _ (D1.o.ext ((Yl _).alloc _)) (by have:=Hn0.o;omega) (by have:=Ht0.o;omega) L1.o (by rw[Hml.o];exact hn0)).mono ?_;rintro e w7 ⟨r,d',U',rfl,hD,hL,hC0,hml',ht',hn',hu'⟩;have hC:Chg (fun k=>B≤k) _ _:=hC0.mono fun q _ hq=>(D1.o.hU q hq).1
  have D7:=Y4 hD;have L7:=Y4 hL;have xa:=(Yl wr).alloc (.cells #[.int .i64 a.kind,.int .i64 a.cl,.int .i64 a.n,.string a.text] 78);have X7:=Y4 ((X5.o.trans xa).chg_new hC (fun q hq=>Zjw HwB.o hq));have C7:=Y4 ((C5.o.ext xa).chg hC (by omega));have R7:=Y4 (by
   have h1:=(xa.block (Zjz.1 R5.o).1).trans R5.o;exact(hC.block rb (Zjz.1 h1).1 (by omega)).trans h1)
  have h8:=Rd.mono (T:=fun k=>¬ U k∧k<(wr.alloc (.cells #[.int .i64 a.kind,.int .i64 a.cl,.int .i64 a.n,.string a.text] 78)).heap.size) (RdE.ext HL.o xa) fun k hk hl=>⟨hk,hl⟩
  have h9:=Rd.chg h8 hC0 (fun k hk=>hk.1);have HL7:=Y4 (Rd.mono (T:=fun k=>¬ U' k) h9 fun k hk _ hu=>(hu' k hu).elim hk.1 fun h=>by have:=hk.2;omega);clear h8 h9;have Hml':=Y4 hml';have Ht':=Y4 ht';have Hn':=Y4 hn';clear hD hL hC hC0 hml' ht' hn' hu' a0 a1 a2 a3 xa;go_wp2_with fail;go_roundw;case rel=>exact⟨i+1,d',U',by omega,by go_num,D7.o,⟨L7.o.lin,by have:=L7.o.load;have:=Hld.o;omega⟩,by rw[Hml'.o];exact Hml.o,by have:=Hn'.o;have:=Hn0.o;omega,by rw[Ht'.o,Ht0.o],X7.o,C7.o,R7.o,HL7.o⟩
  (simp[intOf];omega)
 have hd_i:=GEl i m;obtain rfl:i=m:=by omega
 have hrl:=(Zjz.1 R5.o).1;go_upto_if 40 with fail;go_cut [] (fun wq=>∃ (d:Dk) (U:Nat→Prop),Wt wq U T b B d∧(V9 ((n:Int),cp) d∧(all=true→Zqx d∧d.t≤100000))∧Ext w wq∧Xp wq cb [.int .i64 (n:Int),.int .i64 cp]∧wq.heap[rb]?=some (.cells #[.int .i64 0,.int .i64 0] 37));case first =>
  cases all with
  | false =>
   go_wp2_with fail;go_meet;exact⟨d,U,D1.o,⟨L1.o,fun e=>by cases e⟩,X5.o,C5.o,R5.o⟩
  | true =>
   go_wp2_with fail;refine(Zvx T G.o.few G.o b B 20000 (Yn _) d _ D1.o L1.o (by have:=Hn0.o;omega) (by have:=Ht0.o;omega) (by rw[Hml.o];exact hn4) (by have h1:=Zkg D1.o;have h2:=Hld.o;rw[Hml.o]at h1;omega) (by have:=Hld.o;omega)).mono ?_;rintro e w6 ⟨z,d',U',rfl,hD,hL,hC,_⟩;have D6:=Y4 hD;have L6:=Y4 hL;have X6:=Y4 (X5.o.chg_new hC (fun q hq=>Zjw HwB.o hq));have C6:=Y4 (C5.o.chg hC (by omega));have R6:=Y4 ((hC.block rb hrl (by omega)).trans R5.o);clear hD hL hC;go_wp2_with fail;go_meet;exact⟨d',U',D6.o,⟨L6.o.1,fun _=>L6.o.2⟩,X6.o,C6.o,R6.o⟩
 clear D1 L1 Hml Hn0 Ht0 X5 C5 R5 HL Hld d U;obtain⟨d,U,hD,hL,hx,hc,hr⟩:=hcut;rename World=>w6
 have ZE:=Y4 (Zpt hL.1 Hc.o hD.lo);have ZA:=Y4 (show all=true→Zv3 (d.ops.map Subtype.val) from fun e=>Zmr hL.1 (hL.2 e).1 (hL.2 e).2);clear hL;have D6:=Y4 hD;have X6:=Y4 hx;have C6:=Y4 hc;have R6:=Y4 hr;obtain⟨Ao,Co,hov,_,_⟩:=hD.own.shape;obtain⟨no,hno⟩:=gnX (d.ops.length);rw[hno]at hov;have Hov:=Y4 hov;clear hD hx hc hr hov hno;go_upto_region 13 with fail;refine Zjo (S:=fun w'=>w'.cell? ⟨cb,0,none⟩=some (.int .i64 (n:Int))∧w'.cell? ⟨cb,1,none⟩=some (.int .i64 cp)) (by kernel_rfl) ⟨C6.o.at_ 0 (by simp),C6.o.at_ 1 (by simp)⟩ (fun hHeld=>?_);have Dd:=Y4 (D6.o.ext (Yl w6).drew);have Xd:=Y4 X6.o.drew;have Cd:=Y4 (C6.o.ext (Yl w6).drew);have Rd_:=Y4 (((Yl w6).drew.block (Zjz.1 R6.o).1).trans R6.o);obtain⟨Wd,hWd⟩:=gnX (w6.drew);rw[hWd]at Dd Xd Cd Rd_ hHeld;rw[hWd];clear hWd D6 X6 C6 R6;have cst:Chg (· = rb) Wd (Wd.setCells rb 0 [.int .i64 (n:Int),.int .i64 cp]):=Xl (S:=(· = rb)) (.inl rfl) (Chg.refl _ _);have hth:=(Zl5 Rd_.o).there (o:=0) (n:=2) (by simp);have hra:=Zgi Wd rb 0 [.int .i64 (n:Int),.int .i64 cp] hth;have c3:Wd.cell? ⟨b,3,none⟩=some (.slice Ao no Co):=by rw[← Hov.o];exact Dd.o.c 3 rfl
 have nbr:b≠rb:=by have:=(Dd.o.hU b Dd.o.ub).1;omega
 have ncr:cb≠rb:=by omega
 have q0:=Y4 (hra 0 _ rfl);have q1:=Y4 (hra 1 _ rfl);have ZO:=Y4 (Dd.o.opsFar (by omega) Rd_.o (by intro u hu s e;subst e;simp at hu) cst);have ZX:=Y4 (Xd.o.chg_new cst (fun q e=>by rw[e,← Hrb.o];exact Yn _));have ZF:=Y4 (show Zqz d.ops from⟨Dd.o.lo,fun o ho=>(Dd.o.n16 o ho).2.fitO⟩);have d3:=(cst.cell (p:=⟨b,3,none⟩) Dd.o.cells.lt nbr).trans c3;have e0:=(cst.cell (p:=⟨cb,0,none⟩) Cd.o.lt ncr).trans (Cd.o.at_ 0 (by simp));have e1:=(cst.cell (p:=⟨cb,1,none⟩) Cd.o.lt ncr).trans (Cd.o.at_ 1 (by simp));rw[Hov.o]at ZO;have Hth:=Y4 hth;obtain⟨Ws,hWs⟩:=gnX (Wd.setCells rb 0 [.int .i64 (n:Int),.int .i64 cp]);rw[hWs]at q0 q1 ZO ZX d3 e0 e1;clear cst hth hra;refine Xv [0,1] 3 (by rfl) (by kernel_rfl) (by kernel_rfl) (fun _ _ d _ _ h=>by cases d<;>exact h) hHeld ?_;simp only[Z3,Z4,Z5,Zw,Zx];repeat(refine Xu (v:=?_) (by kernel_rfl) ?_ ?_;rotate_left;(focus((intro wT hST;(try obtain⟨hS1,hS2⟩:=hST);go_simp);(first|done|(with_reducible rfl))));(try simp only[Act.put,Zv,Zu,Zt]))
 refine Xs ?_;refine Zjv (rs:=[2]) (by kernel_rfl) (by simp) ?_;refine Yr (o:=_) rfl (fun K hK=>?_) Yq;go_simp;refine(Zu5 _ b Ao no Co c3).mono ?_;rintro e w7 ⟨rfl,rfl⟩;refine hK.out _ _ hHeld (fun hHeld=>?_);clear hK K hHeld;try simp only[Act.put,Zv,Zu,Zt]
 refine Zjv (rs:=[3]) (by kernel_rfl) (by simp) ?_;refine Yr (o:=_) rfl (fun K hK=>?_) Yq;refine Ks rfl _ _ _ rfl rb 0 #[.int .i64 (n:Int),.int .i64 cp] rfl rfl Hth.o (by rw[Zq5];rfl) (by simp[Value.oneCell']) ?_;rw[show Wd.setCells rb 0 (#[.int .i64 (n:Int),.int .i64 cp]:Array Value).toList=Ws from hWs];refine hK.out _ _ ⟨e0,e1⟩ (fun hHeld=>?_);clear hK K;try simp only[Act.put,Zv,Zu,Zt]
 refine Xv [4] 0 (by rfl) (by kernel_rfl) (by kernel_rfl) (fun _ _ d _ _ h=>by cases d<;>exact h) hHeld ?_;simp only[Z3,Z4,Z5,Zw,Zx];repeat(refine Xu (v:=?_) (by kernel_rfl) ?_ ?_;rotate_left;(focus((intro wT hST;(try obtain⟨hS1,hS2⟩:=hST);go_simp);(first|done|(with_reducible rfl))));(try simp only[Act.put,Zv,Zu,Zt]))
 refine Xs ?_;clear hHeld;refine Zjf (by kernel_rfl) ?_ _;go_wp2_with fail;refine Ys (v:=.tuple #[.agg #[.int .i64 (n:Int),.int .i64 cp],.slice Ao no Co]) (by simp[results,results17,go_sem,q0.o,q1.o]) rfl ?_;exact⟨_,_,_,_,rfl,ZO.o,⟨ZF.o,ZE.o,ZA.o⟩,ZX.o⟩
