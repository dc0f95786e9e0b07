/- Lemmas of this claim: DuP, Kt, Law28a, Ran, Ex32, Aw32, Law32a. Conditions: as named. -/
import Derived.Deep.DeepCutAuto
import Derived.Deep.RegionHeld3
import Derived.WalkMore
import Derived.Test.YtnbclgbicnpmnaaGreatA02
import Derived.Test.YtnbclgbicnpmnaaGreatA03
import Derived.Test.YtnbclgbicnpmnaaGreatA08
import Derived.Test.YtnbclgbicnpmnaaGreatA20
import Derived.Test.YtnbclgbicnpmnaaGreatA22
import Derived.Test.YtnbclgbicnpmnaaGreatA23
import Derived.Test.YtnbclgbicnpmnaaGreatA35
import Derived.Test.YtnbclgbicnpmnaaGreatA40
import Derived.Test.YtnbclgbicnpmnaaGreatA43
import Derived.Test.YtnbclgbicnpmnaaGreatA44
import Derived.Test.YtnbclgbicnpmnaaGreatA45
import Derived.Test.YtnbclgbicnpmnaaGreatA46
import Derived.Test.YtnbclgbicnpmnaaGreatA51
import Derived.Test.YtnbclgbicnpmnaaGreatA52
namespace Go.Proofs.YtnbclgbicnpmnaaGreat
open Go.RowKit Go.Sort
set_option maxHeartbeats 0
set_option maxRecDepth 100000
set_option linter.all false
theorem Rd.ne_blk{w:World}{S:Nat→Prop}{z n rb:Nat}{v:Value}{xs:List Value}(h:Rd w S z v n xs)(h00:xs=[]→n=0)(hne:∀ (o:Nat) u,xs[0]?=some u→w.cell? ⟨rb,o,none⟩≠some u):Rd w (fun k=>S k∧k≠rb) z v n xs:=by
 obtain⟨h1,A,c,hv,h2,h3,h4⟩:=h;refine⟨h1,A,c,hv,h2,h3,fun h0=>?_⟩;obtain⟨g,o,e,hS,hg,hc⟩:=h4 h0;refine⟨g,o,e,⟨hS,fun e2=>?_⟩,hg,hc⟩;subst e2;cases xs with
 | nil=>have:=h00 rfl;omega
 | cons u r=>exact absurd (hc 0 u rfl) (hne _ u rfl)
theorem Zn0{w:World}{b:Nat}{cs:Array Value}{t:TypeId}(h:w.heap[b]?=some (.cells cs t)):Xo w b cs.toList :=
 ⟨(Zm3.1 h).1,fun k=>by simp[World.frozen?,h],fun k hk=>by simp only[World.cell?,h];simp⟩
theorem Zuq{ns:List Nm}{u:Value}(h:(Wo ns)[0]?=some u):∃ s,u=.string s:=by
 cases ns with
 | nil=>simp[Wo]at h
 | cons n r =>
  have h1:some (Value.string n.a)=some u:=h;exact⟨_,(Zm6 h1).symm⟩
theorem Kw.extE{w w':World}{a:Option Addr}{len:Nat}(h:Kw w a len)(x:Ext w w'):Kw w' a len:=by
 obtain⟨h1,h2⟩:=h;refine⟨h1,fun hl=>?_⟩;obtain⟨y,e,hy,hc⟩:=h2 hl;refine⟨y,e,Zm1 hy x.size,fun j hj=>?_⟩;obtain⟨z,hz,hi⟩:=hc j hj;exact⟨z,(x.cell (by rw[add_block];exact hy)).trans hz,hi⟩
theorem Zvv(w:World)(b:Nat)(A:Option Addr)(n C:Nat)(c3:w.cell? ⟨b,3,none⟩=some (.slice A n C)):Calls Tryz.prog 34 #[.pointer (some ⟨b,0,none⟩)] w fun e w'=>e=.returned (.slice A n C)∧w=w':=by
 go_enter Tryz.func34,Tryz.ntmps34;go_wp2_with fail;go_ret;exact⟨rfl,rfl⟩
theorem Ww.opsFar{w w':World}{U:Nat→Prop}{T:Tbl}{b B rb:Nat}{d:Dk}{cs:Array Value}{t:TypeId}{fr:Nat×Nat}(D:Ww w U T b B d)(hrB:rb<B)(R:w.heap[rb]?=some (.cells cs t fr))(hcs:∀ u∈cs,∀ s,u≠.string s)(c:Chg (· = rb) w w'):V5 w' (fun _=>True) d.ov (d.ops.map Subtype.val):=by
 have h1:=Own.rd (E:=opE) D.own;refine⟨?_,fun o ho=>?_⟩
 ·rw[Zq];exact Rd.mono (Rd.chg h1 c (fun q hq e=>by have:B≤q:=hq;omega)) fun _ _ _=>trivial
 obtain⟨x,hx,rfl⟩:=Zlw.1 ho;have hn:=D.nms x hx;exact Rd.mono (Rd.chg (Rd.ne_blk hn (fun e=>by cases hns:x.1.ns with|nil=>rfl|cons a r=>rw[hns]at e;simp[Wo,E6]at e) (fun o u hu hc=>by
  obtain⟨s',hs'⟩:=Zuq hu;simp only[World.cell?,R]at hc;exact hcs u (Array.mem_of_getElem? hc) s' hs')) c (fun q hq e=>hq.2 e)) fun _ _ _=>trivial
structure Oy(w wx:World)(b:Nat)(v:Value)(l:List Cx):Prop where
 src:Src w.heap.size wx b
 ext:Ext w wx
 own:Own Zys wx (b+1) v l
theorem Oy.next{w w1 w2:World}{b B:Nat}{v:Value}{l:List Cx}(h:Oy w w1 b v l)(hb:w.heap.size=b)(t:We w.heap.size B w1 w2)(hB:B=b:=by rfl):Oy w w2 b v l:=by
 subst hB;exact⟨t.src,h.ext.chg_new t.chg (fun i hi=>by omega),h.own.chg t.chg (fun k hk e=>by have:=(h.own.lt k hk).1;omega)⟩
theorem Oy.grow{w w1 w5:World}{b:Nat}{v:Value}{l l':List Cx}{o:Obj}{A:Option Addr}{n c:Nat}(h:Oy w w1 b v l)(hb:w.heap.size=b)(hg:Grew Zys (w1.alloc o) (b+1) v l' A n c w5):Oy w w5 b (.slice A n c) l':=by
 have hlt:∀ k,v.ownBlock=some k→b+1≤k:=fun k hk=>(h.own.lt k hk).1
 exact⟨(h.src.alloc o).chg hg.chg (fun e=>by have:=hlt b e;omega) (fun k hk e=>by have:=hlt k e;omega),(h.ext.alloc o).chg_new hg.chg (fun i hi=>by have:=hlt i hi;omega),hg.own⟩
theorem Fz(w:World)(a b c:Int)(s:ByteArray)(t:TypeId)(g:Nat)(hg:w.heap.size=g):RdE Zys (w.alloc (.cells #[.int .i64 a,.int .i64 b,.int .i64 c,.string s] t)) (fun _=>True) (.slice (some ⟨g,0,none⟩) 1 1) [⟨a,b,c,s⟩]:=by
 subst hg;exact Qu w #[.int .i64 a,.int .i64 b,.int .i64 c,.string s] t 4 rfl
def Zyu(w:World)(e:Ending)(w':World):Prop:=∃ (v:Value) (l:List Cx),e=.returned v∧RdE Zys w' (fun k=>w.heap.size≤k) v l∧l.length≤65∧Ext w w'
theorem Td(a:Option Addr)(len cap:Nat)(w:World)(hrow:Kw w a len):Calls Tryz.prog 12 #[.slice a len cap] w (Zyu w):=by
 obtain⟨b,hb⟩:=gnX (w.heap.size);have Hbw:=Y4 hb;have S0:=Y4 (show Oy w (w.alloc (.cells #[.slice a len cap,.int .i64 0] 165)) b (.slice none 0 0) [] from⟨by have:=Uj (cap:=cap) hrow (Yl w);rw[← hb];exact this,(Yl w).alloc _,Own.nil _ _ _⟩);clear hrow;go_enter Tryz.func12,Tryz.ntmps12;go_wp2_with fail;refine(Og _ _ _ _).mono ?_;rintro e w0 ⟨rfl,rfl⟩;obtain⟨W0,hW0⟩:=gnX (w.alloc (.cells #[.slice a len cap,.int .i64 0] 165));rw[hW0]at S0⊢;rw[hb];clear hW0;go_wp2_with fail;go_loopw [4] (fun u wr=>∃ l:List Cx,l.length≤65∧Oy w wr b u l) (fun u _=>100-sliceLen u);case atStart=>exact⟨[],by simp,S0.o⟩
 clear S0;obtain⟨l,hl,hS⟩:=hrel;obtain⟨A,C,rfl,hlC,hC⟩:=hS.own.shape;obtain⟨m,hm⟩:=gnX (l.length);rw[hm]at hS hlC hl⊢;have Hm:=Y4 hm;have S1:=Y4 hS;clear hS hm;unfold maxLen at hC;go_wp2_with fail;refine(Zv4 b _ _ S1.o.src).mono ?_;rintro e w1 ⟨⟨q,rfl⟩,hs,hc⟩;have S9:=Y4 (S1.o.next Hbw.o ⟨hs,hc⟩);clear hs hc;cases q with
 | false =>
  go_wp2_with fail;go_ret;exact⟨_,l,rfl,by rw[← Hm.o];exact Rd.mono (show RdE Zys w1 (fun k=>b+1≤k) (.slice A l.length C) l by have:=S9.o.own.rd;rw[Hm.o];exact this) fun k hk _=>by have:=Hbw.o;omega,by rw[Hm.o];exact hl,S9.o.ext⟩
 | true =>
  by_cases h60:m<60
  ·have d1:decide ((m:Int)<60)=true:=Yf;go_wp2_with fail;refine(Xh b 8 (by omega) (by omega) _ _ S9.o.src).mono ?_;rintro e w2 ⟨v,hv,rfl,h⟩;have S2:=Y4 (S9.o.next Hbw.o h);clear h;by_cases hv0:v=0
   ·subst hv0;go_wp2_with fail;refine(Xh b 4 (by omega) (by omega) _ _ S2.o.src).mono ?_;rintro e w3 ⟨v3,hv3,rfl,h⟩;have S3:=Y4 (S2.o.next Hbw.o h);clear h;go_wp2_with fail;refine(Lo _ b _ S3.o.src).mono ?_;rintro e w4 ⟨t,rfl,ht,h⟩;have S4:=Y4 (S3.o.next Hbw.o h);clear h;go_wp2_with (at_builtin;refine Xu Zys _ _ _ rfl rfl rfl rfl (S4.o.own.ext ((Yl _).alloc _)) rfl (Fz _ 1 (v3:Int) 0 t _ _ rfl) (by rw[Hm.o];show _+1≤_;omega) (by show 40≤1000;omega) (by have:=S4.o.src.lt;simp;omega) ?_;intro A5 n5 c5 w5 hg5;have S5:=Y4 (S4.o.grow Hbw.o hg5);have N5:=Y4 hg5.len;clear hg5);go_roundw;case rel=>exact⟨_,by rw[Zs,Hm.o];show m+1≤65;omega,S5.o⟩
    case measure =>
     have e5:=N5.o;rw[Zs,Hm.o]at e5;simp only[Zl,Zk]at e5;simp only[sliceLen];omega
   have f0:((v:Int)==0)=false:=by simp;omega
   have f0n:(v==0)=false:=by simp;omega
   have f0p:¬ (v:Int)=0:=by omega
   by_cases hv1:v=1
   ·subst hv1;go_wp2_with fail;refine(Xh b 4 (by omega) (by omega) _ _ S2.o.src).mono ?_;rintro e w3 ⟨v3,hv3,rfl,h⟩;have S3:=Y4 (S2.o.next Hbw.o h);clear h;go_wp2_with fail;refine(Lo _ b _ S3.o.src).mono ?_;rintro e w4 ⟨t,rfl,ht,h⟩;have S4:=Y4 (S3.o.next Hbw.o h);clear h;go_wp2_with (at_builtin;refine Xu Zys _ _ _ rfl rfl rfl rfl (S4.o.own.ext ((Yl _).alloc _)) rfl (Fz _ 1 (v3:Int) 0 t _ _ rfl) (by rw[Hm.o];show _+1≤_;omega) (by show 40≤1000;omega) (by have:=S4.o.src.lt;simp;omega) ?_;intro A5 n5 c5 w5 hg5;have S5:=Y4 (S4.o.grow Hbw.o hg5);have N5:=Y4 hg5.len;clear hg5);go_roundw;case rel=>exact⟨_,by rw[Zs,Hm.o];show m+1≤65;omega,S5.o⟩
    case measure =>
     have e5:=N5.o;rw[Zs,Hm.o]at e5;simp only[Zl,Zk]at e5;simp only[sliceLen];omega
   have f1:((v:Int)==1)=false:=by simp;omega
   have f1n:(v==1)=false:=by simp;omega
   have f1p:¬ (v:Int)=1:=by omega
   by_cases hv2:v=2
   ·subst hv2;go_wp2_with fail;refine(Xh b 12 (by omega) (by omega) _ _ S2.o.src).mono ?_;rintro e w3 ⟨v3,hv3,rfl,h⟩;have S3:=Y4 (S2.o.next Hbw.o h);clear h;obtain⟨t3,ht3⟩:∃ t:Int,(v3:Int)-1=t:=⟨_,rfl⟩;have r3:IntKind.i64.wrap ((v3:Int)-1)=t3:=by rw[Yp _ (by omega)];exact ht3
    go_wp2_with (at_builtin;refine Xu Zys _ _ _ rfl rfl rfl rfl (S3.o.own.ext ((Yl _).alloc _)) rfl (Fz _ 3 0 t3 ⟨#[]⟩ _ _ rfl) (by rw[Hm.o];show _+1≤_;omega) (by show 40≤1000;omega) (by have:=S3.o.src.lt;simp;omega) ?_;intro A5 n5 c5 w5 hg5;have S5:=Y4 (S3.o.grow Hbw.o hg5);have N5:=Y4 hg5.len;clear hg5);go_roundw;case rel=>exact⟨_,by rw[Zs,Hm.o];show m+1≤65;omega,S5.o⟩
    case measure =>
     have e5:=N5.o;rw[Zs,Hm.o]at e5;simp only[Zl,Zk]at e5;simp only[sliceLen];omega
   have f2:((v:Int)==2)=false:=by simp;omega
   have f2n:(v==2)=false:=by simp;omega
   have f2p:¬ (v:Int)=2:=by omega
   by_cases hv3:v=3
   ·subst hv3;go_wp2_with fail;refine(Xh b 4 (by omega) (by omega) _ _ S2.o.src).mono ?_;rintro e w3 ⟨v3,hv3,rfl,h⟩;have S3:=Y4 (S2.o.next Hbw.o h);clear h;obtain⟨t3,ht3⟩:∃ t:Int,1+(v3:Int)=t:=⟨_,rfl⟩;have r3:IntKind.i64.wrap (1+(v3:Int))=t3:=by rw[Yp _ (by omega)];exact ht3
    go_wp2_with fail;refine(Xh b 7 (by omega) (by omega) _ _ S3.o.src).mono ?_;rintro e w4 ⟨v4,hv4,rfl,h⟩;have S4:=Y4 (S3.o.next Hbw.o h);clear h;obtain⟨t4,ht4⟩:∃ t:Int,(v4:Int)-1=t:=⟨_,rfl⟩;have r4:IntKind.i64.wrap ((v4:Int)-1)=t4:=by rw[Yp _ (by omega)];exact ht4
    go_wp2_with fail;refine(Xh b 2 (by omega) (by omega) _ _ S4.o.src).mono ?_;rintro e w6 ⟨v6,hv6,rfl,h⟩;have S6:=Y4 (S4.o.next Hbw.o h);clear h;obtain⟨t6,ht6⟩:∃ t:Int,1073741824*(v6:Int)=t:=⟨_,rfl⟩;have r6:IntKind.i64.wrap (1073741824*(v6:Int))=t6:=by rw[Yp _ (by omega)];exact ht6
    go_wp2_with (at_builtin;refine Xu Zys _ _ _ rfl rfl rfl rfl (S6.o.own.ext ((Yl _).alloc _)) rfl (Fz _ t3 t4 t6 ⟨#[81,85,69,82,89,32,97]⟩ _ _ rfl) (by rw[Hm.o];show _+1≤_;omega) (by show 40≤1000;omega) (by have:=S6.o.src.lt;simp;omega) ?_;intro A5 n5 c5 w5 hg5;have S5:=Y4 (S6.o.grow Hbw.o hg5);have N5:=Y4 hg5.len;clear hg5);go_roundw;case rel=>exact⟨_,by rw[Zs,Hm.o];show m+1≤65;omega,S5.o⟩
    case measure =>
     have e5:=N5.o;rw[Zs,Hm.o]at e5;simp only[Zl,Zk]at e5;simp only[sliceLen];omega
   have f3:((v:Int)==3)=false:=by simp;omega
   have f3n:(v==3)=false:=by simp;omega
   have f3p:¬ (v:Int)=3:=by omega
   clear hv0 hv1 hv2 hv3;go_wp2_with fail;refine(Xh b 4 (by omega) (by omega) _ _ S2.o.src).mono ?_;rintro e w3 ⟨v3,hv3,rfl,h⟩;have S3:=Y4 (S2.o.next Hbw.o h);clear h;go_wp2_with fail;refine(Xh b 6 (by omega) (by omega) _ _ S3.o.src).mono ?_;rintro e w4 ⟨v4,hv4,rfl,h⟩;have S4:=Y4 (S3.o.next Hbw.o h);clear h;obtain⟨k0,hk0⟩:=gnX (1+v4);have r4:IntKind.i64.wrap (1+(v4:Int))=(k0:Int):=by rw[Yp _ (by omega)];omega
   have hk1:1≤k0:=by omega
   have hk6:k0≤6:=by omega
   clear hk0 hv4;go_wp2_with fail;go_loopw [6,4] (fun o u wx=>∃ (k:Nat) (l2:List Cx),o=.int .i64 (k:Int)∧l2.length+k=m+k0∧Oy w wx b u l2) (fun o _ _=>(intOf o).toNat);case atStart=>exact⟨k0,l,rfl,by rw[Hm.o],S4.o⟩
   rename World=>wi
   obtain⟨k,l2,rfl,hk,hS⟩:=hrel;obtain⟨A2,C2,rfl,hlC2,hC2⟩:=hS.own.shape;obtain⟨m2,hm2⟩:=gnX (l2.length);rw[hm2]at hS hlC2 hk⊢;have Hm2:=Y4 hm2;have S7:=Y4 hS;clear hS hm2;unfold maxLen at hC2;by_cases hk2:0<k
   ·have d2:decide ((0:Int)<(k:Int))=true:=Yf;obtain⟨p,hp⟩:=gnX (k-1);have r2:IntKind.i64.wrap ((k:Int)-1)=(p:Int):=by rw[Yp _ (by omega)];omega
    go_wp2_with (at_builtin;refine Xu Zys _ _ _ rfl rfl rfl rfl (S7.o.own.ext ((Yl _).alloc _)) rfl (Fz _ 2 (v3:Int) 0 ⟨#[]⟩ _ _ rfl) (by rw[Hm2.o];show _+1≤_;omega) (by show 40≤1000;omega) (by have:=S7.o.src.lt;simp;omega) ?_;intro A5 n5 c5 w5 hg5;have S5:=Y4 (S7.o.grow Hbw.o hg5);clear hg5);go_roundw;case rel=>exact⟨p,_,rfl,by rw[Zs,Hm2.o];show m2+1+p=_;omega,S5.o⟩
    (simp[intOf];omega)
   obtain rfl:k=0:=by omega
   go_wp2_with fail;go_roundw;case rel=>exact⟨l2,by rw[Hm2.o];omega,S7.o⟩
   case measure =>
    simp only[sliceLen];omega
  have d1:decide ((m:Int)<60)=false:=Yg;go_wp2_with fail;go_ret;exact⟨_,l,rfl,by rw[← Hm.o];exact Rd.mono (show RdE Zys w1 (fun k=>b+1≤k) (.slice A l.length C) l by have:=S9.o.own.rd;rw[Hm.o];exact this) fun k hk _=>by have:=Hbw.o;omega,by rw[Hm.o];exact hl,S9.o.ext⟩
def Zt9(w:World)(e:Ending)(w':World):Prop:=∃ cl cp:Int,1≤cl∧cl≤4∧1≤cp∧cp≤6∧e=.returned (.agg #[.int .i64 cl,.int .i64 cp])∧Ext w w'
theorem Zsa(a:Option Addr)(len cap:Nat)(w:World)(hrow:Kw w a len):Calls Tryz.prog 11 #[.slice a len cap] w (Zt9 w):=by
 obtain⟨A,hA⟩:=gnX (w.heap.size);have hx0:Ext w (w.alloc (.cells #[.int .i64 0,.int .i64 0] 37)):=(Yl w).alloc _;have hsrc:=Uj (cap:=cap) hrow hx0;have c0:((w.alloc (.cells #[.int .i64 0,.int .i64 0] 37)).alloc (.cells #[.slice a len cap,.int .i64 0] 165)).cell? ⟨w.heap.size,0,none⟩=some (.int .i64 0):=by go_simp
 have c1:((w.alloc (.cells #[.int .i64 0,.int .i64 0] 37)).alloc (.cells #[.slice a len cap,.int .i64 0] 165)).cell? ⟨w.heap.size,1,none⟩=some (.int .i64 0):=by go_simp
 have cf:∀ i,((w.alloc (.cells #[.int .i64 0,.int .i64 0] 37)).alloc (.cells #[.slice a len cap,.int .i64 0] 165)).frozen? ⟨w.heap.size,i,none⟩=false:=fun i=>by go_simp
 have hs:((w.alloc (.cells #[.int .i64 0,.int .i64 0] 37)).alloc (.cells #[.slice a len cap,.int .i64 0] 165)).heap.size=w.heap.size+2:=by simp
 have e1:(w.alloc (.cells #[.int .i64 0,.int .i64 0] 37)).heap.size=w.heap.size+1:=by simp
 rw[e1]at hsrc;have hx:Ext w ((w.alloc (.cells #[.int .i64 0,.int .i64 0] 37)).alloc (.cells #[.slice a len cap,.int .i64 0] 165)):=hx0.alloc _;have Hs:=Y4 (And.intro hsrc (And.intro c0 (And.intro c1 (And.intro cf (And.intro hs hx)))));clear hsrc c0 c1 cf hs e1 hx hx0 hrow;go_enter Tryz.func11,Tryz.ntmps11;go_wp2_with fail;refine(Og _ _ _ _).mono ?_;rintro e w0 ⟨rfl,rfl⟩;obtain⟨hsrc,c0,c1,cf,hs,hx⟩:=Hs.o;rw[hA]at c0 c1 cf hs hsrc;have Hx:=Y4 hx;have Hsrc:=Y4 hsrc;have HA:=Y4 hA;obtain⟨W,hW⟩:=gnX ((w.alloc (.cells #[.int .i64 0,.int .i64 0] 37)).alloc (.cells #[.slice a len cap,.int .i64 0] 165));rw[hW]at c0 c1 cf hs Hx Hsrc;clear hx hsrc Hs;go_wp2_with fail;refine(next_any _ _ (by omega) (by omega) _ _ Hsrc.o).mono ?_;rintro e w2 ⟨x,hx,rfl,hsrc2,hc2,hz2⟩;have c0:=(hc2.cell (p:=⟨A,0,none⟩) (by simp only;omega) (by simp only;omega)).trans c0;have c1:=(hc2.cell (p:=⟨A,1,none⟩) (by simp only;omega) (by simp only;omega)).trans c1;have cf:=fun i=>(hc2.frozen (p:=⟨A,i,none⟩) (by simp only;omega) (by simp only;omega)).trans (cf i)
 have Hx2:=Y4 (Hx.o.chg_new hc2 fun i hi=>by have:=HA.o;omega);have Hsrc2:=Y4 hsrc2;have hz:A+2≤w2.heap.size:=by omega
 have p0:(0:Int)≤(x:Int):=by omega
 clear hsrc2 hc2 hz2 Hsrc Hx hW hs hA;go_wp2_with fail;refine(next_any _ _ (by omega) (by omega) _ _ Hsrc2.o).mono ?_;rintro e w3 ⟨y,hy,rfl,hsrc3,hc3,hz3⟩;have c0:=(hc3.cell (p:=⟨A,0,none⟩) (by simp only;omega) (by simp only;omega)).trans c0;have c1:=(hc3.cell (p:=⟨A,1,none⟩) (by simp only;omega) (by simp only;omega)).trans c1;have cf:=fun i=>(hc3.frozen (p:=⟨A,i,none⟩) (by simp only;omega) (by simp only;omega)).trans (cf i)
 have Hx3:=Y4 (Hx2.o.chg_new hc3 fun i hi=>by have:=HA.o;omega);have p1:(0:Int)≤(y:Int):=by omega
 have hz:A+2≤w3.heap.size:=by omega
 clear hsrc3 hc3 hz3 Hsrc2 Hx2;go_wp2_with fail;refine Ys (v:=.agg #[.int .i64 (1+(x:Int)),.int .i64 (1+(y:Int))]) (by simp[results,Tryz.results11,go_sem, *]) rfl ⟨1+(x:Int),1+(y:Int),by omega,by omega,by omega,by omega,rfl,?_⟩;(repeat refine Ya ?_ (by have:=HA.o;simp only;omega) _)
 exact Hx3.o
theorem Zsb{cl cap:Int}(h1:1≤cl)(h2:cl≤4)(h3:1≤cap)(h4:cap≤6):V6 cl cap=0:=by unfold V6;rw[Zm2 (by omega)]
theorem Zs8:(Tryz.prog.info? 37).map (·.size)=some 2:=by kernel_rfl
structure Znh(cl cp:Int)(os:List Opn):Prop where
 repl:Dy cl cp os=(0,0)
 real:∀ (a b i j:Nat) (o p:Opn),b<a→(Kn os)[a]?=some i→(Kn os)[b]?=some j→os[i]?=some o→os[j]?=some p→¬ (0≤o.ans∧o.ans<p.begun)
theorem Zrq{d:Dk}{cl cp:Int}(h:V3 (cl,cp) d)(hc:V6 cl cp=0)(hl:d.ops.length≤4096):Znh cl cp (d.ops.map Subtype.val) :=
 ⟨Lin.repl h hc (by rw[Zq];exact hl),fun _ _ _ _ _ _ a b c d e=>Lin.real h a b c d e⟩
theorem Zov{w:World}{U:Nat→Prop}{T:Tbl}{b B n:Nat}{cp:Int}{d:Dk}(h:Ww w U T b B d)(hml:d.ms.length=n)(hmn:∀ (i:Nat) p,d.ms[i]?=some p→p.2=O5 i)(hx:d.x=Zwu n cp)(ht:d.t=0)(ho:d.ops=[]):V3 ((n:Int),cp) d:=by
 unfold V3 Zt6;rw[ho,hx,ht];refine Lin.start (fun k m hk=>?_) ?_ rfl rfl rfl rfl
 ·rw[Zn,Zlk]at hk;obtain⟨p,hp,rfl⟩:=hk;have e:=hmn k p hp;have hlt:=(Zr.1 hp).1;refine⟨by rw[e];rfl,by show(k:Int)<(n:Int);omega,(h.mach p (Zy hp)).2,by rw[e];rfl⟩
 rw[Zq];exact h.ll
def Zpc(w:World)(e:Ending)(w':World):Prop:=∃ (cl cp:Int) (v:Value) (os:List OpS),e=.returned (.tuple #[.agg #[.int .i64 cl,.int .i64 cp],v])∧V5 w' (fun _=>True) v (os.map Subtype.val)∧(Znp os∧Znh cl cp (os.map Subtype.val))∧Ext w w'
theorem Zo2(a0 a1 a2:Option Addr)(len0 cap0 len1 cap1 len2 cap2:Nat)(all:Bool)(w:World)(r0:Kw w a0 len0)(r1:Kw w a1 len1)(r2:Kw w a2 len2):Calls Tryz.prog 17 #[.slice a0 len0 cap0,.slice a1 len1 cap1,.slice a2 len2 cap2,.bool all] w (Zpc w):=by
 have R0:=Y4 r0;have R1:=Y4 r1;have R2:=Y4 r2;have X0:=Y4 ((Yl w).alloc (.cells #[.int .i64 0,.int .i64 0] 37));have RB:=Y4 (Zlo w (.cells #[.int .i64 0,.int .i64 0] 37));clear r0 r1 r2;go_enter Tryz.func17,Tryz.ntmps17;go_wp2_with fail;obtain⟨rb,hrb⟩:=gnX (w.heap.size);obtain⟨W0,hW0⟩:=gnX (w.alloc (.cells #[.int .i64 0,.int .i64 0] 37));have Hrb:=Y4 hrb;rw[hrb]at RB;rw[hW0]at X0 RB;rw[hW0,hrb];clear hW0 hrb;refine(Zsa _ _ _ _ (Kw.extE R2.o X0.o)).mono ?_;rintro e wb ⟨cl,cp,h1,h2,h3,h4,rfl,hxb⟩;obtain⟨n,rfl⟩:∃ n:Nat,cl=n:=⟨cl.toNat,by omega⟩;have Hc:=Y4 (Zsb h1 h2 h3 h4);have RB1:=Y4 ((hxb.block (Zm3.1 RB.o).1).trans RB.o);have X1:=Y4 (X0.o.trans hxb);have hn0:0<n:=by omega
 have hn4:n≤4:=by omega
 have hrl:=(Zm3.1 RB1.o).1;clear hxb h1 h2 h3 h4 RB X0;go_upto_region 2 with fail;have CB:=Y4 (Xo.new wb #[.int .i64 (n:Int),.int .i64 cp] 37);have xa:=(Yl wb).alloc (.cells #[.int .i64 (n:Int),.int .i64 cp] 37);have RB2:=Y4 ((xa.block hrl).trans RB1.o);have X2:=Y4 (X1.o.trans xa);obtain⟨cb,hcb⟩:=gnX (wb.heap.size);obtain⟨W1,hW1⟩:=gnX (wb.alloc (.cells #[.int .i64 (n:Int),.int .i64 cp] 37));have hrc:rb<cb:=by rw[← hcb];exact hrl
 rw[hcb,hW1]at CB;rw[hW1]at RB2 X2;rw[hW1,hcb];clear hW1 hcb xa RB1 X1 hrl;refine Zlv (S:=fun w'=>w'.cell? ⟨cb,0,none⟩=some (.int .i64 (n:Int))∧w'.cell? ⟨cb,1,none⟩=some (.int .i64 cp)) (by kernel_rfl) ⟨CB.o.at_ 0 (by simp),CB.o.at_ 1 (by simp)⟩ (fun hHeld=>?_);have CD:=Y4 (CB.o.ext (Yl W1).drew);have RD:=Y4 (((Yl W1).drew.block (Zm3.1 RB2.o).1).trans RB2.o);have XD:=Y4 X2.o.drew;obtain⟨Wd,hWd⟩:=gnX (W1.drew);rw[hWd]at CD RD XD hHeld;rw[hWd];clear hWd CB RB2 X2;refine Xv [0,2] 7 (by rfl) (by kernel_rfl) (by kernel_rfl) (fun _ _ d _ _ h=>by cases d<;>exact h) hHeld ?_;simp only[Z3,Z4,Z5,Zw,Zx];repeat(refine Xt (v:=?_) (by kernel_rfl) ?_ ?_;rotate_left;(focus((intro wT hST;(try obtain⟨hS1,hS2⟩:=hST);go_simp);(first|done|(with_reducible rfl))));(try simp only[Act.put,Zv,Zu,Zt]))
 refine Xq ?_;clear hHeld;refine Zm8 (rs:=[1]) (by kernel_rfl) (by simp) ?_;refine Yr (o:=_) rfl (fun K hK=>?_) Yq;go_simp;refine(Zx3 _ _ _ _ (Kw.extE R1.o XD.o)).mono ?_;rintro e wa ⟨T,rfl,hT,hf,hu,hk,hxa⟩;have G:=Y4 (Zp8 hf hu hk);have TA:=Y4 hT;have CA:=Y4 (CD.o.ext hxa);have RA:=Y4 ((hxa.block (Zm3.1 RD.o).1).trans RD.o);have XA:=Y4 (XD.o.trans hxa);clear hT hf hu hk hxa CD RD XD;refine hK.out _ _ ⟨CA.o.at_ 0 (by simp),CA.o.at_ 1 (by simp)⟩ (fun hHeld=>?_);clear hHeld hK K;try simp only[Act.put,Zv,Zu,Zt]
 refine Zm8 (rs:=[3]) (by kernel_rfl) (by simp) ?_;refine Yr (o:=_) rfl (fun K hK=>?_) Yq;go_simp;refine(Iv T G.o n cp hn0 (by omega) Hc.o _ TA.o).mono ?_;rintro e w2 ⟨b,d,U,rfl,hD,hml,hmn,hq1,hn',ht',hq2,hq3,hq4,hx2⟩;obtain⟨B,hB⟩:=gnX (wa.heap.size);rw[hB]at hD;have hcB:cb<B:=by rw[← hB];exact CA.o.lt
 have HwB:=Y4 (show w.heap.size≤B by rw[← hB];exact XA.o.size);have D2:=Y4 hD;have L2:=Y4 (Zov hD hml hmn hq1 ht' hq2);have Hml:=Y4 hml;have Hn0:=Y4 hn';have Ht0:=Y4 ht';have C2:=Y4 (CA.o.ext hx2);have R3:=Y4 ((hx2.block (Zm3.1 RA.o).1).trans RA.o);have X3:=Y4 (XA.o.trans hx2);clear hD hml hmn hn' ht' hx2 hB CA RA XA TA hq1 hq2 hq3 hq4;refine hK.out _ _ ⟨C2.o.at_ 0 (by simp),C2.o.at_ 1 (by simp)⟩ (fun hHeld=>?_);clear hK K;try simp only[Act.put,Zv,Zu,Zt]
 refine Xv [4,5,6,7,8] 0 (by rfl) (by kernel_rfl) (by kernel_rfl) (fun _ _ d _ _ h=>by cases d<;>exact h) hHeld ?_;simp only[Z3,Z4,Z5,Zw,Zx];repeat(refine Xt (v:=?_) (by kernel_rfl) ?_ ?_;rotate_left;(focus((intro wT hST;(try obtain⟨hS1,hS2⟩:=hST);go_simp);(first|done|(with_reducible rfl))));(try simp only[Act.put,Zv,Zu,Zt]))
 refine Xq ?_;clear hHeld;refine Zlh (by kernel_rfl) ?_ _;go_wp2_with fail;refine(Td _ _ _ _ (Kw.extE R0.o X3.o)).mono ?_;rintro e w3 ⟨v,l,rfl,hv,hl65,hx3⟩;have D3:=Y4 (D2.o.ext hx3);have C3:=Y4 (C2.o.ext hx3);have R4:=Y4 ((hx3.block (Zm3.1 R3.o).1).trans R3.o);have X4:=Y4 (X3.o.trans hx3);obtain⟨Al,Cl,rfl,_,_⟩:=hv.shape;obtain⟨m,hm⟩:=gnX (l.length);have HL:=Y4 (show RdE Zys w3 (fun k=>¬ U k) (.slice Al l.length Cl) l from Rd.mono hv fun k hk _ hu=>by have:=(D2.o.hU k hu).2;have hk:w2.heap.size≤k:=hk;omega);have Hm:=Y4 hm;rw[hm]at HL hl65;rw[hm];clear hv hx3 hm D2 C2 R3 X3;go_wp2_with fail;go_loopw [32] (fun o wr=>∃ (i:Nat) (d:Dk) (U:Nat→Prop),i≤m∧o=.int .i64 (i:Int)∧Ww wr U T b B d∧V3 ((n:Int),cp) d∧d.ms.length=n∧d.n≤i∧d.t=i∧Ext w wr∧Xo wr cb [.int .i64 (n:Int),.int .i64 cp]∧wr.heap[rb]?=some (.cells #[.int .i64 0,.int .i64 0] 37)∧RdE Zys wr (fun k=>¬ U k) (.slice Al m Cl) l) (fun o _=>m-(intOf o).toNat);case atStart=>exact⟨0,d,U,by omega,rfl,D3.o,L2.o,Hml.o,by rw[Hn0.o];omega,Ht0.o,X4.o,C3.o,R4.o,HL.o⟩
 clear D3 C3 R4 L2 Hml Hn0 Ht0 HL X4 d U;obtain⟨i,d,U,hi,rfl,hD,hL,hml,hn',ht',hx,hc,hr,hl⟩:=hrel;rename World=>wr
 have D1:=Y4 hD;have L1:=Y4 hL;have Hml:=Y4 hml;have Hn0:=Y4 hn';have Ht0:=Y4 ht';have X5:=Y4 hx;have C5:=Y4 hc;have R5:=Y4 hr;have HL:=Y4 hl;clear hD hL hml hn' ht' hx hc hr hl;by_cases hlt:i<m
 ·obtain⟨hd_i,i0_i,i1_i⟩:=LTl i m;obtain⟨a,ha⟩:=geX (l:=l) (i:=i) (by rw[Hm.o];exact hlt);obtain⟨g,o,c',hvv,_,_,_,hgl,hcc⟩:=Rd.at_ HL.o (k:=i) (by rw[Hm.o];exact hlt);simp only[Ye]at hvv;obtain⟨rfl,-,rfl⟩:=hvv;obtain⟨e0,e1,e2,e3⟩:=Ck ha;have a0:=hcc _ _ e0;have a1:=hcc _ _ e1;have a2:=hcc _ _ e2;have a3:=hcc _ _ e3;rw[← Zkx]at a1 a2 a3;clear hcc e0 e1 e2 e3 ha;go_wp2_with fail;refine(Zp4 T G.o.few G.o b B d a.kind a.cl a.n a.text _ (D1.o.ext ((Yl _).alloc _)) (by have:=Hn0.o;omega) (by have:=Ht0.o;omega) L1.o (by rw[Hml.o];exact hn0)).mono ?_;rintro e w7 ⟨r,d',U',rfl,hD,hL,hC0,hml',ht',hn',hu'⟩;have hC:Chg (fun k=>B≤k) _ _:=hC0.mono fun q _ hq=>(D1.o.hU q hq).1
  have D7:=Y4 hD;have L7:=Y4 hL;have xa:=(Yl wr).alloc (.cells #[.int .i64 a.kind,.int .i64 a.cl,.int .i64 a.n,.string a.text] 78);have X7:=Y4 ((X5.o.trans xa).chg_new hC (fun q hq=>Zm5 HwB.o hq));have C7:=Y4 ((C5.o.ext xa).chg hC (by omega));have R7:=Y4 (by
   have h1:=(xa.block (Zm3.1 R5.o).1).trans R5.o;exact(hC.block rb (Zm3.1 h1).1 (by omega)).trans h1)
  have h8:=Rd.mono (T:=fun k=>¬ U k∧k<(wr.alloc (.cells #[.int .i64 a.kind,.int .i64 a.cl,.int .i64 a.n,.string a.text] 78)).heap.size) (RdE.ext HL.o xa) fun k hk hl=>⟨hk,hl⟩
  have h9:=Rd.chg h8 hC0 (fun k hk=>hk.1);have HL7:=Y4 (Rd.mono (T:=fun k=>¬ U' k) h9 fun k hk _ hu=>(hu' k hu).elim hk.1 fun h=>by have:=hk.2;omega);clear h8 h9;have Hml':=Y4 hml';have Ht':=Y4 ht';have Hn':=Y4 hn';clear hD hL hC hC0 hml' ht' hn' hu' a0 a1 a2 a3 xa;go_wp2_with fail;go_roundw;case rel=>exact⟨i+1,d',U',by omega,by go_num,D7.o,L7.o,by rw[Hml'.o];exact Hml.o,by have:=Hn'.o;have:=Hn0.o;omega,by rw[Ht'.o,Ht0.o],X7.o,C7.o,R7.o,HL7.o⟩
  (simp[intOf];omega)
 have hd_i:=GEl i m;obtain rfl:i=m:=by omega
 have hrl:=(Zm3.1 R5.o).1;go_upto_if 40 with fail;go_cut [] (fun wq=>∃ (d:Dk) (U:Nat→Prop),Ww wq U T b B d∧V3 ((n:Int),cp) d∧Ext w wq∧Xo wq cb [.int .i64 (n:Int),.int .i64 cp]∧wq.heap[rb]?=some (.cells #[.int .i64 0,.int .i64 0] 37));case first =>
  cases all with
  | false =>
   go_wp2_with fail;go_meet;exact⟨d,U,D1.o,L1.o,X5.o,C5.o,R5.o⟩
  | true =>
   go_wp2_with fail;refine(Zxj T G.o.few G.o b B 20000 (Yn _) d _ D1.o L1.o (by have:=Hn0.o;omega) (by have:=Ht0.o;omega) (by rw[Hml.o];exact hn4)).mono ?_;rintro e w6 ⟨z,d',U',rfl,hD,hL,hC,_⟩;have D6:=Y4 hD;have L6:=Y4 hL;have X6:=Y4 (X5.o.chg_new hC (fun q hq=>Zm5 HwB.o hq));have C6:=Y4 (C5.o.chg hC (by omega));have R6:=Y4 ((hC.block rb hrl (by omega)).trans R5.o);clear hD hL hC;go_wp2_with fail;go_meet;exact⟨d',U',D6.o,L6.o,X6.o,C6.o,R6.o⟩
 clear D1 L1 Hml Hn0 Ht0 X5 C5 R5 HL d U;obtain⟨d,U,hD,hL,hx,hc,hr⟩:=hcut;rename World=>w6
 have ZE:=Y4 (Zrq hL Hc.o hD.lo);clear hL;have D6:=Y4 hD;have X6:=Y4 hx;have C6:=Y4 hc;have R6:=Y4 hr;obtain⟨Ao,Co,hov,_,_⟩:=hD.own.shape;obtain⟨no,hno⟩:=gnX (d.ops.length);rw[hno]at hov;have Hov:=Y4 hov;clear hD hx hc hr hov hno;go_upto_region 13 with fail;refine Zlv (S:=fun w'=>w'.cell? ⟨cb,0,none⟩=some (.int .i64 (n:Int))∧w'.cell? ⟨cb,1,none⟩=some (.int .i64 cp)) (by kernel_rfl) ⟨C6.o.at_ 0 (by simp),C6.o.at_ 1 (by simp)⟩ (fun hHeld=>?_);have Dd:=Y4 (D6.o.ext (Yl w6).drew);have Xd:=Y4 X6.o.drew;have Cd:=Y4 (C6.o.ext (Yl w6).drew);have Rd_:=Y4 (((Yl w6).drew.block (Zm3.1 R6.o).1).trans R6.o);obtain⟨Wd,hWd⟩:=gnX (w6.drew);rw[hWd]at Dd Xd Cd Rd_ hHeld;rw[hWd];clear hWd D6 X6 C6 R6;have cst:Chg (· = rb) Wd (Wd.setCells rb 0 [.int .i64 (n:Int),.int .i64 cp]):=Xi (S:=(· = rb)) (.inl rfl) (Chg.refl _ _);have hth:=(Zn0 Rd_.o).there (o:=0) (n:=2) (by simp);have hra:=Ziw Wd rb 0 [.int .i64 (n:Int),.int .i64 cp] hth;have c3:Wd.cell? ⟨b,3,none⟩=some (.slice Ao no Co):=by rw[← Hov.o];exact Dd.o.c 3 rfl
 have nbr:b≠rb:=by have:=(Dd.o.hU b Dd.o.ub).1;omega
 have ncr:cb≠rb:=by omega
 have q0:=Y4 (hra 0 _ rfl);have q1:=Y4 (hra 1 _ rfl);have ZO:=Y4 (Dd.o.opsFar (by omega) Rd_.o (by intro u hu s e;subst e;simp at hu) cst);have ZX:=Y4 (Xd.o.chg_new cst (fun q e=>by rw[e,← Hrb.o];exact Yn _));have ZF:=Y4 (show Znp d.ops from⟨Dd.o.lo,fun o ho=>(Dd.o.n16 o ho).2.fitO⟩);have d3:=(cst.cell (p:=⟨b,3,none⟩) Dd.o.cells.lt nbr).trans c3;have e0:=(cst.cell (p:=⟨cb,0,none⟩) Cd.o.lt ncr).trans (Cd.o.at_ 0 (by simp));have e1:=(cst.cell (p:=⟨cb,1,none⟩) Cd.o.lt ncr).trans (Cd.o.at_ 1 (by simp));rw[Hov.o]at ZO;have Hth:=Y4 hth;obtain⟨Ws,hWs⟩:=gnX (Wd.setCells rb 0 [.int .i64 (n:Int),.int .i64 cp]);rw[hWs]at q0 q1 ZO ZX d3 e0 e1;clear cst hth hra;refine Xv [0,1] 3 (by rfl) (by kernel_rfl) (by kernel_rfl) (fun _ _ d _ _ h=>by cases d<;>exact h) hHeld ?_;simp only[Z3,Z4,Z5,Zw,Zx];repeat(refine Xt (v:=?_) (by kernel_rfl) ?_ ?_;rotate_left;(focus((intro wT hST;(try obtain⟨hS1,hS2⟩:=hST);go_simp);(first|done|(with_reducible rfl))));(try simp only[Act.put,Zv,Zu,Zt]))
 refine Xq ?_;refine Zm8 (rs:=[2]) (by kernel_rfl) (by simp) ?_;refine Yr (o:=_) rfl (fun K hK=>?_) Yq;go_simp;refine(Zvv _ b Ao no Co c3).mono ?_;rintro e w7 ⟨rfl,rfl⟩;refine hK.out _ _ hHeld (fun hHeld=>?_);clear hK K hHeld;try simp only[Act.put,Zv,Zu,Zt]
 refine Zm8 (rs:=[3]) (by kernel_rfl) (by simp) ?_;refine Yr (o:=_) rfl (fun K hK=>?_) Yq;refine J0 rfl _ _ _ rfl rb 0 #[.int .i64 (n:Int),.int .i64 cp] rfl rfl Hth.o (by rw[Zs8];rfl) (by simp[Value.oneCell']) ?_;rw[show Wd.setCells rb 0 (#[.int .i64 (n:Int),.int .i64 cp]:Array Value).toList=Ws from hWs];refine hK.out _ _ ⟨e0,e1⟩ (fun hHeld=>?_);clear hK K;try simp only[Act.put,Zv,Zu,Zt]
 refine Xv [4] 0 (by rfl) (by kernel_rfl) (by kernel_rfl) (fun _ _ d _ _ h=>by cases d<;>exact h) hHeld ?_;simp only[Z3,Z4,Z5,Zw,Zx];repeat(refine Xt (v:=?_) (by kernel_rfl) ?_ ?_;rotate_left;(focus((intro wT hST;(try obtain⟨hS1,hS2⟩:=hST);go_simp);(first|done|(with_reducible rfl))));(try simp only[Act.put,Zv,Zu,Zt]))
 refine Xq ?_;clear hHeld;refine Zlh (by kernel_rfl) ?_ _;go_wp2_with fail;refine Ys (v:=.tuple #[.agg #[.int .i64 (n:Int),.int .i64 cp],.slice Ao no Co]) (by simp[results,Tryz.results17,go_sem,q0.o,q1.o]) rfl ?_;exact⟨_,_,_,_,rfl,ZO.o,⟨ZF.o,ZE.o⟩,ZX.o⟩
def nmA:Nm:=⟨⟨#[97]⟩,⟨#[97]⟩,⟨#[97]⟩⟩
def Zmk:Rc:=⟨0,0,⟨#[]⟩,0⟩
def exL(nv:Value):List Opn:=[⟨0,1,5,nv,[nmA],⟨0,0,⟨#[]⟩,Zmk,0⟩,0,9,12,⟨24,0,⟨#[97]⟩,Zmk,0⟩⟩,⟨1,1,5,nv,[nmA],⟨0,0,⟨#[]⟩,Zmk,0⟩,1,5,11,⟨0,-1,⟨#[]⟩,Zmk,0⟩⟩]
theorem Zq2(nv:Value):Kn (exL nv)=[1,0]:=by
 refine(Zz9.unique ⟨Zld.2 ⟨fun j hj=>by rw[Zi.1 hj];rfl,List.pairwise_singleton _ _⟩,fun i=>?_⟩ (Jq (exL nv))).symm
 match i with
 | 0=>exact⟨fun _=>rfl,fun _=>by simp⟩
 | 1=>exact⟨fun _=>rfl,fun _=>by simp⟩
 | i+2=>exact⟨fun h=>by simp at h,fun h=>by have h2:Fs (exL nv) (i+2)=false:=rfl;rw[h2]at h;simp at h⟩
theorem Zo8(nv:Value):Ve 2 1 (exL nv) 50=([1,0],3,0):=by kernel_rfl
theorem Zo5(nv:Value):(Dy 2 1 (exL nv)).2=0:=by
 unfold Dy;rw[Zq2]
 kernel_rfl
theorem Tk(w:World):Calls Tryz.prog 55 #[] w fun e w'=>e=.returned (.slice (some ⟨w.heap.size+1,0,none⟩) 2 2)∧w'=(w.alloc (.cells #[.string ⟨#[97]⟩,.string ⟨#[97]⟩,.string ⟨#[97]⟩] 109)).alloc (.cells (Gc (exL (.slice (some ⟨w.heap.size,0,none⟩) 1 1))).toArray 55):=by
 go_enter Tryz.func55,Tryz.ntmps55;go_wp2_with fail;go_ret;exact⟨rfl,rfl⟩
theorem Zoh(w:World)(l:List Opn)(t:TypeId)(b:Nat)(hb:w.heap[b]?=some (.cells (Gc l).toArray t))(S:Nat→Prop)(hS:S b)(hl:l.length≤1000)(hn:∀ o∈l,Vo w S o.nv o.ns):V5 w S (.slice (some ⟨b,0,none⟩) l.length l.length) l:=by
 refine⟨⟨Bd l,_,_,rfl,Yn _,by unfold maxLen;omega,fun _=>⟨b,0,rfl,hS,(Zm3.1 hb).1,fun j u hu=>?_⟩⟩,hn⟩;simp only[World.cell?,hb];rw[Zlj,← hu];simp
theorem Zom(w:World)(b:Nat)(t:TypeId)(hb:w.heap[b]?=some (.cells #[.string ⟨#[97]⟩,.string ⟨#[97]⟩,.string ⟨#[97]⟩] t))(S:Nat→Prop)(hS:S b):Vo w S (.slice (some ⟨b,0,none⟩) 1 1) [nmA]:=by
 refine⟨rfl,_,_,rfl,Yn _,by unfold maxLen;omega,fun _=>⟨b,0,rfl,hS,(Zm3.1 hb).1,fun j u hu=>?_⟩⟩;simp only[World.cell?,hb];rw[Zlj,← hu];simp[Wo,nmA];rfl
theorem Oj(nv:Value):(∀ o∈exL nv,o.fits)∧Pm (exL nv):=by
 unfold exL Pm;refine⟨fun o ho=>?_,fun o ho n hn=>?_⟩
 ·simp only[Zg,Zh,Zl8]at ho;rcases ho with rfl|rfl<;>exact⟨by unfold I64;simp;done,by unfold I64;simp;done⟩
 simp only[Zg,Zh,Zl8]at ho;rcases ho with rfl|rfl<;>(rw[Zi.1 hn];exact Zm5 (show nmA.k.size≤1 from Yn _) (by unfold maxLen;omega))
theorem Zn3(w:World):V5 ((w.alloc (.cells #[.string ⟨#[97]⟩,.string ⟨#[97]⟩,.string ⟨#[97]⟩] 109)).alloc (.cells (Gc (exL (.slice (some ⟨w.heap.size,0,none⟩) 1 1))).toArray 55)) (fun k=>w.heap.size≤k) (.slice (some ⟨w.heap.size+1,0,none⟩) 2 2) (exL (.slice (some ⟨w.heap.size,0,none⟩) 1 1)):=by
 refine Zoh _ (exL _) 55 (w.heap.size+1) ?_ _ (Zk7 _) (by simp[exL]) (fun o ho=>?_)
 ·have:=Zlo (w.alloc (.cells #[.string ⟨#[97]⟩,.string ⟨#[97]⟩,.string ⟨#[97]⟩] 109)) (.cells (Gc (exL (.slice (some ⟨w.heap.size,0,none⟩) 1 1))).toArray 55)
  rwa [show(w.alloc (.cells #[.string ⟨#[97]⟩,.string ⟨#[97]⟩,.string ⟨#[97]⟩] 109)).heap.size=w.heap.size+1 by simp]at this
 have hb:((w.alloc (.cells #[.string ⟨#[97]⟩,.string ⟨#[97]⟩,.string ⟨#[97]⟩] 109)).alloc (.cells (Gc (exL (.slice (some ⟨w.heap.size,0,none⟩) 1 1))).toArray 55)).heap[w.heap.size]?=some (.cells #[.string ⟨#[97]⟩,.string ⟨#[97]⟩,.string ⟨#[97]⟩] 109):=by
  rw[Zj6 _ _ _ (by simp)];exact Zlo w _
 have:=Zom _ w.heap.size _ hb (fun k=>w.heap.size≤k) (Yn _);simp only[exL,Zg,Zh,Zl8]at ho;rcases ho with rfl|rfl<;>exact this
theorem Zzi(va vb:Value)(l:List Nat)(S T:Nat→Prop)(w:World)(ha:Vi w S va l)(hb:Vi w T vb l)(hl:l.length≤1000000) :
 Calls Tryz.prog 26 #[va,vb] w fun e w'=>e=.returned (.bool true)∧Ext w w':=by
 obtain⟨n,hln⟩:=gnX (l.length);have Ha:=Y4 ha;have Hb:=Y4 hb;have Hln:=Y4 hln;obtain⟨_,A,ca,rfl,ha1,ha2,_⟩:=ha;obtain⟨_,B,cb,rfl,hb1,hb2,_⟩:=hb;unfold maxLen at ha2 hb2;rw[hln]at ha1 hb1 hl⊢;clear hln;go_enter Tryz.func26,Tryz.ntmps26;go_wp2_with fail;go_loopw [13] (fun o wr=>∃ i:Nat,i≤n∧o=.int .i64 (i:Int)∧Ext w wr) (fun o _=>n-(intOf o).toNat);case atStart=>exact⟨0,by omega,rfl,Yl _⟩
 obtain⟨i,hi,rfl,hx⟩:=hrel;by_cases hin:i<n
 ·have hd:decide ((i:Int)<(n:Int))=true:=by simpa using hin
  obtain⟨x,hxx⟩:∃ x,l[i]?=some x:=⟨l[i]'(by have:=Hln.o;omega),by simp⟩;obtain⟨ga,oa,c1,e1,_,_,_,hc1⟩:=Vi.get (Ha.o.ext hx) hxx;obtain⟨gb,ob,c2,e2,_,_,_,hc2⟩:=Vi.get (Hb.o.ext hx) hxx;rw[Hln.o]at e1 e2;simp only[Ye]at e1 e2;obtain⟨rfl,_,rfl⟩:=e1;obtain⟨rfl,_,rfl⟩:=e2;obtain⟨_,d1⟩:=hc1;obtain⟨_,d2⟩:=hc2;have i0:(0:Int)≤(i:Int):=by omega
  have i1:(i:Int)<(n:Int):=by omega
  have Hx:=Y4 hx;clear hx hxx;go_wp2_with fail;go_quiet (fail);go_wp2_with fail;go_roundw;case rel=>exact⟨i+1,by omega,by go_num,Hx.o.drewN _⟩
  simp[intOf];omega
 have hd:decide ((i:Int)<(n:Int))=false:=by simp;omega
 go_wp2_with fail;go_ret;exact⟨rfl,hx⟩
theorem Gh(w:World):Calls Tryz.prog 55 #[] w fun e w'=>∃ v nv,e=.returned v∧V5 w' (fun k=>w.heap.size≤k) v (exL nv)∧Ext w w':=by
 refine(Tk w).mono ?_;rintro e w' ⟨rfl,rfl⟩;exact⟨_,_,rfl,Zn3 w,((Yl w).alloc _).alloc _⟩
theorem Zzs(w:World)(t:TypeId):Vi (w.alloc (.cells #[.int .i64 1,.int .i64 0] t)) (fun _=>True) (.slice (some ⟨w.heap.size,0,none⟩) 2 2) [1,0]:=by
 have h1:(w.alloc (.cells #[.int .i64 1,.int .i64 0] t)).heap[w.heap.size]?=some (.cells #[.int .i64 1,.int .i64 0] t):=Zlo w _;refine⟨rfl,_,_,rfl,Yn _,by unfold maxLen;omega,fun _=>⟨w.heap.size,0,rfl,trivial,(Zm3.1 h1).1,fun j u hu=>?_⟩⟩;simp only[World.cell?,h1];rw[Zlj,← hu];simp[Zxu]
theorem Tx(w:World):Calls Tryz.prog 21 #[] w fun e w'=>e=.returned (.bool true)∧Ext w w':=by
 go_enter Tryz.func21,Tryz.ntmps21;go_wp2_with fail;go_upto_region 2 with fail;refine Zlv (S:=fun w'=>w'.cell? ⟨w.heap.size,0,none⟩=some (.int .i64 2)∧w'.cell? ⟨w.heap.size,1,none⟩=some (.int .i64 1)) (by kernel_rfl) ?_ (fun hHeld=>?_)
 ·exact⟨by go_simp,by go_simp⟩
 refine Zkv (i:=0) (oi:=_) (v:=?_) rfl (by kernel_rfl) (by kernel_rfl) (by kernel_rfl) (fun _ _ _ h=>h) (Or.inl ⟨by rfl,?_⟩) (by assumption) ?_;rotate_left;(focus((intro w hSw;(try dsimp only at hSw);go_simp);(first|done|(with_reducible rfl))));(try simp only[Act.put]);(try simp only[Zv]);refine Zm8 (rs:=[1]) (by kernel_rfl) (by simp) ?_;refine Yr (o:=_) rfl (fun K hK=>?_) Yq;go_simp;have c0:(w.alloc (.cells #[.int .i64 2,.int .i64 1] 37)).drew.cell? ⟨w.heap.size,0,none⟩=some (.int .i64 2):=by go_simp
 have c1:(w.alloc (.cells #[.int .i64 2,.int .i64 1] 37)).drew.cell? ⟨w.heap.size,1,none⟩=some (.int .i64 1):=by go_simp
 have hb:w.heap.size<(w.alloc (.cells #[.int .i64 2,.int .i64 1] 37)).drew.heap.size:=by simp[World.drew]
 have X0:Ext w (w.alloc (.cells #[.int .i64 2,.int .i64 1] 37)).drew:=((Yl w).alloc _).drew;refine(Gh _).mono ?_;rintro x w2 ⟨v2,nv2,rfl,ho2,hx2⟩;replace c0:=(hx2.cell (p:=⟨w.heap.size,0,none⟩) hb).trans c0;replace c1:=(hx2.cell (p:=⟨w.heap.size,1,none⟩) hb).trans c1;replace hb:=Zm1 hb hx2.size;have Ho2:=Y4 ho2;have X2:=Y4 (X0.trans hx2);clear ho2 hx2 X0;go_simp;refine hK.out _ _ ⟨c0,c1⟩ (fun hHeld=>?_);clear hK K;try simp only[Act.put,Zv,Zu,Zt]
 refine Zm8 (rs:=[2]) (by kernel_rfl) (by simp) ?_;refine Yr (o:=_) rfl (fun K hK=>?_) Yq;go_simp;refine(Zxh 2 1 50 _ _ _ Ho2.o (Oj nv2).1 (Oj nv2).2).mono ?_;rintro x w3 ⟨v3,rfl,hn3,hx3⟩;rw[Zo8]at hn3⊢;replace c0:=(hx3.cell (p:=⟨w.heap.size,0,none⟩) hb).trans c0;replace c1:=(hx3.cell (p:=⟨w.heap.size,1,none⟩) hb).trans c1;replace hb:=Zm1 hb hx3.size;have Hn3:=Y4 hn3;have X3:=Y4 (X2.o.trans hx3);clear hn3 hx3;go_simp;refine hK.out _ _ ⟨c0,c1⟩ (fun hHeld=>?_);clear hK K;try simp only[Act.put,Zv,Zu,Zt]
 refine Xv [3,4,5,6,7,8,9] 0 (by rfl) (by kernel_rfl) (by kernel_rfl) (fun _ _ d _ _ h=>by cases d<;>exact h) (by assumption) ?_;simp only[Z3,Z4,Z5,Zw,Zx];repeat(refine Xt (v:=?_) (by kernel_rfl) ?_ ?_;rotate_left;(focus((intro w hSw;(try dsimp only at hSw);go_simp);(first|done|(with_reducible rfl))));(try simp only[Act.put]);(try simp only[Zv]))
 refine Xq ?_;refine Zlh (by kernel_rfl) ?_ _;go_simp;clear hHeld;go_upto_region 3 with fail;refine Zlv (S:=fun w'=>w'.cell? ⟨w.heap.size,0,none⟩=some (.int .i64 2)∧w'.cell? ⟨w.heap.size,1,none⟩=some (.int .i64 1)) (by kernel_rfl) ?_ (fun hHeld=>?_)
 ·exact⟨by go_simp,by go_simp⟩
 refine Zkv (i:=0) (oi:=_) (v:=?_) rfl (by kernel_rfl) (by kernel_rfl) (by kernel_rfl) (fun _ _ _ h=>h) (Or.inl ⟨by rfl,?_⟩) (by assumption) ?_;rotate_left;(focus((intro w hSw;(try dsimp only at hSw);go_simp);(first|done|(with_reducible rfl))));(try simp only[Act.put]);(try simp only[Zv]);refine Zm8 (rs:=[1]) (by kernel_rfl) (by simp) ?_;refine Yr (o:=_) rfl (fun K hK=>?_) Yq;go_simp;refine(Gh _).mono ?_;rintro x w4 ⟨v4,nv4,rfl,ho4,hx4⟩;replace c0:=(hx4.cell (p:=⟨w.heap.size,0,none⟩) hb).trans c0;replace c1:=(hx4.cell (p:=⟨w.heap.size,1,none⟩) hb).trans c1;replace hb:=Zm1 hb hx4.size;have Ho4:=Y4 ho4;have Hn4:=Y4 (Hn3.o.ext (Yh (Yl w3).drew hx4));have X4:=Y4 (X3.o.trans (Yh (Yl w3).drew hx4));clear ho4 hx4;go_simp;refine hK.out _ _ ⟨c0,c1⟩ (fun hHeld=>?_);clear hK K;try simp only[Act.put,Zv,Zu,Zt]
 refine Zm8 (rs:=[2]) (by kernel_rfl) (by simp) ?_;refine Yr (o:=_) rfl (fun K hK=>?_) Yq;go_simp;refine(Nj 2 1 _ _ _ Ho4.o (Oj nv4).1 (Oj nv4).2).mono ?_;rintro x w5 ⟨rfl,hx5⟩;rw[Zo5];replace c0:=(hx5.cell (p:=⟨w.heap.size,0,none⟩) hb).trans c0;replace c1:=(hx5.cell (p:=⟨w.heap.size,1,none⟩) hb).trans c1;have Hn5:=Y4 (Hn4.o.ext hx5);have X5:=Y4 (X4.o.trans hx5);clear hx5;go_simp;refine hK.out _ _ ⟨c0,c1⟩ (fun hHeld=>?_);clear hK K;try simp only[Act.put,Zv,Zu,Zt]
 refine Xv [3,4,5,6,7] 0 (by rfl) (by kernel_rfl) (by kernel_rfl) (fun _ _ d _ _ h=>by cases d<;>exact h) (by assumption) ?_;simp only[Z3,Z4,Z5,Zw,Zx];repeat(refine Xt (v:=?_) (by kernel_rfl) ?_ ?_;rotate_left;(focus((intro w hSw;(try dsimp only at hSw);go_simp);(first|done|(with_reducible rfl))));(try simp only[Act.put]);(try simp only[Zv]))
 refine Xq ?_;refine Zlh (by kernel_rfl) ?_ _;go_simp;clear hHeld c0 c1;go_wp2_with fail;refine(Zzi v3 _ [1,0] _ _ _ (Hn5.o.ext ((Yl _).alloc _)) (Zzs _ _) (by simp)).mono ?_;rintro x w6 ⟨rfl,hx6⟩;have X6:=Y4 (X5.o.trans (((Yl w5).alloc _).trans hx6));clear hx6;go_wp2_with fail;refine(Gh _).mono ?_;rintro x w7 ⟨v7,nv7,rfl,ho7,hx7⟩;have Ho7:=Y4 ho7;have X7:=Y4 (X6.o.trans hx7);clear ho7 hx7;go_wp2_with fail;refine(Lw _ _ _ Ho7.o (by simp[exL])).mono ?_;rintro x w8 ⟨v8,rfl,hn8,hx8⟩;rw[Zq2]at hn8;have Hn8:=Y4 hn8;have X8:=Y4 (X7.o.trans hx8);clear hn8 hx8;go_wp2_with fail;refine(Zzi v8 _ [1,0] _ _ _ (Hn8.o.ext ((Yl _).alloc _)) (Zzs _ _) (by simp)).mono ?_;rintro x w9 ⟨rfl,hx9⟩;have X9:=Y4 (X8.o.trans (((Yl w8).alloc _).trans hx9));clear hx9;go_wp2_with fail;go_ret;exact⟨rfl,X9.o⟩
namespace historyAccepts
theorem walk(a0:Option Addr)(len0 cap0:Nat)(z0:List Int)(a1:Option Addr)(len1 cap1:Nat)(z1:List Int)(a2:Option Addr)(len2 cap2:Nat)(z2:List Int)(a3:Bool)(w:World)
 (w0:IsRow .i64 w a0 len0 cap0 z0) (w1:IsRow .i64 w a1 len1 cap1 z1) (w2:IsRow .i64 w a2 len2 cap2 z2) :
 Calls Tryz.prog 6 #[.slice a0 len0 cap0,.slice a1 len1 cap1,.slice a2 len2 cap2,.bool a3] w fun e w'=>e=.returned (.bool true)∧Below w.heap.size w w':=by
 have R0:=Y4 (Kw.of_row w0);have R1:=Y4 (Kw.of_row w1);have R2:=Y4 (Kw.of_row w2);clear w0 w1 w2;go_enter Tryz.func6,Tryz.ntmps6;go_wp2_with fail;refine(Zo2 _ _ _ _ _ _ _ _ _ _ _ R0.o R1.o R2.o).mono ?_;rintro e wa ⟨cl,cp,v,os,rfl,ho,⟨hf,hexp⟩,hxa⟩;obtain⟨A,C,rfl⟩:=ho.shape;obtain⟨os1,hos1⟩:=gnX (os.map Subtype.val);have HK:=Y4 (show Pm os1 from hos1▸hf.keys);have HFt:=Y4 (show ∀ o∈os1,o.fits from hos1▸hf.fits);rw[hos1]at ho hexp;have hn4:os1.length≤4096:=by rw[← hos1,Zq];exact hf.1
 obtain⟨n,hn⟩:=gnX (os1.length);rw[hos1,hn];rw[hn]at hn4;have Hn:=Y4 hn;have HX:=Y4 hexp;have Oa:=Y4 ho;clear ho hf hexp hos1;go_upto_region 2 with fail;have CB:=Y4 (Xo.new wa #[.int .i64 cl,.int .i64 cp] 37);have xa:=(Yl wa).alloc (.cells #[.int .i64 cl,.int .i64 cp] 37);have Oa:=Y4 (by have h:=Oa.o.ext xa;rwa [hn]at h);have Xa:=Y4 (hxa.trans xa);obtain⟨cb,hcb⟩:=gnX (wa.heap.size);obtain⟨W1,hW1⟩:=gnX (wa.alloc (.cells #[.int .i64 cl,.int .i64 cp] 37));rw[hcb,hW1]at CB;rw[hW1]at Oa Xa;rw[hW1,hcb];have c0:=CB.o.at_ 0 (by simp);have c1:=CB.o.at_ 1 (by simp);simp only[Zx,Zw]at c0 c1;clear hW1 hcb xa hxa hn CB;go_wp2_with fail;refine(Nj cl cp _ os1 _ Oa.o HFt.o HK.o).mono ?_;rintro e wb ⟨rfl,hxb⟩;rw[HX.o.repl];have Ob:=Y4 (Oa.o.ext hxb);have Xb:=Y4 (Xa.o.trans hxb);clear hxb c0 c1 Oa Xa;go_wp2_with fail;refine(Lw _ os1 _ Ob.o (by rw[Hn.o];omega)).mono ?_;rintro e wc ⟨vo,rfl,hno,hxc⟩;obtain⟨Ao,Co,rfl⟩:=hno.shape;obtain⟨m,hm⟩:=gnX ((Kn os1).length);rw[hm]at hno⊢;have hm4:m≤4096:=by rw[← hm];have:=O9 os1;have:=Hn.o;omega
 have Hm:=Y4 hm;have No:=Y4 hno;have Oc:=Y4 (Ob.o.ext hxc);have Xc:=Y4 (Xb.o.trans hxc);clear hno hxc hm Ob Xb;go_wp2_with fail;go_loopw [36] (fun o wr=>∃ i:Nat,i≤m∧o=.int .i64 (i:Int)∧Ext wc wr) (fun o _=>m-(intOf o).toNat);case atStart=>exact⟨0,by omega,rfl,Yl _⟩
 obtain⟨i,hi,rfl,hx⟩:=hrel;rename World=>wr
 have Hx:=Y4 hx;clear hx;by_cases hlt:i<m
 ·obtain⟨hd_i,i0_i,i1_i⟩:=LTl i m;obtain⟨xi,hxi⟩:=geX (l:=(Kn os1)) (i:=i) (by rw[Hm.o];exact hlt);obtain⟨ox,hox⟩:=Pz (Zy hxi);obtain⟨g,p,c,hv,hc1,hc2,_,_,ci⟩:=Vi.get (show Vi wr _ (.slice Ao (Kn os1).length Co) (Kn os1) by rw[Hm.o];exact No.o.ext Hx.o) hxi;rw[Hm.o]at hv hc1;simp only[Ye]at hv;obtain⟨rfl,-,rfl⟩:=hv;have s1:(i:Int)≤(Co:Int):=by omega
  have s2:i≤Co:=by omega
  unfold maxLen at hc2;have hxn:=(Zr.1 hox).1;rw[Hn.o]at hxn;have Hxi:=Y4 hxi;have Hox:=Y4 hox;clear hxi hox;go_upto_region 8 with fail;go_loopw [45] (fun o wr2=>∃ j:Nat,j≤i∧o=.int .i64 (j:Int)∧Ext wr wr2) (fun o _=>i-(intOf o).toNat);case atStart=>exact⟨0,by omega,rfl,Yl _⟩
  obtain⟨j,hj,rfl,hx⟩:=hrel;rename World=>w2
  have Hy:=Y4 hx;have Hz:=Y4 (Hx.o.trans hx);clear hx;by_cases hlt2:j<i
  ·obtain⟨hd_j,i0_j,i1_j⟩:=LTl j i;obtain⟨yj,hyj⟩:=geX (l:=(Kn os1)) (i:=j) (by rw[Hm.o];omega);obtain⟨oy,hoy⟩:=Pz (Zy hyj);obtain⟨g2,p2,c2,hv2,_,_,_,_,cj⟩:=Vi.get (show Vi w2 _ (.slice (some ⟨g,p,none⟩) (Kn os1).length Co) (Kn os1) by rw[Hm.o];exact No.o.ext Hz.o) hyj;rw[Hm.o]at hv2;simp only[Ye,Yd,Zly,Zls,Zlc]at hv2;obtain⟨⟨rfl,rfl⟩,rfl⟩:=hv2;have hyn:=(Zr.1 hoy).1;rw[Hn.o]at hyn;have HO:=Y4 (show V5 w2 (fun _=>True) (.slice A os1.length C) os1 by rw[Hn.o];exact Oc.o.ext Hz.o);obtain⟨gx,px,cx,hvx,_,_,_,hX,_⟩:=HO.o.get Hox.o;obtain⟨gy,py,cy,hvy,_,_,_,hY,_⟩:=HO.o.get hoy;rw[Hn.o]at hvx hvy;simp only[Ye]at hvx;obtain⟨rfl,-,rfl⟩:=hvx;simp only[Ye,Yd,Zly,Zls,Zlc]at hvy;obtain⟨⟨rfl,rfl⟩,rfl⟩:=hvy;have Hpr:=Y4 (show Pv ox oy=false by
    have:=HX.o.real i j xi yj ox oy hlt2 Hxi.o hyj Hox.o hoy;unfold Pv;cases h1:decide (0≤ox.ans)
    ·rfl
    rw[Zhz];exact Yg fun h2=>this ⟨Zky h1,h2⟩)
   have HXo:=Y4 hX;have HYo:=Y4 hY;have LA:∀ w',(∃ z:Wf,w'=later w2 z.n z.os)→Ud w' gx (px+xi*23) ox:=fun w' ⟨z,e⟩=>by rw[e];exact HXo.o.ext (⟨_,_,rfl⟩)
   have LL:∀ w',(∃ z:Wf,w'=later w2 z.n z.os)→Ud w' gx (px+yj*23) oy:=fun w' ⟨z,e⟩=>by rw[e];exact HYo.o.ext (⟨_,_,rfl⟩)
   have t1:decide ((xi:Int)<0)=false:=Yg;have t2:decide ((n:Int)≤(xi:Int))=false:=Yg;have t3:decide ((yj:Int)<0)=false:=Yg;have t4:decide ((n:Int)≤(yj:Int))=false:=Yg;have u1:(0:Int)≤(xi:Int):=by omega
   have u2:(xi:Int)<(n:Int):=by omega
   have u3:(0:Int)≤(yj:Int):=by omega
   have u4:(yj:Int)<(n:Int):=by omega
   clear hyj hoy hX hY ci;go_upto_region 10 with fail;have hun:=Yb;refine Y8 (by kernel_rfl) (by kernel_rfl) ?_;repeat(first|((with_reducible refine Zzm ?_ ?_ LA ?_);(focus(go_simp;done));rfl;(try simp only[Act.put,Zv,Zu,Zt]))|((with_reducible refine Zzm ?_ ?_ LL ?_);(focus(go_simp;done));rfl;(try simp only[Act.put,Zv,Zu,Zt]))|((with_reducible refine Yu ?_);intro K hK;go_simp;first|((with_reducible refine hK _ ?_);clear hK K)|(apply Exists.intro;refine⟨fun _=>?_,hK _ ?_⟩;(go_at_call 19;exact Xy ((Zzp _ _ _).mono fun e w' h=>by rw[Hpr.o]at h;exact h));clear hK K)))
   (with_reducible refine Yt ?_)
   intro w9 hy9;clear hun LA LL;try simp only[Yc]
   go_wp2_with fail;go_roundw;case rel=>exact⟨j+1,by omega,by go_num,Hy.o.trans hy9⟩
   (simp[intOf];omega)
  have hd_j:=GEl j i;go_wp2_with fail;go_roundw;case rel=>exact⟨i+1,by omega,by go_num,Hz.o⟩
  (simp[intOf];omega)
 have hd_i:=GEl i m;have Xr:=Y4 (Xc.o.trans Hx.o);go_wp2_with fail;refine(Tx _).mono ?_;rintro e w9 ⟨rfl,hy9⟩;go_wp2_with fail;go_ret;exact⟨rfl,(Xr.o.trans hy9).below⟩
end historyAccepts
end Go.Proofs.YtnbclgbicnpmnaaGreat
