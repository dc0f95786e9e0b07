/- Lemmas of this claim. Conditions: as named. -/
import Derived.Test.YtnbclgbicnpmnaaGreatA28
import Derived.Test.YtnbclgbicnpmnaaGreatA29
import Derived.Test.YtnbclgbicnpmnaaGreatA35
import Derived.Test.YtnbclgbicnpmnaaGreatA36
import Derived.Test.YtnbclgbicnpmnaaGreatA38
import Derived.Test.YtnbclgbicnpmnaaGreatA39
import Derived.Test.YtnbclgbicnpmnaaGreatA40
import Derived.Test.YtnbclgbicnpmnaaGreatA43
import Derived.Test.YtnbclgbicnpmnaaGreatA47
import Derived.Test.YtnbclgbicnpmnaaGreatA51
namespace Go.Proofs.YtnbclgbicnpmnaaGreat
open Go.RowKit Go.Sort
set_option maxHeartbeats 0
set_option maxRecDepth 100000
set_option linter.all false
theorem Rd.ne_blk{w:World}{S:Nat→Prop}{z n rb:Nat}{v:Value}{xs:List Value}(h:Rd w S z v n xs)(h00:xs=[]→n=0)(hne:∀ (o:Nat) u,xs[0]?=some u→w.cell? ⟨rb,o,none⟩≠some u):Rd w (fun k=>S k∧k≠rb) z v n xs:=by
 obtain⟨h1,A,c,hv,h2,h3,h4⟩:=h;refine⟨h1,A,c,hv,h2,h3,fun h0=>?_⟩;obtain⟨g,o,e,hS,hg,hc⟩:=h4 h0;refine⟨g,o,e,⟨hS,fun e2=>?_⟩,hg,hc⟩;subst e2;cases xs with
 | nil=>have:=h00 rfl;omega
 | cons u r=>exact absurd (hc 0 u rfl) (hne _ u rfl)
theorem Zmf{w:World}{b:Nat}{cs:Array Value}{t:TypeId}(h:w.heap[b]?=some (.cells cs t)):Xs w b cs.toList :=
 ⟨(Zlj.1 h).1,fun k=>by simp[World.frozen?,h],fun k hk=>by simp only[World.cell?,h];simp⟩
theorem Zto{ns:List Nm}{u:Value}(h:(Wl ns)[0]?=some u):∃ s,u=.string s:=by
 cases ns with
 | nil=>simp[Wl]at h
 | cons n r =>
  have h1:some (Value.string n.a)=some u:=h;exact⟨_,(Zlc h1).symm⟩
theorem Kg.extE{w w':World}{a:Option Addr}{len:Nat}(h:Kg w a len)(x:Ext w w'):Kg w' a len:=by
 obtain⟨h1,h2⟩:=h;refine⟨h1,fun hl=>?_⟩;obtain⟨y,e,hy,hc⟩:=h2 hl;refine⟨y,e,Zll hy x.size,fun j hj=>?_⟩;obtain⟨z,hz,hi⟩:=hc j hj;exact⟨z,(x.cell (by rw[add_block];exact hy)).trans hz,hi⟩
theorem Zut(w:World)(b:Nat)(A:Option Addr)(n C:Nat)(c3:w.cell? ⟨b,3,none⟩=some (.slice A n C)):Calls Tryz.prog 34 #[.pointer (some ⟨b,0,none⟩)] w fun e w'=>e=.returned (.slice A n C)∧w=w':=by
 go_enter Tryz.func34,Tryz.ntmps34;go_wp2_with fail;go_ret;exact⟨rfl,rfl⟩
theorem Wq.opsFar{w w':World}{U:Nat→Prop}{T:Tbl}{b B rb:Nat}{d:Dk}{cs:Array Value}{t:TypeId}{fr:Nat×Nat}(D:Wq w U T b B d)(hrB:rb<B)(R:w.heap[rb]?=some (.cells cs t fr))(hcs:∀ u∈cs,∀ s,u≠.string s)(c:Chg (· = rb) w w'):Vk w' (fun _=>True) d.ov (d.ops.map Subtype.val):=by
 have h1:=Own.rd (E:=opE) D.own;refine⟨?_,fun o ho=>?_⟩
 ·rw[Zq];exact Rd.mono (Rd.chg h1 c (fun q hq e=>by have:B≤q:=hq;omega)) fun _ _ _=>trivial
 obtain⟨x,hx,rfl⟩:=Zl3.1 ho;have hn:=D.nms x hx;exact Rd.mono (Rd.chg (Rd.ne_blk hn (fun e=>by cases hns:x.1.ns with|nil=>rfl|cons a r=>rw[hns]at e;simp[Wl,Dl]at e) (fun o u hu hc=>by
  obtain⟨s',hs'⟩:=Zto hu;simp only[World.cell?,R]at hc;exact hcs u (Array.mem_of_getElem? hc) s' hs')) c (fun q hq e=>hq.2 e)) fun _ _ _=>trivial
structure Px(w wx:World)(b:Nat)(v:Value)(l:List Zz9):Prop where
 src:Src w.heap.size wx b
 ext:Ext w wx
 own:Own Zxi wx (b+1) v l
theorem Px.next{w w1 w2:World}{b B:Nat}{v:Value}{l:List Zz9}(h:Px w w1 b v l)(hb:w.heap.size=b)(t:Wa w.heap.size B w1 w2)(hB:B=b:=by rfl):Px w w2 b v l:=by
 subst hB;exact⟨t.src,h.ext.chg_new t.chg (fun i hi=>by omega),h.own.chg t.chg (fun k hk e=>by have:=(h.own.lt k hk).1;omega)⟩
theorem Px.grow{w w1 w5:World}{b:Nat}{v:Value}{l l':List Zz9}{o:Obj}{A:Option Addr}{n c:Nat}(h:Px w w1 b v l)(hb:w.heap.size=b)(hg:Grew Zxi (w1.alloc o) (b+1) v l' A n c w5):Px w w5 b (.slice A n c) l':=by
 have hlt:∀ k,v.ownBlock=some k→b+1≤k:=fun k hk=>(h.own.lt k hk).1
 exact⟨(h.src.alloc o).chg hg.chg (fun e=>by have:=hlt b e;omega) (fun k hk e=>by have:=hlt k e;omega),(h.ext.alloc o).chg_new hg.chg (fun i hi=>by have:=hlt i hi;omega),hg.own⟩
theorem Fg(w:World)(a b c:Int)(s:ByteArray)(t:TypeId)(g:Nat)(hg:w.heap.size=g):RdE Zxi (w.alloc (.cells #[.int .i64 a,.int .i64 b,.int .i64 c,.string s] t)) (fun _=>True) (.slice (some ⟨g,0,none⟩) 1 1) [⟨a,b,c,s⟩]:=by
 subst hg;exact V0 w #[.int .i64 a,.int .i64 b,.int .i64 c,.string s] t 4 rfl
def Zxk(w:World)(e:Ending)(w':World):Prop:=∃ (v:Value) (l:List Zz9),e=.returned v∧RdE Zxi w' (fun k=>w.heap.size≤k) v l∧l.length≤65∧Ext w w'
theorem Cf(a:Option Addr)(len cap:Nat)(w:World)(hrow:Kg w a len):Calls Tryz.prog 12 #[.slice a len cap] w (Zxk w):=by
 obtain⟨b,hb⟩:=gnX (w.heap.size);have Hbw:=Ya hb;have S0:=Ya (show Px w (w.alloc (.cells #[.slice a len cap,.int .i64 0] 165)) b (.slice none 0 0) [] from⟨by have:=Gy (cap:=cap) hrow (Yn w);rw[← hb];exact this,(Yn w).alloc _,Own.nil _ _ _⟩);clear hrow;go_enter Tryz.func12,Tryz.ntmps12;go_wp2_with fail;refine(Pi _ _ _ _).mono ?_;rintro e w0 ⟨rfl,rfl⟩;obtain⟨W0,hW0⟩:=gnX (w.alloc (.cells #[.slice a len cap,.int .i64 0] 165));rw[hW0]at S0⊢;rw[hb];clear hW0;go_wp2_with fail;go_loopw [4] (fun u wr=>∃ l:List Zz9,l.length≤65∧Px w wr b u l) (fun u _=>100-sliceLen u);case atStart=>exact⟨[],by simp,S0.o⟩
 clear S0;obtain⟨l,hl,hS⟩:=hrel;obtain⟨A,C,rfl,hlC,hC⟩:=hS.own.shape;obtain⟨m,hm⟩:=gnX (l.length);rw[hm]at hS hlC hl⊢;have Hm:=Ya hm;have S1:=Ya hS;clear hS hm;unfold maxLen at hC;go_wp2_with fail;refine(Zu5 b _ _ S1.o.src).mono ?_;rintro e w1 ⟨⟨q,rfl⟩,hs,hc⟩;have S9:=Ya (S1.o.next Hbw.o ⟨hs,hc⟩);clear hs hc;cases q with
 | false =>
  go_wp2_with fail;go_ret;exact⟨_,l,rfl,by rw[← Hm.o];exact Rd.mono (show RdE Zxi w1 (fun k=>b+1≤k) (.slice A l.length C) l by have:=S9.o.own.rd;rw[Hm.o];exact this) fun k hk _=>by have:=Hbw.o;omega,by rw[Hm.o];exact hl,S9.o.ext⟩
 | true =>
  by_cases h60:m<60
  ·have d1:decide ((m:Int)<60)=true:=Yh (by omega);go_wp2_with fail;refine(Xf b 8 (by omega) (by omega) _ _ S9.o.src).mono ?_;rintro e w2 ⟨v,hv,rfl,h⟩;have S2:=Ya (S9.o.next Hbw.o h);clear h;by_cases hv0:v=0
   ·subst hv0;go_wp2_with fail;refine(Xf b 4 (by omega) (by omega) _ _ S2.o.src).mono ?_;rintro e w3 ⟨v3,hv3,rfl,h⟩;have S3:=Ya (S2.o.next Hbw.o h);clear h;go_wp2_with fail;refine(Mt _ b _ S3.o.src).mono ?_;rintro e w4 ⟨t,rfl,ht,h⟩;have S4:=Ya (S3.o.next Hbw.o h);clear h;go_wp2_with (at_builtin;refine Xu Zxi _ _ _ rfl rfl rfl rfl (S4.o.own.ext ((Yn _).alloc _)) rfl (Fg _ 1 (v3:Int) 0 t _ _ rfl) (by rw[Hm.o];show _+1≤_;omega) (by show 40≤1000;omega) (by have:=S4.o.src.lt;simp;omega) ?_;intro A5 n5 c5 w5 hg5;have S5:=Ya (S4.o.grow Hbw.o hg5);have N5:=Ya hg5.len;clear hg5);go_roundw;case rel=>exact⟨_,by rw[Zs,Hm.o];show m+1≤65;omega,S5.o⟩
    case measure =>
     have e5:=N5.o;rw[Zs,Hm.o]at e5;simp only[Zl,Zk]at e5;simp only[sliceLen];omega
   have f0:((v:Int)==0)=false:=by simp;omega
   have f0n:(v==0)=false:=by simp;omega
   have f0p:¬ (v:Int)=0:=by omega
   by_cases hv1:v=1
   ·subst hv1;go_wp2_with fail;refine(Xf b 4 (by omega) (by omega) _ _ S2.o.src).mono ?_;rintro e w3 ⟨v3,hv3,rfl,h⟩;have S3:=Ya (S2.o.next Hbw.o h);clear h;go_wp2_with fail;refine(Mt _ b _ S3.o.src).mono ?_;rintro e w4 ⟨t,rfl,ht,h⟩;have S4:=Ya (S3.o.next Hbw.o h);clear h;go_wp2_with (at_builtin;refine Xu Zxi _ _ _ rfl rfl rfl rfl (S4.o.own.ext ((Yn _).alloc _)) rfl (Fg _ 1 (v3:Int) 0 t _ _ rfl) (by rw[Hm.o];show _+1≤_;omega) (by show 40≤1000;omega) (by have:=S4.o.src.lt;simp;omega) ?_;intro A5 n5 c5 w5 hg5;have S5:=Ya (S4.o.grow Hbw.o hg5);have N5:=Ya hg5.len;clear hg5);go_roundw;case rel=>exact⟨_,by rw[Zs,Hm.o];show m+1≤65;omega,S5.o⟩
    case measure =>
     have e5:=N5.o;rw[Zs,Hm.o]at e5;simp only[Zl,Zk]at e5;simp only[sliceLen];omega
   have f1:((v:Int)==1)=false:=by simp;omega
   have f1n:(v==1)=false:=by simp;omega
   have f1p:¬ (v:Int)=1:=by omega
   by_cases hv2:v=2
   ·subst hv2;go_wp2_with fail;refine(Xf b 12 (by omega) (by omega) _ _ S2.o.src).mono ?_;rintro e w3 ⟨v3,hv3,rfl,h⟩;have S3:=Ya (S2.o.next Hbw.o h);clear h;obtain⟨t3,ht3⟩:∃ t:Int,(v3:Int)-1=t:=⟨_,rfl⟩;have r3:IntKind.i64.wrap ((v3:Int)-1)=t3:=by rw[Yr _ (by omega)];exact ht3
    go_wp2_with (at_builtin;refine Xu Zxi _ _ _ rfl rfl rfl rfl (S3.o.own.ext ((Yn _).alloc _)) rfl (Fg _ 3 0 t3 ⟨#[]⟩ _ _ rfl) (by rw[Hm.o];show _+1≤_;omega) (by show 40≤1000;omega) (by have:=S3.o.src.lt;simp;omega) ?_;intro A5 n5 c5 w5 hg5;have S5:=Ya (S3.o.grow Hbw.o hg5);have N5:=Ya hg5.len;clear hg5);go_roundw;case rel=>exact⟨_,by rw[Zs,Hm.o];show m+1≤65;omega,S5.o⟩
    case measure =>
     have e5:=N5.o;rw[Zs,Hm.o]at e5;simp only[Zl,Zk]at e5;simp only[sliceLen];omega
   have f2:((v:Int)==2)=false:=by simp;omega
   have f2n:(v==2)=false:=by simp;omega
   have f2p:¬ (v:Int)=2:=by omega
   by_cases hv3:v=3
   ·subst hv3;go_wp2_with fail;refine(Xf b 4 (by omega) (by omega) _ _ S2.o.src).mono ?_;rintro e w3 ⟨v3,hv3,rfl,h⟩;have S3:=Ya (S2.o.next Hbw.o h);clear h;obtain⟨t3,ht3⟩:∃ t:Int,1+(v3:Int)=t:=⟨_,rfl⟩;have r3:IntKind.i64.wrap (1+(v3:Int))=t3:=by rw[Yr _ (by omega)];exact ht3
    go_wp2_with fail;refine(Xf b 7 (by omega) (by omega) _ _ S3.o.src).mono ?_;rintro e w4 ⟨v4,hv4,rfl,h⟩;have S4:=Ya (S3.o.next Hbw.o h);clear h;obtain⟨t4,ht4⟩:∃ t:Int,(v4:Int)-1=t:=⟨_,rfl⟩;have r4:IntKind.i64.wrap ((v4:Int)-1)=t4:=by rw[Yr _ (by omega)];exact ht4
    go_wp2_with fail;refine(Xf b 2 (by omega) (by omega) _ _ S4.o.src).mono ?_;rintro e w6 ⟨v6,hv6,rfl,h⟩;have S6:=Ya (S4.o.next Hbw.o h);clear h;obtain⟨t6,ht6⟩:∃ t:Int,1073741824*(v6:Int)=t:=⟨_,rfl⟩;have r6:IntKind.i64.wrap (1073741824*(v6:Int))=t6:=by rw[Yr _ (by omega)];exact ht6
    go_wp2_with (at_builtin;refine Xu Zxi _ _ _ rfl rfl rfl rfl (S6.o.own.ext ((Yn _).alloc _)) rfl (Fg _ t3 t4 t6 ⟨#[81,85,69,82,89,32,97]⟩ _ _ rfl) (by rw[Hm.o];show _+1≤_;omega) (by show 40≤1000;omega) (by have:=S6.o.src.lt;simp;omega) ?_;intro A5 n5 c5 w5 hg5;have S5:=Ya (S6.o.grow Hbw.o hg5);have N5:=Ya hg5.len;clear hg5);go_roundw;case rel=>exact⟨_,by rw[Zs,Hm.o];show m+1≤65;omega,S5.o⟩
    case measure =>
     have e5:=N5.o;rw[Zs,Hm.o]at e5;simp only[Zl,Zk]at e5;simp only[sliceLen];omega
   have f3:((v:Int)==3)=false:=by simp;omega
   have f3n:(v==3)=false:=by simp;omega
   have f3p:¬ (v:Int)=3:=by omega
   clear hv0 hv1 hv2 hv3;go_wp2_with fail;refine(Xf b 4 (by omega) (by omega) _ _ S2.o.src).mono ?_;rintro e w3 ⟨v3,hv3,rfl,h⟩;have S3:=Ya (S2.o.next Hbw.o h);clear h;go_wp2_with fail;refine(Xf b 6 (by omega) (by omega) _ _ S3.o.src).mono ?_;rintro e w4 ⟨v4,hv4,rfl,h⟩;have S4:=Ya (S3.o.next Hbw.o h);clear h;obtain⟨k0,hk0⟩:=gnX (1+v4);have r4:IntKind.i64.wrap (1+(v4:Int))=(k0:Int):=by rw[Yr _ (by omega)];omega
   have hk1:1≤k0:=by omega
   have hk6:k0≤6:=by omega
   clear hk0 hv4;go_wp2_with fail;go_loopw [6,4] (fun o u wx=>∃ (k:Nat) (l2:List Zz9),o=.int .i64 (k:Int)∧l2.length+k=m+k0∧Px w wx b u l2) (fun o _ _=>(intOf o).toNat);case atStart=>exact⟨k0,l,rfl,by rw[Hm.o],S4.o⟩
   rename World=>wi
   obtain⟨k,l2,rfl,hk,hS⟩:=hrel;obtain⟨A2,C2,rfl,hlC2,hC2⟩:=hS.own.shape;obtain⟨m2,hm2⟩:=gnX (l2.length);rw[hm2]at hS hlC2 hk⊢;have Hm2:=Ya hm2;have S7:=Ya hS;clear hS hm2;unfold maxLen at hC2;by_cases hk2:0<k
   ·have d2:decide ((0:Int)<(k:Int))=true:=Yh (by omega);obtain⟨p,hp⟩:=gnX (k-1);have r2:IntKind.i64.wrap ((k:Int)-1)=(p:Int):=by rw[Yr _ (by omega)];omega
    go_wp2_with (at_builtin;refine Xu Zxi _ _ _ rfl rfl rfl rfl (S7.o.own.ext ((Yn _).alloc _)) rfl (Fg _ 2 (v3:Int) 0 ⟨#[]⟩ _ _ rfl) (by rw[Hm2.o];show _+1≤_;omega) (by show 40≤1000;omega) (by have:=S7.o.src.lt;simp;omega) ?_;intro A5 n5 c5 w5 hg5;have S5:=Ya (S7.o.grow Hbw.o hg5);clear hg5);go_roundw;case rel=>exact⟨p,_,rfl,by rw[Zs,Hm2.o];show m2+1+p=_;omega,S5.o⟩
    (simp[intOf];omega)
   obtain rfl:k=0:=by omega
   go_wp2_with fail;go_roundw;case rel=>exact⟨l2,by rw[Hm2.o];omega,S7.o⟩
   case measure =>
    simp only[sliceLen];omega
  have d1:decide ((m:Int)<60)=false:=Yi (by omega);go_wp2_with fail;go_ret;exact⟨_,l,rfl,by rw[← Hm.o];exact Rd.mono (show RdE Zxi w1 (fun k=>b+1≤k) (.slice A l.length C) l by have:=S9.o.own.rd;rw[Hm.o];exact this) fun k hk _=>by have:=Hbw.o;omega,by rw[Hm.o];exact hl,S9.o.ext⟩
theorem Zqy:(Tryz.prog.info? 37).map (·.size)=some 2:=by kernel_rfl
def Zoc(w:World)(e:Ending)(w':World):Prop:=∃ (cl cp:Int) (v:Value) (os:List OpS),e=.returned (.tuple #[.agg #[.int .i64 cl,.int .i64 cp],v])∧Vk w' (fun _=>True) v (os.map Subtype.val)∧In os∧Ext w w'
theorem Znc(a0 a1 a2:Option Addr)(len0 cap0 len1 cap1 len2 cap2:Nat)(all:Bool)(w:World)(r0:Kg w a0 len0)(r1:Kg w a1 len1)(r2:Kg w a2 len2):Calls Tryz.prog 17 #[.slice a0 len0 cap0,.slice a1 len1 cap1,.slice a2 len2 cap2,.bool all] w (Zoc w):=by
 have R0:=Ya r0;have R1:=Ya r1;have R2:=Ya r2;have X0:=Ya ((Yn w).alloc (.cells #[.int .i64 0,.int .i64 0] 37));have RB:=Ya (Zl8 w (.cells #[.int .i64 0,.int .i64 0] 37));clear r0 r1 r2;go_enter Tryz.func17,Tryz.ntmps17;go_wp2_with fail;obtain⟨rb,hrb⟩:=gnX (w.heap.size);obtain⟨W0,hW0⟩:=gnX (w.alloc (.cells #[.int .i64 0,.int .i64 0] 37));have Hrb:=Ya hrb;rw[hrb]at RB;rw[hW0]at X0 RB;rw[hW0,hrb];clear hW0 hrb;refine(Zr3 _ _ _ _ (Kg.extE R2.o X0.o)).mono ?_;rintro e wb ⟨cl,cp,h1,h2,h3,h4,rfl,hxb⟩;obtain⟨n,rfl⟩:∃ n:Nat,cl=n:=⟨cl.toNat,by omega⟩;have Hc:=Ya (Zr2 h1 h2 h3 h4);have RB1:=Ya ((hxb.block (Zlj.1 RB.o).1).trans RB.o);have X1:=Ya (X0.o.trans hxb);have hn0:0<n:=by omega
 have hn4:n≤4:=by omega
 have hrl:=(Zlj.1 RB1.o).1;clear hxb h1 h2 h3 h4 RB X0;go_upto_region 2 with fail;have CB:=Ya (Xs.new wb #[.int .i64 (n:Int),.int .i64 cp] 37);have xa:=(Yn wb).alloc (.cells #[.int .i64 (n:Int),.int .i64 cp] 37);have RB2:=Ya ((xa.block hrl).trans RB1.o);have X2:=Ya (X1.o.trans xa);obtain⟨cb,hcb⟩:=gnX (wb.heap.size);obtain⟨W1,hW1⟩:=gnX (wb.alloc (.cells #[.int .i64 (n:Int),.int .i64 cp] 37));have hrc:rb<cb:=by rw[← hcb];exact hrl
 rw[hcb,hW1]at CB;rw[hW1]at RB2 X2;rw[hW1,hcb];clear hW1 hcb xa RB1 X1 hrl;refine Zlb (S:=fun w'=>w'.cell? ⟨cb,0,none⟩=some (.int .i64 (n:Int))∧w'.cell? ⟨cb,1,none⟩=some (.int .i64 cp)) (by kernel_rfl) ⟨CB.o.at_ 0 (by simp),CB.o.at_ 1 (by simp)⟩ (fun hHeld=>?_);have CD:=Ya (CB.o.ext (Yn W1).drew);have RD:=Ya (((Yn W1).drew.block (Zlj.1 RB2.o).1).trans RB2.o);have XD:=Ya X2.o.drew;obtain⟨Wd,hWd⟩:=gnX (W1.drew);rw[hWd]at CD RD XD hHeld;rw[hWd];clear hWd CB RB2 X2;refine Xy [0,2] 7 (by rfl) (by kernel_rfl) (by kernel_rfl) (fun _ _ d _ _ h=>by cases d<;>exact h) hHeld ?_;simp only[Z1,Z2,Z3,Zw,Zx];repeat(refine Xw (v:=?_) (by kernel_rfl) ?_ ?_;rotate_left;(focus((intro wT hST;(try obtain⟨hS1,hS2⟩:=hST);go_simp);(first|done|(with_reducible rfl))));(try simp only[Act.put,Zv,Zu,Zt]))
 refine Xv ?_;clear hHeld;refine Zli (rs:=[1]) (by kernel_rfl) (by simp) ?_;refine Yt (o:=_) rfl (fun K hK=>?_) Ys;go_simp;refine(Zvz _ _ _ _ (Kg.extE R1.o XD.o)).mono ?_;rintro e wa ⟨T,rfl,hT,hf,hu,hk,hxa⟩;have G:=Ya (Zo7 hf hu hk);have TA:=Ya hT;have CA:=Ya (CD.o.ext hxa);have RA:=Ya ((hxa.block (Zlj.1 RD.o).1).trans RD.o);have XA:=Ya (XD.o.trans hxa);clear hT hf hu hk hxa CD RD XD;refine hK.out _ _ ⟨CA.o.at_ 0 (by simp),CA.o.at_ 1 (by simp)⟩ (fun hHeld=>?_);clear hHeld hK K;try simp only[Act.put,Zv,Zu,Zt]
 refine Zli (rs:=[3]) (by kernel_rfl) (by simp) ?_;refine Yt (o:=_) rfl (fun K hK=>?_) Ys;go_simp;refine(Zzu T G.o n cp hn0 (by omega) Hc.o _ TA.o).mono ?_;rintro e w2 ⟨b,d,U,rfl,hD,hml,hmn,hq1,hn',ht',hq2,hq3,hq4,hx2⟩;obtain⟨B,hB⟩:=gnX (wa.heap.size);rw[hB]at hD;have hcB:cb<B:=by rw[← hB];exact CA.o.lt
 have HwB:=Ya (show w.heap.size≤B by rw[← hB];exact XA.o.size);have D2:=Ya hD;have L2:=Ya (show Ec d from fun j p z h1 _ h3=>absurd (by rw[hmn j p h1];rfl) h3);have Hml:=Ya hml;have Hn0:=Ya hn';have Ht0:=Ya ht';have C2:=Ya (CA.o.ext hx2);have R3:=Ya ((hx2.block (Zlj.1 RA.o).1).trans RA.o);have X3:=Ya (XA.o.trans hx2);clear hD hml hmn hn' ht' hx2 hB CA RA XA TA hq1 hq2 hq3 hq4;refine hK.out _ _ ⟨C2.o.at_ 0 (by simp),C2.o.at_ 1 (by simp)⟩ (fun hHeld=>?_);clear hK K;try simp only[Act.put,Zv,Zu,Zt]
 refine Xy [4,5,6,7,8] 0 (by rfl) (by kernel_rfl) (by kernel_rfl) (fun _ _ d _ _ h=>by cases d<;>exact h) hHeld ?_;simp only[Z1,Z2,Z3,Zw,Zx];repeat(refine Xw (v:=?_) (by kernel_rfl) ?_ ?_;rotate_left;(focus((intro wT hST;(try obtain⟨hS1,hS2⟩:=hST);go_simp);(first|done|(with_reducible rfl))));(try simp only[Act.put,Zv,Zu,Zt]))
 refine Xv ?_;clear hHeld;refine Zl6 (by kernel_rfl) ?_ _;go_wp2_with fail;refine(Cf _ _ _ _ (Kg.extE R0.o X3.o)).mono ?_;rintro e w3 ⟨v,l,rfl,hv,hl65,hx3⟩;have D3:=Ya (D2.o.ext hx3);have C3:=Ya (C2.o.ext hx3);have R4:=Ya ((hx3.block (Zlj.1 R3.o).1).trans R3.o);have X4:=Ya (X3.o.trans hx3);obtain⟨Al,Cl,rfl,_,_⟩:=hv.shape;obtain⟨m,hm⟩:=gnX (l.length);have HL:=Ya (show RdE Zxi w3 (fun k=>¬ U k) (.slice Al l.length Cl) l from Rd.mono hv fun k hk _ hu=>by have:=(D2.o.hU k hu).2;have hk:w2.heap.size≤k:=hk;omega);have Hm:=Ya hm;rw[hm]at HL hl65;rw[hm];clear hv hx3 hm D2 C2 R3 X3;go_wp2_with fail;go_loopw [32] (fun o wr=>∃ (i:Nat) (d:Dk) (U:Nat→Prop),i≤m∧o=.int .i64 (i:Int)∧Wq wr U T b B d∧Ec d∧d.ms.length=n∧d.n≤i∧d.t=i∧Ext w wr∧Xs wr cb [.int .i64 (n:Int),.int .i64 cp]∧wr.heap[rb]?=some (.cells #[.int .i64 0,.int .i64 0] 37)∧RdE Zxi wr (fun k=>¬ U k) (.slice Al m Cl) l) (fun o _=>m-(intOf o).toNat);case atStart=>exact⟨0,d,U,by omega,rfl,D3.o,L2.o,Hml.o,by rw[Hn0.o];omega,Ht0.o,X4.o,C3.o,R4.o,HL.o⟩
 clear D3 C3 R4 L2 Hml Hn0 Ht0 HL X4 d U;obtain⟨i,d,U,hi,rfl,hD,hL,hml,hn',ht',hx,hc,hr,hl⟩:=hrel;rename World=>wr
 have D1:=Ya hD;have L1:=Ya hL;have Hml:=Ya hml;have Hn0:=Ya hn';have Ht0:=Ya ht';have X5:=Ya hx;have C5:=Ya hc;have R5:=Ya hr;have HL:=Ya hl;clear hD hL hml hn' ht' hx hc hr hl;by_cases hlt:i<m
 ·obtain⟨hd_i,i0_i,i1_i⟩:=LTl i m (by omega);obtain⟨a,ha⟩:=geX (l:=l) (i:=i) (by rw[Hm.o];exact hlt);obtain⟨g,o,c',hvv,_,_,_,hgl,hcc⟩:=Rd.at_ HL.o (k:=i) (by rw[Hm.o];exact hlt);simp only[Yg]at hvv;obtain⟨rfl,-,rfl⟩:=hvv;obtain⟨e0,e1,e2,e3⟩:=Zyv ha;have a0:=hcc _ _ e0;have a1:=hcc _ _ e1;have a2:=hcc _ _ e2;have a3:=hcc _ _ e3;rw[← Zkf]at a1 a2 a3;clear hcc e0 e1 e2 e3 ha;go_wp2_with fail;refine(Zo4 T G.o.few G.o b B d a.kind a.cl a.n a.text _ (D1.o.ext ((Yn _).alloc _)) (by have:=Hn0.o;omega) (by have:=Ht0.o;omega) L1.o (by rw[Hml.o];exact hn0)).mono ?_;rintro e w7 ⟨r,d',U',rfl,hD,hL,hC0,hml',ht',hn',hu'⟩;have hC:Chg (fun k=>B≤k) _ _:=hC0.mono fun q _ hq=>(D1.o.hU q hq).1
  have D7:=Ya hD;have L7:=Ya hL;have xa:=(Yn wr).alloc (.cells #[.int .i64 a.kind,.int .i64 a.cl,.int .i64 a.n,.string a.text] 78);have X7:=Ya ((X5.o.trans xa).chg_new hC (fun q hq=>Zlh HwB.o hq));have C7:=Ya ((C5.o.ext xa).chg hC (by omega));have R7:=Ya (by
   have h1:=(xa.block (Zlj.1 R5.o).1).trans R5.o;exact(hC.block rb (Zlj.1 h1).1 (by omega)).trans h1)
  have h8:=Rd.mono (T:=fun k=>¬ U k∧k<(wr.alloc (.cells #[.int .i64 a.kind,.int .i64 a.cl,.int .i64 a.n,.string a.text] 78)).heap.size) (RdE.ext HL.o xa) fun k hk hl=>⟨hk,hl⟩
  have h9:=Rd.chg h8 hC0 (fun k hk=>hk.1);have HL7:=Ya (Rd.mono (T:=fun k=>¬ U' k) h9 fun k hk _ hu=>(hu' k hu).elim hk.1 fun h=>by have:=hk.2;omega);clear h8 h9;have Hml':=Ya hml';have Ht':=Ya ht';have Hn':=Ya hn';clear hD hL hC hC0 hml' ht' hn' hu' a0 a1 a2 a3 xa;go_wp2_with fail;go_roundw;case rel=>exact⟨i+1,d',U',by omega,by go_num,D7.o,L7.o,by rw[Hml'.o];exact Hml.o,by have:=Hn'.o;have:=Hn0.o;omega,by rw[Ht'.o,Ht0.o],X7.o,C7.o,R7.o,HL7.o⟩
  (simp[intOf];omega)
 have hd_i:=GEl i m (by omega);obtain rfl:i=m:=by omega
 have hrl:=(Zlj.1 R5.o).1;go_upto_if 40 with fail;go_cut [] (fun wq=>∃ (d:Dk) (U:Nat→Prop),Wq wq U T b B d∧Ext w wq∧Xs wq cb [.int .i64 (n:Int),.int .i64 cp]∧wq.heap[rb]?=some (.cells #[.int .i64 0,.int .i64 0] 37));case first =>
  cases all with
  | false =>
   go_wp2_with fail;go_meet;exact⟨d,U,D1.o,X5.o,C5.o,R5.o⟩
  | true =>
   go_wp2_with fail;refine(Zwc T G.o.few G.o b B 20000 (Yp _) d _ D1.o L1.o (by have:=Hn0.o;omega) (by have:=Ht0.o;omega) (by rw[Hml.o];exact hn4)).mono ?_;rintro e w6 ⟨z,d',U',rfl,hD,hL,hC,_⟩;have D6:=Ya hD;have X6:=Ya (X5.o.chg_new hC (fun q hq=>Zlh HwB.o hq));have C6:=Ya (C5.o.chg hC (by omega));have R6:=Ya ((hC.block rb hrl (by omega)).trans R5.o);clear hD hL hC;go_wp2_with fail;go_meet;exact⟨d',U',D6.o,X6.o,C6.o,R6.o⟩
 clear D1 L1 Hml Hn0 Ht0 X5 C5 R5 HL d U;obtain⟨d,U,hD,hx,hc,hr⟩:=hcut;rename World=>w6
 have D6:=Ya hD;have X6:=Ya hx;have C6:=Ya hc;have R6:=Ya hr;obtain⟨Ao,Co,hov,_,_⟩:=hD.own.shape;obtain⟨no,hno⟩:=gnX (d.ops.length);rw[hno]at hov;have Hov:=Ya hov;clear hD hx hc hr hov hno;go_upto_region 13 with fail;refine Zlb (S:=fun w'=>w'.cell? ⟨cb,0,none⟩=some (.int .i64 (n:Int))∧w'.cell? ⟨cb,1,none⟩=some (.int .i64 cp)) (by kernel_rfl) ⟨C6.o.at_ 0 (by simp),C6.o.at_ 1 (by simp)⟩ (fun hHeld=>?_);have Dd:=Ya (D6.o.ext (Yn w6).drew);have Xd:=Ya X6.o.drew;have Cd:=Ya (C6.o.ext (Yn w6).drew);have Rd_:=Ya (((Yn w6).drew.block (Zlj.1 R6.o).1).trans R6.o);obtain⟨Wd,hWd⟩:=gnX (w6.drew);rw[hWd]at Dd Xd Cd Rd_ hHeld;rw[hWd];clear hWd D6 X6 C6 R6;have cst:Chg (· = rb) Wd (Wd.setCells rb 0 [.int .i64 (n:Int),.int .i64 cp]):=Xo (S:=(· = rb)) (.inl rfl) (Chg.refl _ _);have hth:=(Zmf Rd_.o).there (o:=0) (n:=2) (by simp);have hra:=Zia Wd rb 0 [.int .i64 (n:Int),.int .i64 cp] hth;have c3:Wd.cell? ⟨b,3,none⟩=some (.slice Ao no Co):=by rw[← Hov.o];exact Dd.o.c 3 rfl
 have nbr:b≠rb:=by have:=(Dd.o.hU b Dd.o.ub).1;omega
 have ncr:cb≠rb:=by omega
 have q0:=Ya (hra 0 _ rfl);have q1:=Ya (hra 1 _ rfl);have ZO:=Ya (Dd.o.opsFar (by omega) Rd_.o (by intro u hu s e;subst e;simp at hu) cst);have ZX:=Ya (Xd.o.chg_new cst (fun q e=>by rw[e,← Hrb.o];exact Yp _));have ZF:=Ya (show In d.ops from⟨Dd.o.lo,fun o ho=>(Dd.o.n16 o ho).2.fitO⟩);have d3:=(cst.cell (p:=⟨b,3,none⟩) Dd.o.cells.lt nbr).trans c3;have e0:=(cst.cell (p:=⟨cb,0,none⟩) Cd.o.lt ncr).trans (Cd.o.at_ 0 (by simp));have e1:=(cst.cell (p:=⟨cb,1,none⟩) Cd.o.lt ncr).trans (Cd.o.at_ 1 (by simp));rw[Hov.o]at ZO;have Hth:=Ya hth;obtain⟨Ws,hWs⟩:=gnX (Wd.setCells rb 0 [.int .i64 (n:Int),.int .i64 cp]);rw[hWs]at q0 q1 ZO ZX d3 e0 e1;clear cst hth hra;refine Xy [0,1] 3 (by rfl) (by kernel_rfl) (by kernel_rfl) (fun _ _ d _ _ h=>by cases d<;>exact h) hHeld ?_;simp only[Z1,Z2,Z3,Zw,Zx];repeat(refine Xw (v:=?_) (by kernel_rfl) ?_ ?_;rotate_left;(focus((intro wT hST;(try obtain⟨hS1,hS2⟩:=hST);go_simp);(first|done|(with_reducible rfl))));(try simp only[Act.put,Zv,Zu,Zt]))
 refine Xv ?_;refine Zli (rs:=[2]) (by kernel_rfl) (by simp) ?_;refine Yt (o:=_) rfl (fun K hK=>?_) Ys;go_simp;refine(Zut _ b Ao no Co c3).mono ?_;rintro e w7 ⟨rfl,rfl⟩;refine hK.out _ _ hHeld (fun hHeld=>?_);clear hK K hHeld;try simp only[Act.put,Zv,Zu,Zt]
 refine Zli (rs:=[3]) (by kernel_rfl) (by simp) ?_;refine Yt (o:=_) rfl (fun K hK=>?_) Ys;refine Vp rfl _ _ _ rfl rb 0 #[.int .i64 (n:Int),.int .i64 cp] rfl rfl Hth.o (by rw[Zqy];rfl) (by simp[Value.oneCell']) ?_;rw[show Wd.setCells rb 0 (#[.int .i64 (n:Int),.int .i64 cp]:Array Value).toList=Ws from hWs];refine hK.out _ _ ⟨e0,e1⟩ (fun hHeld=>?_);clear hK K;try simp only[Act.put,Zv,Zu,Zt]
 refine Xy [4] 0 (by rfl) (by kernel_rfl) (by kernel_rfl) (fun _ _ d _ _ h=>by cases d<;>exact h) hHeld ?_;simp only[Z1,Z2,Z3,Zw,Zx];repeat(refine Xw (v:=?_) (by kernel_rfl) ?_ ?_;rotate_left;(focus((intro wT hST;(try obtain⟨hS1,hS2⟩:=hST);go_simp);(first|done|(with_reducible rfl))));(try simp only[Act.put,Zv,Zu,Zt]))
 refine Xv ?_;clear hHeld;refine Zl6 (by kernel_rfl) ?_ _;go_wp2_with fail;refine Yu (v:=.tuple #[.agg #[.int .i64 (n:Int),.int .i64 cp],.slice Ao no Co]) (by simp[results,Tryz.results17,go_sem,q0.o,q1.o]) rfl ?_;exact⟨_,_,_,_,rfl,ZO.o,ZF.o,ZX.o⟩
end Go.Proofs.YtnbclgbicnpmnaaGreat
