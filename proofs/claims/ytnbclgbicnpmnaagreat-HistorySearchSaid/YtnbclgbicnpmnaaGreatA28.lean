/- Lemmas of this claim: P4, P5, P6, P8, Pa, P9. Conditions: as named. -/
import Derived.Test.YtnbclgbicnpmnaaGreatA27
namespace Go.Proofs.YtnbclgbicnpmnaaGreat
open Go.RowKit Go.Sort
set_option maxHeartbeats 0
set_option maxRecDepth 100000
set_option linter.all false
def Zpp(l:List Int):Bool:=l.all fun c=>decide (0≤c)&&decide (c≤127)
theorem Zvk{l:List Int}{i:Nat}{x:Int}(h:l[i]?=some x)(hx:x<0∨127<x):Zpp l=false:=by
 unfold Zpp;rw[List.all_eq_false];exact⟨x,Zy h,by simp;omega⟩
theorem Gj{S:Nat→Prop}(v:Value)(l:List Int)(w:World)(h:Xy w S v l):Calls Tryz.prog 212 #[v] w fun e w'=>e=.returned (.bool (Zpp l))∧Ext w w':=by
 obtain⟨A,C,rfl,hlCC,hCC⟩:=h.shape;obtain⟨n,hnn⟩:=gnX ((l).length);have Hnn:=Ya hnn;have Hh:=Ya h;unfold maxLen at hCC;rw[hnn]at hlCC⊢;clear h hnn;go_enter Tryz.func212,Tryz.ntmps212;go_wp2_with fail;go_loopw [7] (fun o wr=>∃ i:Nat,i≤n∧o=.int .i64 (i:Int)∧(∀ c∈l.take i,0≤c∧c≤127)∧Ext w wr) (fun o _=>n-(intOf o).toNat);case atStart=>exact⟨0,by omega,rfl,by simp,Yn _⟩
 obtain⟨i,hi,rfl,ha,hx⟩:=hrel;have Hx:=Ya hx;have Ha:=Ya ha;clear hx ha;by_cases hlt:i<n
 ·obtain⟨hd_i,i0_i,i1_i⟩:=LTl i n;obtain⟨x,hs_x⟩:=geX (l:=(l)) (i:=i) (by have:=Hnn.o;omega);obtain⟨g_x,o_x,c_x,hvv,_,_,_,hgl_x,a0_x⟩:=(Hh.o.ext Hx.o).get hs_x;simp only[Yg]at hvv;obtain⟨rfl,-,rfl⟩:=hvv;have Hs_x:=Ya hs_x;clear hs_x;by_cases h0:x<0∨127<x
  ·have Hb:=Ya (Zvk Hs_x.o h0);rcases h0 with h0|h0
   ·have d1:decide (x<0)=true:=Yh h0;go_wp2_with fail;go_ret;exact⟨by rw[Hb.o];rfl,Hx.o⟩
   have d1:decide (x<0)=false:=Yi;have d2:decide (127<x)=true:=Yh h0;go_wp2_with fail;go_ret;exact⟨by rw[Hb.o];rfl,Hx.o⟩
  have d1:decide (x<0)=false:=Yi;have d2:decide (127<x)=false:=Yi;have H0:=Ya h0;clear h0;go_wp2_with fail;go_roundw;case rel =>
   refine⟨i+1,by omega,by go_num,?_,Hx.o⟩;rw[Wu Hs_x.o];intro c hc;rcases Zj.1 hc with h1|h1
   ·exact Ha.o c h1
   rw[Zi.1 h1];have:=H0.o;omega
  case measure=>(simp[intOf];omega)
 have hd_i:=GEl i n;go_wp2_with fail;go_ret;refine⟨?_,Hx.o⟩;have hb:Zpp l=true:=by
  unfold Zpp;rw[Zik];intro c hc;have:=Ha.o;rw[Zm (by rw[Hnn.o];omega)]at this;have:=this c hc;simp;omega
 rw[hb];rfl
theorem Bn(z:Nat)(h1:z≤255)(w:World) :
 (convert 224 9 (.slice (some ⟨w.heap.size,0,none⟩) 1 1)).run Tryz.prog (w.alloc (.cells #[.int .u8 (z:Int)] 5))=.ok (.string (bs (u8L [(z:Int)]))) (w.alloc (.cells #[.int .u8 (z:Int)] 5)):=by
 have:=Qr (w:=w) [(z:Int)] 1 rfl _ rfl;simp only[Zl9,Zku]at this;rw[show(z:Int)%256=(z:Int) by omega]at this;exact this
def Zop(n:Nat)(w:World)(e:Ending)(w':World):Prop:=∃ t:ByteArray,e=.returned (.string t)∧t.size=n∧Ext w w'
theorem Lu(s:ByteArray)(w:World)(hs:s.size≤100000):Calls Tryz.prog 228 #[.string s] w (Zop s.size w):=by
 obtain⟨n,hn⟩:=gnX (s.size);rw[hn]at hs⊢;have Hn:=Ya hn;go_enter Tryz.func228,Tryz.ntmps228;go_wp2_with fail;go_loopw [4,3] (fun o t wr=>∃ (i:Nat) (u:ByteArray),i≤n∧o=.int .i64 (i:Int)∧t=.string u∧u.size=i∧Ext w wr) (fun o _ _=>n-(intOf o).toNat);case atStart=>exact⟨0,⟨#[]⟩,by omega,rfl,rfl,rfl,Yn _⟩
 obtain⟨i,u,hi,rfl,rfl,hu,hx⟩:=hrel;have Hu:=Ya hu;have hus0:u.size≤100000:=by omega
 clear hu;by_cases hlt:i<n
 ·have hd:=LTd i n;have hlt':i<s.size:=by rw[Hn.o];exact hlt
  obtain⟨b,hb⟩:∃ b:Nat,(s[i]'hlt').toNat=b:=⟨_,rfl⟩;have hb2:b≤255:=by rw[← hb];have:=(s[i]'hlt').toNat_lt;omega
  by_cases h1:65≤b
  ·have d1:decide ((65:Int)≤(b:Int))=true:=Yh;by_cases h2:b≤90
   ·have d2:decide ((b:Int)≤90)=true:=Yh;obtain⟨c,hc⟩:=gnX (b+32);have r1:IntKind.u8.wrap ((b:Int)+32)=(c:Int):=by rw[Zk4 _ (by omega)];omega
    have hcv:=fun w=>Bn c (by omega) w
    obtain⟨bz,hbz⟩:=gnX (bs (u8L [(c:Int)]));have hbs:bz.size=1:=by rw[← hbz];rfl
    rw[hbz]at hcv;have hus:¬ 9223372036854775807<u.size+bz.size:=by omega
    clear hbz;go_wp2_with fail;go_roundw;case rel=>exact⟨i+1,_,by omega,by go_num,rfl,by rw[Yo,Hu.o,hbs],hx.alloc _⟩
    (simp[intOf];omega)
   have d2:decide ((b:Int)≤90)=false:=Yi;have hcv:=fun w=>Bn b (by omega) w
   obtain⟨bz,hbz⟩:=gnX (bs (u8L [(b:Int)]));have hbs:bz.size=1:=by rw[← hbz];rfl
   rw[hbz]at hcv;have hus:¬ 9223372036854775807<u.size+bz.size:=by omega
   clear hbz;go_wp2_with fail;go_roundw;case rel=>exact⟨i+1,_,by omega,by go_num,rfl,by rw[Yo,Hu.o,hbs],hx.alloc _⟩
   (simp[intOf];omega)
  have d1:decide ((65:Int)≤(b:Int))=false:=Yi;have hcv:=fun w=>Bn b (by omega) w
  obtain⟨bz,hbz⟩:=gnX (bs (u8L [(b:Int)]));have hbs:bz.size=1:=by rw[← hbz];rfl
  rw[hbz]at hcv;have hus:¬ 9223372036854775807<u.size+bz.size:=by omega
  clear hbz;go_wp2_with fail;go_roundw;case rel=>exact⟨i+1,_,by omega,by go_num,rfl,by rw[Yo,Hu.o,hbs],hx.alloc _⟩
  (simp[intOf];omega)
 have hd:=GEl i n;go_wp2_with fail;go_ret;exact⟨u,rfl,by have:=Hu.o;omega,hx⟩
def Zmr(n:Nat)(w:World)(e:Ending)(w':World):Prop:=∃ b:Bool,e=.returned (.bool b)∧(b=true→4≤n)∧Ext w w'
theorem Zpk(s:ByteArray)(w:World)(hs:s.size≤100000):Calls Tryz.prog 213 #[.string s] w (Zmr s.size w):=by
 go_enter Tryz.func213,Tryz.ntmps213;by_cases h4:4≤s.size
 ·have d1:decide ((4:Int)≤(s.size:Int))=true:=Yh;go_wp2_with (go_at_call 228;refine(Lu _ _ (by simp;omega)).mono ?_;rintro e w1 ⟨t,rfl,ht,hx1⟩);go_ret;exact⟨_,rfl,fun _=>h4,hx1⟩
 have d1:decide ((4:Int)≤(s.size:Int))=false:=Yi;go_wp2_with fail;go_ret;exact⟨false,rfl,fun h=>absurd h (by decide),Yn _⟩
def Zoq(w:World)(e:Ending)(w':World):Prop:=∃ (s:ByteArray) (x:Int),e=.returned (.tuple #[.string s,.int .i64 x])∧s.size≤63∧(x=0→1≤s.size)∧Ext w w'
theorem Sq{S:Nat→Prop}(v:Value)(l:List Int)(w:World)(h:Xy w S v l)(hll:l.length≤100000):Calls Tryz.prog 205 #[v] w (Zoq w):=by
 obtain⟨A,C,rfl,hlCC,hCC⟩:=h.shape;obtain⟨n,hnn⟩:=gnX ((l).length);have Hnn:=Ya hnn;have Hh:=Ya h;unfold maxLen at hCC;rw[hnn]at hlCC⊢;clear h hnn;rw[Hnn.o]at hll;have HhI:=Ya (show Xy w S (.slice A n C) l by have:=Hh.o;rwa [Hnn.o]at this);go_enter Tryz.func205,Tryz.ntmps205;by_cases h0:n=0
 ·subst h0;go_wp2_with fail;go_ret2;exact⟨_,_,rfl,by show 0≤63;omega,fun h=>absurd h (by decide),Yn _⟩
 have d0:((n:Int)==0)=false:=by simp;omega
 have d0b:(n==0)=false:=by simp;omega
 have Hn0:=Ya h0;clear h0;cases hb:Zpp l
 ·have A1:=fun(w1:World) (hx:Ext w w1)=>Zrb _ l w1 (HhI.o.ext hx)
  go_wp2_with (go_at_call 212;refine(Gj _ l _ HhI.o).mono ?_;rintro e w1 ⟨rfl,hx1⟩;rw[hb]);refine(A1 _ hx1).mono ?_;rintro e w2 ⟨p,x,rfl,hp,hx2⟩;have Hx:=Ya (hx1.trans hx2);clear hx1 hx2 A1;by_cases hx0:x=0
  ·subst hx0;have hus:¬ 9223372036854775807<4+p.size:=by omega
   by_cases h63:p.size≤59
   ·have d1:decide ((63:Int)<(((⟨#[120,110,45,45]⟩:ByteArray)++p).size:Int))=false:=Yi (by rw[Yo];show ¬ (63:Int)<((4+p.size:Nat):Int);omega);have d2:decide ((63:Int)<(4:Int)+(p.size:Int))=false:=Yi;go_wp2_with fail;go_ret2;exact⟨_,_,rfl,by rw[Yo];show 4+p.size≤63;omega,fun _=>by rw[Yo];show 1≤4+p.size;omega,Hx.o⟩
   have d2:decide ((63:Int)<(4:Int)+(p.size:Int))=true:=Yh;go_wp2_with fail;go_ret2;exact⟨_,_,rfl,by show 0≤63;omega,fun h=>absurd h (by decide),Hx.o⟩
  have d1:(!(x==0))=true:=by simp[hx0]
  have d2:(x !=0)=true:=d1;have Hx0:=Ya hx0;clear hx0;go_wp2_with fail;go_ret2;exact⟨_,x,rfl,by show 0≤63;omega,fun h=>absurd h Hx0.o,Hx.o⟩
 go_wp2_with (go_at_call 212;refine(Gj _ l _ HhI.o).mono ?_;rintro e w1 ⟨rfl,hx1⟩;rw[hb]);have Hx1:=Ya hx1;clear hx1;go_loopw [16,4] (fun o s wr=>∃ (i:Nat) (u:ByteArray),i≤n∧o=.int .i64 (i:Int)∧s=.string u∧u.size=i∧Ext w wr) (fun o _ _=>n-(intOf o).toNat);case atStart=>exact⟨0,⟨#[]⟩,by omega,rfl,rfl,rfl,Hx1.o⟩
 obtain⟨i,u,hi,rfl,rfl,hu,hx⟩:=hrel;have Hx:=Ya hx;have Hu:=Ya hu;have hus0:u.size≤100000:=by omega
 clear hx hu Hx1;by_cases hlt:i<n
 ·obtain⟨hd_i,i0_i,i1_i⟩:=LTl i n;obtain⟨x,hs_x⟩:=geX (l:=(l)) (i:=i) (by have:=Hnn.o;omega);obtain⟨g_x,o_x,c_x,hvv,_,_,_,hgl_x,a0_x⟩:=(HhI.o.ext Hx.o).get hs_x;simp only[Yg]at hvv;obtain⟨rfl,-,rfl⟩:=hvv;have Hs_x:=Ya hs_x;clear hs_x;have hcv:=fun w:World=>Qr (w:=w) [x] 1 rfl _ rfl
  simp only[Zl9,Zku]at hcv;obtain⟨bz,hbz⟩:=gnX (bs (u8L [x]));have hbs:bz.size=1:=by rw[← hbz];rfl
  rw[hbz]at hcv;have hus:¬ 9223372036854775807<u.size+bz.size:=by omega
  clear hbz;go_wp2_with fail;go_roundw;case rel=>exact⟨i+1,_,by omega,by go_num,rfl,by rw[Yo,Hu.o,hbs],Hx.o.alloc _⟩
  (simp[intOf];omega)
 have hd_i:=GEl i n;by_cases h63:u.size≤63
 ·have d1:decide ((63:Int)<(u.size:Int))=false:=Yi;have d2:decide (63<u.size)=false:=Yi;go_wp2_with fail;go_ret2;exact⟨_,_,rfl,h63,fun _=>by have:=Hu.o;have:=Hn0.o;omega,Hx.o⟩
 have d1:decide ((63:Int)<(u.size:Int))=true:=Yh;have d2:decide (63<u.size)=true:=Yh;go_wp2_with fail;go_ret2;exact⟨_,_,rfl,by show 0≤63;omega,fun h=>absurd h (by decide),Hx.o⟩
def Zof(w:World)(e:Ending)(w':World):Prop:=∃ v:Int,e=.returned (.int .i64 v)∧-1≤v∧v≤35∧w=w'
theorem Zsd(b:Nat)(hb:b≤255)(w:World):Calls Tryz.prog 263 #[.int .u8 (b:Int)] w (Zof w):=by
 have hr:(0≤b∧b≤47)∨(48≤b∧b≤57)∨(58≤b∧b≤64)∨(65≤b∧b≤90)∨(91≤b∧b≤96)∨(97≤b∧b≤122)∨(123≤b∧b≤255):=by omega
 rcases hr with⟨h0,h1⟩ | ⟨h0,h1⟩ | ⟨h0,h1⟩ | ⟨h0,h1⟩ | ⟨h0,h1⟩ | ⟨h0,h1⟩ | ⟨h0,h1⟩
 ·have e0:decide ((97:Int)≤(b:Int))=false:=Yi;have e1:decide ((b:Int)≤122)=true:=Yh;have e2:decide ((65:Int)≤(b:Int))=false:=Yi;have e3:decide ((b:Int)≤90)=true:=Yh;have e4:decide ((48:Int)≤(b:Int))=false:=Yi;have e5:decide ((b:Int)≤57)=true:=Yh;go_enter Tryz.func263,Tryz.ntmps263;go_wp2_with fail;go_ret;exact⟨_,rfl,by omega,by omega,rfl⟩
 ·have e0:decide ((97:Int)≤(b:Int))=false:=Yi;have e1:decide ((b:Int)≤122)=true:=Yh;have e2:decide ((65:Int)≤(b:Int))=false:=Yi;have e3:decide ((b:Int)≤90)=true:=Yh;have e4:decide ((48:Int)≤(b:Int))=true:=Yh;have e5:decide ((b:Int)≤57)=true:=Yh;obtain⟨c,hc⟩:=gnX (b-48);have r1:IntKind.u8.wrap ((b:Int)-48)=(c:Int):=by rw[Zk4 _ (by omega)];omega
  have r2:IntKind.i64.wrap (c:Int)=(c:Int):=Yr _ (by omega);have r3:IntKind.i64.wrap ((c:Int)+26)=(c:Int)+26:=Yr _ (by omega);have hc2:c≤25:=by omega
  have hc3:c≤9:=by omega
  clear hc;go_enter Tryz.func263,Tryz.ntmps263;go_wp2_with fail;go_ret;exact⟨_,rfl,by omega,by omega,rfl⟩
 ·have e0:decide ((97:Int)≤(b:Int))=false:=Yi;have e1:decide ((b:Int)≤122)=true:=Yh;have e2:decide ((65:Int)≤(b:Int))=false:=Yi;have e3:decide ((b:Int)≤90)=true:=Yh;have e4:decide ((48:Int)≤(b:Int))=true:=Yh;have e5:decide ((b:Int)≤57)=false:=Yi;go_enter Tryz.func263,Tryz.ntmps263;go_wp2_with fail;go_ret;exact⟨_,rfl,by omega,by omega,rfl⟩
 ·have e0:decide ((97:Int)≤(b:Int))=false:=Yi;have e1:decide ((b:Int)≤122)=true:=Yh;have e2:decide ((65:Int)≤(b:Int))=true:=Yh;have e3:decide ((b:Int)≤90)=true:=Yh;have e4:decide ((48:Int)≤(b:Int))=true:=Yh;have e5:decide ((b:Int)≤57)=false:=Yi;obtain⟨c,hc⟩:=gnX (b-65);have r1:IntKind.u8.wrap ((b:Int)-65)=(c:Int):=by rw[Zk4 _ (by omega)];omega
  have r2:IntKind.i64.wrap (c:Int)=(c:Int):=Yr _ (by omega);have hc2:c≤25:=by omega
  clear hc;go_enter Tryz.func263,Tryz.ntmps263;go_wp2_with fail;go_ret;exact⟨_,rfl,by omega,by omega,rfl⟩
 ·have e0:decide ((97:Int)≤(b:Int))=false:=Yi;have e1:decide ((b:Int)≤122)=true:=Yh;have e2:decide ((65:Int)≤(b:Int))=true:=Yh;have e3:decide ((b:Int)≤90)=false:=Yi;have e4:decide ((48:Int)≤(b:Int))=true:=Yh;have e5:decide ((b:Int)≤57)=false:=Yi;go_enter Tryz.func263,Tryz.ntmps263;go_wp2_with fail;go_ret;exact⟨_,rfl,by omega,by omega,rfl⟩
 ·have e0:decide ((97:Int)≤(b:Int))=true:=Yh;have e1:decide ((b:Int)≤122)=true:=Yh;have e2:decide ((65:Int)≤(b:Int))=true:=Yh;have e3:decide ((b:Int)≤90)=false:=Yi;have e4:decide ((48:Int)≤(b:Int))=true:=Yh;have e5:decide ((b:Int)≤57)=false:=Yi;obtain⟨c,hc⟩:=gnX (b-97);have r1:IntKind.u8.wrap ((b:Int)-97)=(c:Int):=by rw[Zk4 _ (by omega)];omega
  have r2:IntKind.i64.wrap (c:Int)=(c:Int):=Yr _ (by omega);have hc2:c≤25:=by omega
  clear hc;go_enter Tryz.func263,Tryz.ntmps263;go_wp2_with fail;go_ret;exact⟨_,rfl,by omega,by omega,rfl⟩
 have e0:decide ((97:Int)≤(b:Int))=true:=Yh;have e1:decide ((b:Int)≤122)=false:=Yi;have e2:decide ((65:Int)≤(b:Int))=true:=Yh;have e3:decide ((b:Int)≤90)=false:=Yi;have e4:decide ((48:Int)≤(b:Int))=true:=Yh;have e5:decide ((b:Int)≤57)=false:=Yi;go_enter Tryz.func263,Tryz.ntmps263;go_wp2_with fail;go_ret;exact⟨_,rfl,by omega,by omega,rfl⟩
def Zrp(n a:Nat)(w:World)(e:Ending)(w':World):Prop:=∃ (v x:Int) (b:Bool),e=.returned (.tuple #[.int .i64 v,.int .i64 x,.bool b])∧(b=true→∃ (m p:Nat),v=(m:Int)∧x=(p:Int)∧m≤2147483648∧a<p∧p≤n)∧Ext w w'
theorem Zta(s:ByteArray)(n a:Nat)(hs:s.size=n)(hn:n≤100000)(ha:a≤n)(b:Int)(w:World):Calls Tryz.prog 250 #[.string s,.int .i64 (a:Int),.int .i64 b] w (Zrp n a w):=by
 have Hn:=Ya hs;go_enter Tryz.func250,Tryz.ntmps250;go_wp2_with fail;go_loopw [1,9,10,11] (fun o m q j wr=>∃ (p:Nat) (x y z:Int),o=.int .i64 (p:Int)∧m=.int .i64 x∧q=.int .i64 y∧j=.int .i64 z∧a≤p∧p≤n∧0≤x∧x≤2147483648∧0≤y∧y≤2147483648∧Ext w wr) (fun o _ _ _ _=>n-(intOf o).toNat);case atStart=>exact⟨a,0,1,0,rfl,rfl,rfl,rfl,Yp _,ha,by omega,by omega,by omega,by omega,Yn _⟩
 obtain⟨p,x,y,z,rfl,rfl,rfl,rfl,hp1,hp2,hx1,hx2,hy1,hy2,hx⟩:=hrel;have Hx:=Ya hx;clear hx;by_cases hlt:p<n
 ·have d0:decide ((n:Int)≤(p:Int))=false:=Yi;have hlt':p<s.size:=by rw[Hn.o];exact hlt
  have p0:(0:Int)≤(p:Int):=by omega
  obtain⟨c,hc⟩:∃ b:Nat,(s[p]'hlt').toNat=b:=⟨_,rfl⟩;have hc2:c≤255:=by rw[← hc];have:=(s[p]'hlt').toNat_lt;omega
  go_wp2_with fail;refine(Zsd c hc2 _).mono ?_;rintro e w1 ⟨d,rfl,hd1,hd2,rfl⟩;by_cases hdn:d<0
  ·have d1:decide (d<0)=true:=Yh hdn;go_wp2_with fail;go_ret3;exact⟨_,_,false,rfl,fun h=>absurd h (by decide),Hx.o⟩
  have d1:decide (d<0)=false:=Yi hdn;have m1:=Int.mul_nonneg (show 0≤d by omega) hy1;have m2:d*y≤35*2147483648:=Zhi hd2 hy2 hy1 (by omega);obtain⟨D,hD⟩:=gnX (d*y);rw[hD]at m1 m2;have r1:IntKind.i64.wrap (d*y)=D:=by rw[hD];exact Yr _ (by omega)
  have r2:IntKind.i64.wrap (x+D)=x+D:=Yr _ (by omega);have r3:IntKind.i64.wrap ((p:Int)+1)=((p+1:Nat):Int):=by rw[Yr _ (by omega)];omega
  clear hD;go_wp2_with fail;all_goals
   refine(Zsm z b _).mono ?_;rintro e w1 ⟨t,rfl,ht1,ht2,rfl⟩;have r4:IntKind.i64.wrap (36-(t:Int))=((36-t:Nat):Int):=by rw[Yr _ (by omega)];omega
   have m3:=Int.mul_nonneg hy1 (show(0:Int)≤((36-t:Nat):Int) by omega);have m4:y*((36-t:Nat):Int)≤2147483648*35:=Zhi hy2 (by omega) (by omega) (by omega);obtain⟨U,hU⟩:=gnX (((36-t:Nat):Int));rw[hU]at r4 m3 m4;clear hU;obtain⟨D2,hD2⟩:=gnX (y*U);rw[hD2]at m3 m4;have r5:IntKind.i64.wrap (y*U)=D2:=by rw[hD2];exact Yr _ (by omega)
   clear hD2;by_cases hdt:d<(t:Int)
   ·have d2:decide (d<(t:Int))=true:=Yh hdt;go_wp2_with fail;go_ret3;refine⟨_,_,true,rfl,fun _=>⟨Int.toNat _,p+1,(Zk7 ?_).symm,by go_num,?_,by omega,by omega⟩,Hx.o⟩;all_goals omega
   have d2:decide (d<(t:Int))=false:=Yi hdt;go_wp2_with fail;all_goals
    go_roundw;case rel=>exact⟨p+1,_,_,_,by go_num,rfl,rfl,rfl,by omega,by omega,by omega,by omega,by omega,by omega,Hx.o⟩
    (simp[intOf];omega)
 have d0:decide ((n:Int)≤(p:Int))=true:=Yh;go_wp2_with fail;go_ret3;exact⟨_,_,false,rfl,fun h=>absurd h (by decide),Hx.o⟩
def Bq(N:Nat)(w:World)(e:Ending)(w':World):Prop:=∃ (v:Value) (l:List Int) (x:Int),e=.returned (.tuple #[v,.int .i64 x])∧RdE Wk w' (fun k=>w.heap.size≤k) v l∧l.length≤N∧Ext w w'
theorem Wz{N:Nat}{w w':World}(x:Int)(h:Ext w w'):Bq N w (.returned (.tuple #[.slice none 0 0,.int .i64 x])) w':=⟨_,[],x,rfl,Xy.nil _ _,Zlf _,h⟩
theorem Znf(w:World)(A:Option Addr)(c:Nat)(hc:c≤maxLen):RdE Wk w (fun _=>True) (.slice A 0 c) []:=⟨rfl,A,c,rfl,Zlf _,hc,fun h=>absurd h (by simp)⟩
theorem Zre(s:ByteArray)(n:Nat)(hs:s.size=n)(w:World):Calls Tryz.prog 229 #[.string s] w (Bq 2048 w):=by
 have Hn:=Ya hs;obtain⟨B,hB⟩:=gnX (w.heap.size);have HB:=Ya hB;clear hB;go_enter Tryz.func229,Tryz.ntmps229;by_cases hbig:n≤2048
 ·have d0:decide ((2048:Int)<(n:Int))=false:=Yi;go_wp2_with fail;go_loopw [5,4] (fun o b wr=>∃ k q:Nat,1≤k∧k≤n+1∧o=.int .i64 (k:Int)∧b=.int .i64 (q:Int)∧(q=0∨q<n)∧Ext w wr) (fun o _ _=>n-(intOf o).toNat);case atStart=>exact⟨1,0,Yp _,by omega,rfl,rfl,.inl rfl,Yn _⟩
  obtain⟨k,q,hk1,hk2,rfl,rfl,hq,hx⟩:=hrel;have Hx:=Ya hx;clear hx;by_cases hlt:k<n
  ·have hd:=LTd k n;have hlt':k<s.size:=by rw[Hn.o];exact hlt
   have k0:(0:Int)≤(k:Int):=by omega
   obtain⟨c,hc⟩:∃ b:Nat,(s[k]'hlt').toNat=b:=⟨_,rfl⟩;go_wp2_with fail;all_goals
    go_roundw;case rel=>first|exact⟨k+1,q,by omega,by omega,by go_num,rfl,hq,Hx.o⟩|exact⟨k+1,k,by omega,by omega,by go_num,rfl,.inr hlt,Hx.o⟩
    (simp[intOf];omega)
  have hd:=GEl k n;go_wp2_with fail;clear hk1 hk2 hlt;have hqn:q≤n:=by omega
  have hq8:q≤2048:=by omega
  have Hq:=Ya hq;clear hq hd;go_loopw [7,6] (fun o v wr=>∃ (k:Nat) (l:List Int),k≤q∧o=.int .i64 (k:Int)∧Own Wk wr B v l∧l.length=k∧Ext w wr) (fun o _ _=>q-(intOf o).toNat);case atStart=>exact⟨0,[],by omega,rfl,Own.nil _ _ _,rfl,Hx.o⟩
  clear Hx;obtain⟨k,l,hk,rfl,ho,hl,hx⟩:=hrel;obtain⟨A,C,rfl,hlC,hC⟩:=ho.shape;rw[hl]at hlC⊢;have Hx:=Ya hx;have Ho:=Ya ho;have Hl:=Ya hl;have hBw:B≤wr.heap.size:=by rw[← HB.o];exact hx.size
  unfold maxLen at hC;clear hx ho hl;by_cases hlt:k<q
  ·have hd:=LTd k q;have hlt':k<s.size:=by rw[Hn.o];omega
   have k0:(0:Int)≤(k:Int):=by omega
   have k1:(k:Int)<(n:Int):=by omega
   obtain⟨c,hc⟩:∃ b:Nat,(s[k]'hlt').toNat=b:=⟨_,rfl⟩;by_cases hc7:127<c
   ·have d1:decide ((127:Int)<(c:Int))=true:=Yh;go_wp2_with fail;go_ret2;exact Wz _ Hx.o
   have d1:decide ((127:Int)<(c:Int))=false:=Yi;have r0:IntKind.i64.wrap (c:Int)=(c:Int):=Yr _ (by omega);go_wp2_with (at_builtin;refine Xu Wk _ _ _ rfl rfl rfl rfl (by rw[← Hl.o];exact Ho.o.ext ((Yn _).alloc _)) rfl (Ww wr (c:Int) _ _ rfl) (by rw[Hl.o];simp;omega) (by show 8≤1000;omega) (by simp;omega) ?_;intro A3 n3 c3 w3 hg);have Hg:=Ya hg;clear hg;go_wp2_with fail;go_roundw;case rel=>exact⟨k+1,_,by omega,by go_num,Hg.o.own,by rw[Zs,Hl.o];rfl,Hg.o.ext w (Hx.o.alloc _) (by rw[HB.o];exact Yp _)⟩
   (simp[intOf];omega)
  have hd:=GEl k q;obtain rfl:k=q:=by omega
  have hkn:k<n∨k=0:=by have:=Hq.o;omega
  have Hkn:=Ya hkn;clear hkn;go_upto_if 50 with fail;go_cut [8] (fun o wx=>wx=wr∧∃ a0:Nat,a0≤n∧k≤a0∧o=.int .i64 (a0:Int));case first =>
   by_cases hz:0<k
   ·have z1:decide ((0:Int)<(k:Int))=true:=Yh;go_wp2_with fail;go_meet;exact⟨by trivial,k+1,by rcases Hkn.o with h|h<;>omega,by omega,by go_num⟩
   have z1:decide ((0:Int)<(k:Int))=false:=Yi;go_wp2_with fail;go_meet;exact⟨by trivial,k,by rcases Hkn.o with h|h<;>omega,Yp _,rfl⟩
  obtain⟨rfl,a0,ha1,ha2,rfl⟩:=hcut;go_wp2_with fail;clear hk hlt hd hlC hC;go_loopw [8,9,10,11,12,6] (fun o m i y f v wr=>∃ (a:Nat) (x:Int) (p:Nat) (z:Int) (b:Bool) (l:List Int),a≤n∧o=.int .i64 (a:Int)∧128≤x∧x≤1114111∧m=.int .i64 x∧p≤l.length∧i=.int .i64 (p:Int)∧y=.int .i64 z∧f=.bool b∧Own Wk wr B v l∧l.length≤a∧Ext w wr) (fun o _ _ _ _ _ _=>n-(intOf o).toNat);case atStart=>exact⟨a0,128,0,72,true,l,ha1,by first|rfl|go_num,by omega,by omega,rfl,Zlf _,rfl,rfl,rfl,by have:=Ho.o;rwa [Hl.o]at this,by rw[Hl.o];exact ha2,Hx.o⟩
  clear Hx Ho Hl Hkn;obtain⟨a,x,p,z,b,l,ha,rfl,hx1,hx2,rfl,hp,rfl,rfl,rfl,ho,hla,hx⟩:=hrel;obtain⟨A,C,rfl,hlC,hC⟩:=ho.shape;obtain⟨m,hm⟩:=gnX (l.length);rw[hm]at hlC hp hla⊢;have Hm:=Ya hm;have Hx:=Ya hx;have Ho:=Ya ho;have hBw:B≤wr.heap.size:=by rw[← HB.o];exact hx.size
  have HBw:=Ya hBw;unfold maxLen at hC;clear hx ho hm hBw;by_cases hlt:a<n
  ·have hd:=LTd a n;go_wp2_with fail;refine(Zta s n a Hn.o (by omega) (by omega) z _).mono ?_;rintro e w1 ⟨v,y,ok,rfl,hok,hx1⟩;have Hx1:=Ya hx1;clear hx1;obtain⟨H,hH⟩:=gnX (m+1);have r1:IntKind.i64.wrap ((m:Int)+1)=(H:Int):=by rw[Yr _ (by omega)];omega
   cases ok with
   | false =>
    go_wp2_with fail;go_ret2;exact Wz _ (Hx.o.trans Hx1.o)
   | true =>
    obtain⟨V,p2,rfl,rfl,hV,hp2,hp3⟩:=hok rfl;clear hok;by_cases hov:2147483647<V
    ·have d1:decide ((2147483647:Int)<(V:Int))=true:=Yh;go_wp2_with fail;go_ret2;exact Wz _ (Hx.o.trans Hx1.o)
    have d1:decide ((2147483647:Int)<(V:Int))=false:=Yi;obtain⟨M,hM⟩:=gnX (V+p);have r2:IntKind.i64.wrap ((V:Int)+(p:Int))=(M:Int):=by rw[Yr _ (by omega)];omega
    have hH0:(H==0)=false:=by simp;omega
    have hH1:((H:Int)==0)=false:=by simp;omega
    have hH2:H≠0:=by omega
    have r3:(M:Int).tdiv (H:Int)=((M/H:Nat):Int):=rfl;have r6:(M:Int).tmod (H:Int)=((M%H:Nat):Int):=rfl;have hq:=Zig M H;have hr:=Nat.mod_lt M (show 0<H by omega);obtain⟨q,hqe⟩:=gnX (M/H);obtain⟨r,hre⟩:=gnX (M%H);rw[hqe]at r3 hq;rw[hre]at r6 hr;clear hqe hre;have r4:IntKind.i64.wrap (q:Int)=(q:Int):=Yr _ (by omega);obtain⟨y2,hy2⟩:=gnX (x+(q:Int));have r5:IntKind.i64.wrap (x+(q:Int))=y2:=by rw[Yr _ (by omega)];exact hy2
    have hyb:128≤y2:=by omega
    by_cases hbig2:1114111<y2
    ·have d2:decide ((1114111:Int)<y2)=true:=Yh hbig2;clear hy2;go_wp2_with fail;go_ret2;exact Wz _ (Hx.o.trans Hx1.o)
    have d2:decide ((1114111:Int)<y2)=false:=Yi hbig2;have HH:=Ya hH;clear hy2 hM hH;go_wp2_with fail;refine Y0 (by kernel_rfl) (by kernel_rfl) ?_;repeat((with_reducible refine Yw ?_);intro K hK;go_simp;(with_reducible refine hK _ ?_);clear hK K)
    (with_reducible refine Yv ?_)
    intro w2 hy;have Hx2:=Ya (Hx1.o.trans hy);clear hy;cases hs:Zyg y2
    ·go_wp2_with (go_at_call 143;refine(Jf _ _).mono ?_;rintro e w' ⟨rfl,rfl⟩;rw[hs]);go_ret2;exact Wz _ (Hx.o.trans Hx2.o)
    go_wp2_with (go_at_call 143;refine(Jf _ _).mono ?_;rintro e w' ⟨rfl,rfl⟩;rw[hs]);refine(Rs V H (by omega) (by have:=HH.o;omega) (by have:=HH.o;omega) b _).mono ?_;rintro e w3 ⟨z3,rfl,hx3⟩;have Hx3:=Ya (Hx2.o.trans hx3);have Ho3:=Ya (Ho.o.ext Hx3.o);have hB3:=Zlo HBw.o Hx3.o.size;have HB3:=Ya hB3;have hrm:r≤m:=by have:=HH.o;omega
    have s0:(0:Int)≤(r:Int):=by omega
    have s1:(r:Int)≤(m:Int):=by omega
    have s2:(r:Int)≤(C:Int):=by omega
    have s3:r≤C:=by omega
    have s4:r≤m:=by omega
    clear hx3 hB3 hr hrm;have hA:(A=none∧m=0∧C=0)∨∃ g,A=some ⟨g,0,none⟩:=by
     rcases Ho.o.2 with⟨h1,h2⟩ | ⟨g,c,_,h1,_⟩
     ·simp only[Yg]at h1;exact .inl ⟨h1.1,by rw[← Hm.o];exact h2,h1.2.2⟩
     simp only[Yg]at h1;exact .inr ⟨g,h1.1⟩
    have Ht:=Ya (show RdE Wk w3 (fun k=>B≤k) (.slice A r C) (l.take r) from RdE.take (by have:=Ho3.o.rd;exact this) rfl (by rw[Hm.o];exact s4));have Htl:=Ya (show(l.take r).length=r by rw[Zp,Hm.o];omega);rcases hA with⟨rfl,rfl,rfl⟩ | ⟨g,rfl⟩
    ·obtain rfl:r=0:=by omega
     have hl0:l=[]:=Zl6 Hm.o;subst hl0;go_wp2_with (first|(at_builtin;refine Xu Wk _ _ _ rfl rfl rfl rfl (Own.nil Wk _ B) rfl (Ww w3 y2 _ _ rfl) (by show 0+1≤_;omega) (by show 8≤1000;omega) (by have:=HB3.o;simp;omega) ?_;intro A5 n5 c5 w5 hg5;have Hg5:=Ya hg5;have hx5:=hg5.ext w ((Hx.o.trans Hx3.o).alloc _) (by rw[HB.o];exact Yp _);have Hx5:=Ya hx5;have HB5:=Ya (show B≤w5.heap.size by rw[← HB.o];exact hx5.size);have Hl5:=Ya (show n5=1 by rw[hg5.len];rfl);clear hg5 hx5)|(at_builtin;refine Xu Wk _ _ _ rfl rfl rfl rfl Hg5.o.own rfl (show RdE Wk _ (fun _=>True) (.slice none 0 0) [] from Xy.nil _ _) (by show 1+0≤_;omega) (by show 8≤1000;omega) HB5.o ?_;intro A6 n6 c6 w6 hg6;have Hg6:=Ya hg6;have Hx6:=Ya (hg6.ext w Hx5.o (by rw[HB.o];exact Yp _));have Hl6:=Ya (show n6=1 by rw[hg6.len];rfl);clear hg6));go_roundw;case rel=>exact⟨p2,y2,1,z3,false,_,hp3,rfl,hyb,by omega,rfl,by rw[← Hg6.o.len,Hl6.o];omega,by first|rfl|go_num,rfl,rfl,Hg6.o.own,by rw[← Hg6.o.len,Hl6.o];omega,Hx6.o⟩
     (simp[intOf];omega)
    by_cases hCr:C=r
    ·have hmC:m=C:=by omega
     have hmr:m=r:=by omega
     clear hCr;subst hmC hmr;have Hr3:=Ya (show RdE Wk w3 (fun k=>k<w3.heap.size) _ l from Rd.mono Ho3.o.rd fun _ _ h=>h);go_wp2_with (first|(at_builtin;refine Xu Wk _ _ _ rfl rfl rfl rfl (Own.nil Wk _ B) rfl Ht.o (by have:=Htl.o;simp only[Zk];omega) (by show 8≤1000;omega) HB3.o ?_;intro A4 n4 c4 w4 hg4;have Hg4:=Ya hg4;have hx4:=hg4.ext w (Hx.o.trans Hx3.o) (by rw[HB.o];exact Yp _);have Hx4:=Ya hx4;have HB4:=Ya (show B≤w4.heap.size by rw[← HB.o];exact hx4.size);have Hl4:=Ya (show n4=m by rw[hg4.len,Zo];exact Htl.o);have Hr4:=Ya (Rd.chg Hr3.o hg4.chg (fun k _ h=>by cases h));have Ha4:=Ya (show ∀ k,k<w3.heap.size→¬ (Value.slice A4 n4 c4).ownBlock=some k by intro k hk he;rcases hg4.at_ with h|h<;>rw[he]at h;cases h;(simp at h;omega));have hc4:=hg4.cap;clear hg4 hx4)|(at_builtin;refine Xu Wk _ _ _ rfl rfl rfl rfl (Hg4.o.own.ext ((Yn _).alloc _)) rfl (Ww w4 y2 _ _ rfl) (by rw[← Hg4.o.len,Hl4.o];show _+1≤_;omega) (by show 8≤1000;omega) (by have:=HB4.o;simp;omega) ?_;intro A5 n5 c5 w5 hg5;have Hg5:=Ya hg5;have hx5:=hg5.ext w (Hx4.o.alloc _) (by rw[HB.o];exact Yp _);have Hx5:=Ya hx5;have HB5:=Ya (show B≤w5.heap.size by rw[← HB.o];exact hx5.size);have Hl5:=Ya (show n5=m+1 by rw[hg5.len,Zs,← Hg4.o.len,Hl4.o];rfl);have Hr5:=Ya (Rd.chg (Rd.ext Hr4.o ((Yn _).alloc _)) hg5.chg (fun k hk h=>Ha4.o k hk h));clear hg5 hx5)|(at_builtin;refine Xu Wk _ _ _ rfl rfl rfl rfl Hg5.o.own rfl (Znf _ _ _ (by unfold maxLen;omega)) (by rw[← Hg5.o.len,Hl5.o];show _+0≤_;omega) (by show 8≤1000;omega) HB5.o ?_;intro A6 n6 c6 w6 hg6;have Hg6:=Ya hg6;have Hx6:=Ya (hg6.ext w Hx5.o (by rw[HB.o];exact Yp _));have Hl6:=Ya (show n6=m+1 by rw[hg6.len,Zs,← Hg5.o.len,Hl5.o];rfl);clear hg6));go_roundw;case rel=>exact⟨p2,y2,m+1,z3,false,_,hp3,rfl,hyb,by omega,rfl,by rw[← Hg6.o.len,Hl6.o];omega,by rw[HH.o],rfl,rfl,Hg6.o.own,by rw[← Hg6.o.len,Hl6.o];omega,Hx6.o⟩
     (simp[intOf];omega)
    have c1:¬ r=C:=fun h=>hCr h.symm
    have Hr3:=Ya (show RdE Wk w3 (fun k=>k<w3.heap.size) _ l from Rd.mono Ho3.o.rd fun _ _ h=>h);go_wp2_with (first|(at_builtin;refine Xu Wk _ _ _ rfl rfl rfl rfl (Own.nil Wk _ B) rfl Ht.o (by have:=Htl.o;simp only[Zk];omega) (by show 8≤1000;omega) HB3.o ?_;intro A4 n4 c4 w4 hg4;have Hg4:=Ya hg4;have hx4:=hg4.ext w (Hx.o.trans Hx3.o) (by rw[HB.o];exact Yp _);have Hx4:=Ya hx4;have HB4:=Ya (show B≤w4.heap.size by rw[← HB.o];exact hx4.size);have Hl4:=Ya (show n4=r by rw[hg4.len,Zo];exact Htl.o);have Hr4:=Ya (Rd.chg Hr3.o hg4.chg (fun k _ h=>by cases h));have Ha4:=Ya (show ∀ k,k<w3.heap.size→¬ (Value.slice A4 n4 c4).ownBlock=some k by intro k hk he;rcases hg4.at_ with h|h<;>rw[he]at h;cases h;(simp at h;omega));have hc4:=hg4.cap;clear hg4 hx4)|(at_builtin;refine Xu Wk _ _ _ rfl rfl rfl rfl (Hg4.o.own.ext ((Yn _).alloc _)) rfl (Ww w4 y2 _ _ rfl) (by rw[← Hg4.o.len,Hl4.o];show _+1≤_;omega) (by show 8≤1000;omega) (by have:=HB4.o;simp;omega) ?_;intro A5 n5 c5 w5 hg5;have Hg5:=Ya hg5;have hx5:=hg5.ext w (Hx4.o.alloc _) (by rw[HB.o];exact Yp _);have Hx5:=Ya hx5;have HB5:=Ya (show B≤w5.heap.size by rw[← HB.o];exact hx5.size);have Hl5:=Ya (show n5=r+1 by rw[hg5.len,Zs,← Hg4.o.len,Hl4.o];rfl);have Hr5:=Ya (Rd.chg (Rd.ext Hr4.o ((Yn _).alloc _)) hg5.chg (fun k hk h=>Ha4.o k hk h));clear hg5 hx5)|(at_builtin;refine Xu Wk _ _ _ rfl rfl rfl rfl Hg5.o.own rfl (RdE.drop (show RdE Wk w5 (fun k=>k<w3.heap.size) (.slice (some ⟨g,0,none⟩) l.length C) l from Hr5.o) rfl (by rw[Hm.o];exact s4) (by rw[Hm.o]) (by first|(intro _;simp;done)|(intro h;exfalso;omega)) (by omega) (by unfold maxLen;omega)) (by rw[← Hg5.o.len,Hl5.o,Z8,Hm.o];omega) (by show 8≤1000;omega) HB5.o ?_;intro A6 n6 c6 w6 hg6;have Hg6:=Ya hg6;have Hx6:=Ya (hg6.ext w Hx5.o (by rw[HB.o];exact Yp _));have Hl6:=Ya (show n6=m+1 by rw[hg6.len,Zs,← Hg5.o.len,Hl5.o,Z8,Hm.o];omega);clear hg6));go_roundw;case rel=>exact⟨p2,y2,r+1,z3,false,_,hp3,rfl,hyb,by omega,rfl,by rw[← Hg6.o.len,Hl6.o];omega,by go_num,rfl,rfl,Hg6.o.own,by rw[← Hg6.o.len,Hl6.o];omega,Hx6.o⟩
    (simp[intOf];omega)
  have hd:=GEl a n;go_wp2_with fail;go_ret2;refine⟨_,l,0,rfl,?_,by rw[Hm.o];omega,Hx.o⟩;rw[← Hm.o,HB.o];exact Ho.o.rd
 have d0:decide ((2048:Int)<(n:Int))=true:=Yh;go_wp2_with fail;go_ret2;exact Wz _ (Yn _)
theorem Zsz(w:World)(t:TypeId)(g:Nat)(hg:w.heap.size=g):Own Zmu (w.alloc (.cells #[.slice none 0 0] 22)) w.heap.size (.slice (some ⟨g,0,none⟩) 1 1) [⟨none,0,0⟩]:=by
 subst hg;exact⟨rfl,.inr ⟨w.heap.size,1,_,rfl,Yp _,Zl2 w _,Yp _,by unfold maxLen;omega,rfl,rfl⟩⟩
theorem Zm0(w:World)(g:Nat)(hg:w.heap.size=g):RdE Zmu (w.alloc (.cells #[.slice none 0 0] 22)) (fun _=>True) (.slice (some ⟨g,0,none⟩) 1 1) [⟨none,0,0⟩] :=
 Rd.mono (Zsz w 0 g hg).rd fun _ _ _=>trivial
theorem Zuc(w:World)(S:Nat→Prop):Kn w S [⟨none,0,0⟩] [[]]:=⟨rfl,fun j s x h1 h2=>by
 cases j with
 | zero=>simp at h1 h2;subst h1 h2;exact Xy.nil _ _
 | succ j=>simp at h1⟩
theorem Zx4{w:World}{S:Nat→Prop}{vs:List Sl}{ls:List (List Int)}(h:Kn w S vs ls){s:Sl}{x:List Int}(hs:Xy w S s.v x):Kn w S (vs++[s]) (ls++[x]):=by
 refine⟨by simp[h.1],fun j a b h1 h2=>?_⟩;rcases Zjz j vs.length with hj|hj
 ·rw[Ze hj]at h1;rw[Ze (by rw[← h.1];exact hj)]at h2;exact h.2 j a b h1 h2
 rw[Zd hj]at h1;rw[Zd (by rw[← h.1];exact hj),← h.1]at h2;rcases hk:j-vs.length with _|k
 ·rw[hk]at h1 h2;simp at h1 h2;subst h1 h2;exact hs
 rw[hk]at h1;simp at h1
theorem Sg{w:World}{S:Nat→Prop}{vs:List Sl}{ls:List (List Int)}(h:Kn w S vs ls){s:Sl}{x:List Int}(hs:Xy w S s.v x)(i:Nat):Kn w S (vs.set i s) (ls.set i x):=by
 refine⟨by simp[h.1],fun j a b h1 h2=>?_⟩;rw[Yx]at h1 h2;by_cases hij:i=j
 ·subst hij;rw[Zlm rfl]at h1 h2;split at h1
  ·rw[Zlm (by rw[← h.1];assumption)]at h2;cases h1;cases h2;exact hs
  cases h1
 rw[Zlq hij]at h1 h2;exact h.2 j a b h1 h2
def Iw(ls:List (List Int))(c:Int):List (List Int):=if c=46 then ls++[[]]else ls.set (ls.length-1) ((ls.getD (ls.length-1) [])++[c])
def Ut(l:List Int):List (List Int):=l.foldl Iw [[]]
theorem Zr8(ls:List (List Int))(c:Int):ls.length≤(Iw ls c).length:=by
 unfold Iw;split<;>simp
theorem Sm(l:List Int):1≤(Ut l).length:=by
 unfold Ut
 suffices ∀ ls:List (List Int),1≤ls.length→1≤(l.foldl Iw ls).length from this _ (by simp)
 induction l with
 | nil=>intro ls h;exact h
 | cons c r ih=>intro ls h;exact ih _ (Zlo h (Zr8 ls c))
def Zvs(N:Nat)(w:World)(e:Ending)(w':World):Prop:=∃ (v:Value) (l:List Int),e=.returned v∧RdE Wk w' (fun k=>w.heap.size≤k) v l∧l.length≤N∧Ext w w'
theorem Zr6(v:Value)(ls:List (List Int))(w:World)(h:Zy8 w v ls)(hn:ls.length≤4097)(hm:∀ y∈ls,y.length≤4096):Calls Tryz.prog 222 #[v] w (Zvs 20000000 w):=by
 obtain⟨A,C,rfl,hlC,hC⟩:=h.shape;obtain⟨n,hnn⟩:=gnX (ls.length);rw[hnn]at hlC hn⊢;have Hnn:=Ya hnn;have Hh:=Ya h;have Hm:=Ya hm;obtain⟨B,hB⟩:=gnX (w.heap.size);have HB:=Ya hB;clear h hnn hm hB;go_enter Tryz.func222,Tryz.ntmps222;go_wp2_with fail;go_loopw [8,3] (fun o u wr=>∃ (i:Nat) (l:List Int),i≤n∧o=.int .i64 (i:Int)∧Own Wk wr B u l∧l.length≤i*4097∧Ext w wr) (fun o _ _=>n-(intOf o).toNat);case atStart=>exact⟨0,[],by omega,rfl,Own.nil _ _ _,by simp,Yn _⟩
 obtain⟨i,l,hi,rfl,ho,hli,hx⟩:=hrel;obtain⟨A2,C2,rfl,hlC2,hC2⟩:=ho.shape;obtain⟨m,hm⟩:=gnX (l.length);have hoI:Own Wk wr B (.slice A2 m C2) l:=by rw[← hm];exact ho
 rw[hm]at hlC2 hli⊢;have Hx:=Ya hx;have Ho:=Ya hoI;have Hl:=Ya hm;have hBw:B≤wr.heap.size:=by rw[← HB.o];exact hx.size
 unfold maxLen at hC2;clear hx ho hoI hm;by_cases hlt:i<n
 ·obtain⟨hd_i,i0_i,i1_i⟩:=LTl i n;obtain⟨x,hx⟩:=geX (l:=ls) (i:=i) (by rw[Hnn.o];exact hlt);obtain⟨g,o,c,u,hv,_,_,hg,c0,hxu⟩:=Hh.o.get hx;simp only[Yg]at hv;obtain⟨rfl,-,rfl⟩:=hv;replace c0:=(Hx.o.cell (p:=⟨g,o+i,none⟩) hg).trans c0;have hxl:=Hm.o x (Zy hx);obtain⟨A3,C3,rfl,hl3,hc3⟩:=hxu.shape;obtain⟨k,hk⟩:=gnX (x.length);have Hxu:=Ya (show RdE Wk w (fun _=>True) (.slice A3 k C3) x by rw[← hk];exact hxu);rw[hk]at c0 hl3 hxl;have Hk:=Ya hk;clear hx hxu hk;have hi1:i*4097≤4097*4097:=Zla _ (by omega);have hi2:(i+1)*4097=i*4097+4097:=by omega
  have Hi2:=Ya hi2;clear hi2;by_cases hi0:0<i
  ·have d1:decide ((0:Int)<(i:Int))=true:=Yh;go_wp2_with (first|(at_builtin;refine Xu Wk _ _ _ rfl rfl rfl rfl (Ho.o.ext ((Yn _).alloc _)) rfl (Ww wr 46 _ _ rfl) (by rw[Hl.o];show m+1≤_;omega) (by show 8≤1000;omega) (by simp;omega) ?_;intro A4 n4 c4 w4 hg4;have Hx4:=Ya (hg4.ext w (Hx.o.alloc _) (by rw[HB.o];exact Yp _));have Hl4:=Ya (show n4=m+1 by(rw[hg4.len,Zs,Hl.o];rfl));have HB4:=Ya (show B≤w4.heap.size by rw[← HB.o];exact Hx4.o.size);have Hg4:=Ya hg4;clear hg4)|(at_builtin;refine Xu Wk _ _ _ rfl rfl rfl rfl Hg4.o.own rfl (Hxu.o.ext Hx4.o) (by rw[← Hg4.o.len,Hl4.o,Hk.o];omega) (by show 8≤1000;omega) HB4.o ?_;intro A5 n5 c5 w5 hg5;have Hx5:=Ya (hg5.ext w Hx4.o (by rw[HB.o];exact Yp _));have Hl5:=Ya (show n5=m+1+k by(rw[hg5.len,Zs,← Hg4.o.len,Hl4.o,Hk.o]));have Hg5:=Ya hg5;clear hg5));go_roundw;case rel=>exact⟨i+1,_,by omega,by go_num,Hg5.o.own,by rw[← Hg5.o.len,Hl5.o,Hi2.o];omega,Hx5.o⟩
   (simp[intOf];omega)
  have d1:decide ((0:Int)<(i:Int))=false:=Yi;go_wp2_with (at_builtin;refine Xu Wk _ _ _ rfl rfl rfl rfl Ho.o rfl (Hxu.o.ext Hx.o) (by rw[Hl.o,Hk.o];omega) (by show 8≤1000;omega) hBw ?_;intro A5 n5 c5 w5 hg5;have Hx5:=Ya (hg5.ext w Hx.o (by rw[HB.o];exact Yp _));have Hl5:=Ya (show n5=m+k by(rw[hg5.len,Zs,Hl.o,Hk.o]));have Hg5:=Ya hg5;clear hg5);go_roundw;case rel=>exact⟨i+1,_,by omega,by go_num,Hg5.o.own,by rw[← Hg5.o.len,Hl5.o,Hi2.o];omega,Hx5.o⟩
  (simp[intOf];omega)
 have hd_i:=GEl i n;go_wp2_with fail;go_ret;refine⟨_,l,rfl,?_,?_,Hx.o⟩
 ·have:=Ho.o.rd;rw[HB.o];rw[← Hl.o]at this⊢;exact this
 rw[Hl.o];have:i*4097≤4097*4097:=Zla _ (by omega);omega
def Ej(w:World)(e:Ending)(w':World):Prop:=∃ x y:Int,e=.returned (.tuple #[.int .i64 x,.int .i64 y])∧Ext w w'
theorem strs_get{w:World}{S:Nat→Prop}{v:Value}{l:List ByteArray}(h:RdE Q8 w S v l){j:Nat}{x:ByteArray}(hj:l[j]?=some x) :
 ∃ g o c,v=.slice (some ⟨g,o,none⟩) l.length c∧l.length≤c∧c≤maxLen∧S g∧g<w.heap.size∧w.cell? ⟨g,o+j,none⟩=some (.string x):=by
 obtain⟨g,o,c,h1,h2,h3,h4,h5,h6⟩:=Rd.at_ h (Zr.1 hj).1;exact⟨g,o,c,h1,h2,h3,h4,h5,h6 j _ (by show(l.map Value.string)[j]?=_;rw[Zn,hj];rfl)⟩
theorem K9{S:Nat→Prop}(v:Value)(l:List ByteArray)(w:World)(h:RdE Q8 w S v l)(hl:l.length≤5000)(hs:∀ s∈l,s.size≤63):Calls Tryz.prog 206 #[v] w (Ej w):=by
 obtain⟨A,C,rfl,hlC,hC⟩:=h.shape;obtain⟨n,hnn⟩:=gnX (l.length);rw[hnn]at hlC hl⊢;have Hnn:=Ya hnn;have Hh:=Ya h;have Hs:=Ya hs;clear h hnn hs;go_enter Tryz.func206,Tryz.ntmps206;by_cases h0:n=0
 ·subst h0;go_wp2_with fail;go_ret2;exact⟨_,_,rfl,Yn _⟩
 have d0:((n:Int)==0)=false:=by simp;omega
 have d0b:(n==0)=false:=by simp;omega
 clear h0;go_wp2_with fail;go_loopw [15,4] (fun o t wr=>∃ (i:Nat) (z:Int),i≤n∧o=.int .i64 (i:Int)∧t=.int .i64 z∧Ext w wr) (fun o _ _=>n-(intOf o).toNat);case atStart=>exact⟨0,_,by omega,rfl,rfl,Yn _⟩
 obtain⟨i,z,hi,rfl,rfl,hx⟩:=hrel;have Hx:=Ya hx;clear hx;by_cases hlt:i<n
 ·obtain⟨hd_i,i0_i,i1_i⟩:=LTl i n;obtain⟨x,hx⟩:=geX (l:=l) (i:=i) (by rw[Hnn.o];exact hlt);obtain⟨g,o,c,hv,_,_,_,hg,c0⟩:=strs_get (Hh.o.ext Hx.o) hx;simp only[Yg]at hv;obtain⟨rfl,-,rfl⟩:=hv;have hxs:=Hs.o x (Zy hx);have d63:decide ((63:Int)<(x.size:Int))=false:=Yi;have d63b:decide (63<x.size)=false:=Yi;clear hx;go_wp2_with fail;all_goals
   first
   | (go_roundw
      case rel=>exact⟨i+1,_,by omega,by go_num,rfl,Hx.o⟩
      (simp[intOf];omega))
   | (go_ret2;exact⟨_,_,rfl,Hx.o⟩)
 have hd_i:=GEl i n;go_wp2_with fail;all_goals
  go_ret2;exact⟨_,_,rfl,Hx.o⟩
def Zrv(N:Nat)(w:World)(e:Ending)(w':World):Prop:=∃ (s:ByteArray) (y:Int),e=.returned (.tuple #[.string s,.int .i64 y])∧s.size≤N∧Ext w w'
theorem Zx9{S:Nat→Prop}(v:Value)(l:List ByteArray)(w:World)(h:RdE Q8 w S v l)(hl:l.length≤5000)(hs:∀ s∈l,s.size≤63):Calls Tryz.prog 207 #[v] w (Zrv 400000 w):=by
 obtain⟨A,C,rfl,hlC,hC⟩:=h.shape;obtain⟨n,hnn⟩:=gnX (l.length);have hI:RdE Q8 w S (.slice A n C) l:=by rw[← hnn];exact h
 rw[hnn]at hlC hl⊢;have Hnn:=Ya hnn;have Hh:=Ya hI;have Hs:=Ya hs;clear h hnn hs hI;go_enter Tryz.func207,Tryz.ntmps207;go_wp2_with fail;refine(K9 _ l _ Hh.o (by rw[Hnn.o];exact hl) Hs.o).mono ?_;rintro e w1 ⟨x,y,rfl,hx1⟩;have Hx1:=Ya hx1;clear hx1;by_cases hy:y=0
 ·subst hy;go_wp2_with fail;go_loopw [19,6] (fun o t wr=>∃ (i:Nat) (u:ByteArray),i≤n∧o=.int .i64 (i:Int)∧t=.string u∧u.size≤i*64∧Ext w wr) (fun o _ _=>n-(intOf o).toNat);case atStart=>exact⟨0,⟨#[]⟩,by omega,rfl,rfl,by show 0≤_;omega,Hx1.o⟩
  obtain⟨i,u,hi,rfl,rfl,hu,hx⟩:=hrel;have Hx:=Ya hx;clear hx Hx1;by_cases hlt:i<n
  ·obtain⟨hd_i,i0_i,i1_i⟩:=LTl i n;obtain⟨x,hx⟩:=geX (l:=l) (i:=i) (by rw[Hnn.o];exact hlt);obtain⟨g,o,c,hv,_,_,_,hg,c0⟩:=strs_get (Hh.o.ext Hx.o) hx;simp only[Yg]at hv;obtain⟨rfl,-,rfl⟩:=hv;have hxs:=Hs.o x (Zy hx);have hus:¬ 9223372036854775807<u.size+x.size:=by omega
   have hus1:¬ 9223372036854775807<u.size+1:=by omega
   have hus2:¬ 9223372036854775807<u.size+1+x.size:=by omega
   clear hx;go_wp2_with fail;all_goals
    go_roundw;case rel=>exact⟨i+1,_,by omega,by go_num,rfl,by first|(rw[Yo,Yo];show u.size+1+x.size≤_;omega)|(rw[Yo];omega),Hx.o⟩
    (simp[intOf];omega)
  have hd_i:=GEl i n;go_wp2_with fail;go_ret2;exact⟨_,_,rfl,by omega,Hx.o⟩
 have d2:(!(y==0))=true:=by simp[hy]
 have d3:(y !=0)=true:=d2;clear hy;go_wp2_with fail;go_ret2;exact⟨_,_,rfl,by show 0≤_;omega,Hx1.o⟩
def Zy7(l:List Int)(w:World)(e:Ending)(w':World):Prop:=∃ v vs,e=.returned v∧Mh w' w.heap.size v vs (Ut l)∧Ext w w'
theorem Zxd(l:List Int)(c:Int):Ut (l++[c])=Iw (Ut l) c:=by unfold Ut;rw[Zjn];rfl
theorem So(l:List Int):(Ut l).length≤l.length+1:=by
 unfold Ut
 suffices ∀ ls:List (List Int),(l.foldl Iw ls).length≤ls.length+l.length from by have:=this [[]];simp at this⊢;omega
 induction l with
 | nil=>intro ls;simp
 | cons c r ih =>
  intro ls;have h1:(Iw ls c).length≤ls.length+1:=by unfold Iw;split<;>simp
  have:=ih (Iw ls c);simp only[List.foldl_cons,Zl]at this⊢;omega
theorem Zr9{N:Nat}{ls:List (List Int)}(h:∀ y∈ls,y.length≤N)(c:Int):∀ y∈Iw ls c,y.length≤N+1:=by
 intro y hy;unfold Iw at hy;split at hy
 ·rcases Zj.1 hy with h1|h1
  ·have:=h y h1;omega
  rw[Zi.1 h1];simp
 rcases Zkq hy with h1|h1
 ·have:=h y h1;omega
 rw[h1,Zs,Zks];cases hq:ls[ls.length-1]? with
 | none=>simp
 | some z=>have:=h z (Zy hq);simp;omega
theorem Sn(l:List Int):∀ y∈Ut l,y.length≤l.length:=by
 suffices ∀ (N:Nat) (ls:List (List Int)),(∀ y∈ls,y.length≤N)→∀ y∈l.foldl Iw ls,y.length≤N+l.length from by
  intro y hy;have:=this 0 [[]] (by simp) y hy;omega
 induction l with
 | nil=>intro N ls h y hy;exact h y hy
 | cons c r ih =>
  intro N ls h y hy;have:=ih (N+1) (Iw ls c) (Zr9 h c) y hy;simp;omega
theorem Zxe{S:Nat→Prop}(v:Value)(l:List Int)(w:World)(h:Xy w S v l)(hll:l.length≤4096):Calls Tryz.prog 211 #[v] w (Zy7 l w):=by
 obtain⟨A,C,rfl,hlCC,hCC⟩:=h.shape;obtain⟨n,hnn⟩:=gnX ((l).length);have Hnn:=Ya hnn;have Hh:=Ya h;unfold maxLen at hCC;rw[hnn]at hlCC⊢;clear h hnn;rw[Hnn.o]at hll;obtain⟨B,hB⟩:=gnX (w.heap.size);have HB:=Ya hB;have Ho0:=Ya (show Mh (w.alloc (.cells #[.slice none 0 0] 22)) B (.slice (some ⟨w.heap.size,0,none⟩) 1 1) [⟨none,0,0⟩] [[]] from⟨by rw[← hB];exact Zsz w 0 _ rfl,Zuc _ _⟩);clear hB;go_enter Tryz.func211,Tryz.ntmps211;go_wp2_with fail;go_loopw [10,3] (fun o u wr=>∃ (i:Nat) (vs:List Sl),i≤n∧o=.int .i64 (i:Int)∧Mh wr B u vs (Ut (l.take i))∧Ext w wr) (fun o _ _=>n-(intOf o).toNat);case atStart=>exact⟨0,_,by omega,rfl,Ho0.o,(Yn w).alloc _⟩
 clear Ho0;obtain⟨i,vs,hi,rfl,ho,hx⟩:=hrel;obtain⟨ls,hls⟩:=gnX (Ut (l.take i));rw[hls]at ho;have hl1:1≤ls.length:=by rw[← hls];exact Sm _
 have hmem:∀ y∈ls,y.length≤4096:=by rw[← hls];intro y hy;exact Zlo (Sn _ y hy) (by rw[Zp];omega)
 have Hmem:=Ya hmem;clear hmem;have hl2:ls.length≤4097:=by rw[← hls];exact Zlo (So _) (by rw[Zp];omega)
 obtain⟨m,hm⟩:=gnX (ls.length);have hvm:vs.length=m:=by rw[ho.2.1,hm]
 rw[hm]at hl1 hl2;obtain⟨g,C2,rfl,hg1,hg2,hg3,hg4⟩:=ho.1.some_ (by omega);rw[hvm]at hg3 ho⊢;have Hx:=Ya hx;have Ho:=Ya ho;have Hls:=Ya hls;have Hm:=Ya hm;have Hvm:=Ya hvm;have hBw:B≤wr.heap.size:=by rw[← HB.o];exact hx.size
 unfold maxLen at hg4;clear hx ho hls hm hvm;by_cases hlt:i<n
 ·obtain⟨hd_i,i0_i,i1_i⟩:=LTl i n;obtain⟨x,hs_x⟩:=geX (l:=(l)) (i:=i) (by have:=Hnn.o;omega);obtain⟨g_x,o_x,c_x,hvv,_,_,_,hgl_x,a0_x⟩:=(Hh.o.ext Hx.o).get hs_x;simp only[Yg]at hvv;obtain⟨rfl,-,rfl⟩:=hvv;have Hs_x:=Ya hs_x;clear hs_x;have Hnew:=Ya (show Ut (l.take (i+1))=Iw ls x by rw[Za,Hs_x.o];show Ut (l.take i++[x])=_;rw[Zxd,Hls.o]);by_cases h46:x=46
  ·subst h46;go_wp2_with (at_builtin;refine Xu Zmu _ _ _ rfl rfl rfl rfl (Ho.o.1.ext ((Yn _).alloc _)) rfl (Zm0 wr _ rfl) (by rw[Hvm.o];simp;omega) (by show 24≤1000;omega) (by simp;omega) ?_;intro A3 n3 c3 w3 hg);have Hg:=Ya hg;clear hg;go_wp2_with fail;go_roundw;case rel =>
    refine⟨i+1,vs++[⟨none,0,0⟩],by omega,by go_num,?_,Hg.o.ext w (Hx.o.alloc _) (by rw[HB.o];exact Yp _)⟩;rw[Hnew.o,show Iw ls 46=ls++[[]] from Zlm rfl];refine⟨Hg.o.own,Zx4 ?_ (Xy.nil _ _)⟩;have h1:Kn (wr.alloc (.cells #[.slice none 0 0] 22)) (fun k=>(Value.slice (some ⟨g,0,none⟩) m C2).ownBlock≠some k∧k<wr.heap.size) vs ls:=(Ho.o.2.mono fun k hk hl=>⟨hk,hl⟩).ext ((Yn _).alloc _)
    refine(h1.chg Hg.o.chg fun k hk=>hk.1).mono fun k hk _=>?_
    rcases Hg.o.at_ with h|h
    ·rw[h];exact hk.1
    rw[h];simp;have:=hk.2;omega
   case measure=>(simp[intOf];omega)
  have h46b:(x==46)=false:=by simp[h46]
  have Hne:=Ya h46;clear h46;have p1:=Vw m (by omega) (by omega);have p3:(0:Int)≤((m-1:Nat):Int):=by omega
  have p4:((m-1:Nat):Int)<(m:Int):=by omega
  have p6:m-1<m:=by omega
  obtain⟨q,hq⟩:=gnX (m-1);rw[hq]at p1 p3 p4 p6;have Hq:=Ya hq;clear hq;obtain⟨s,hs⟩:=geX (l:=vs) (i:=q) (by rw[Hvm.o];exact p6);obtain⟨y,hy⟩:=geX (l:=ls) (i:=q) (by rw[Hm.o];exact p6);have hsy:=Ho.o.2.2 q s y hs hy;have c0:=Ho.o.1.at_ (Dc hs);obtain⟨sa,sn,sc⟩:=s;have hsn:sn=y.length:=by
   obtain⟨_,_,e,_⟩:=hsy.shape;simp only[Sl.v,Yg]at e;exact e.2.1
  subst hsn;simp only[Sl.v]at c0 hsy;have Hsy:=Ya hsy;have Hys:=Ya hy;have Hss:=Ya hs;clear hs hy hsy;have hyl:y.length≤4096:=Hmem.o y (Zy Hys.o);obtain⟨yn,hyn⟩:=gnX (y.length);have Hyn:=Ya hyn;rw[hyn]at c0 hyl;clear hyn;go_wp2_with (first|(at_builtin;refine Xu Wk _ _ _ rfl rfl rfl rfl (Own.nil Wk _ B) rfl (show RdE Wk wr _ (.slice sa yn sc) y from(by have:=Hsy.o;rwa [Hyn.o]at this)) (by rw[Hyn.o];simp;omega) (by show 8≤1000;omega) hBw ?_;intro A4 n4 c4 w4 hg4;have Ha4:=Ya (show ∀ k,k<wr.heap.size→¬ (Value.slice A4 n4 c4).ownBlock=some k by intro k hk he;rcases hg4.at_ with h|h<;>rw[he]at h;cases h;(simp at h;omega));have Ho4:=Ya (Own.chg Ho.o.1 hg4.chg (fun k _ h=>by cases h));have Hl4:=Ya (Kn.chg (Ho.o.2.mono fun k hk hl=>(⟨hk,hl⟩:_∧k<wr.heap.size)) hg4.chg (fun k _ h=>by cases h));have Hx4:=Ya (hg4.ext w Hx.o (by rw[HB.o];exact Yp _));have Hg4:=Ya hg4;have hs4:=hg4.chg.size;clear hg4)|(at_builtin;refine Xu Wk _ _ _ rfl rfl rfl rfl (Hg4.o.own.ext ((Yn _).alloc _)) rfl (Ww w4 x _ _ rfl) (by rw[Zs,Hyn.o];simp;omega) (by show 8≤1000;omega) (by simp;omega) ?_;intro A5 n5 c5 w5 hg5;have ho5:=Own.chg (Ho4.o.ext ((Yn _).alloc _)) hg5.chg (fun k hk=>Ha4.o k (by simp[Value.ownBlock]at hk;omega));have Hl5:=Ya (Kn.chg (Hl4.o.ext ((Yn _).alloc _)) hg5.chg (fun k hk=>Ha4.o k hk.2));have hc5:=ho5.at_ (Dc Hss.o);simp only[Sl.v]at hc5;rw[Hyn.o]at hc5;have htw5:=ho5.thaw q;have hgb5:=ho5.blk.2;have Ho5:=Ya ho5;have Hx5:=Ya (hg5.ext w (Hx4.o.alloc _) (by rw[HB.o];exact Yp _));have Hg5:=Ya hg5;clear hg5 ho5));go_roundw;case rel =>
   refine⟨i+1,vs.set q ⟨A5,n5,c5⟩,by omega,by go_num,?_,Yc Hx5.o (by show w.heap.size≤g;rw[HB.o];exact hg1) _⟩;have hy2:(ls.getD (ls.length-1) [])=y:=by rw[Hm.o,Hq.o,Zks,Hys.o];rfl
   rw[Hnew.o,show Iw ls x=ls.set (ls.length-1) ((ls.getD (ls.length-1) [])++[x]) from Zlq Hne.o,hy2,Hm.o,Hq.o];refine⟨Ho5.o.put rfl (by rw[Hvm.o];exact p6) ⟨A5,n5,c5⟩ rfl,Sg ?_ ?_ q⟩
   ·exact(Hl5.o.chg ((Chg.refl (· = g) w5).setCell (p:=⟨g,q,none⟩) (.inl rfl) _) fun k hk e=>hk.1 (by rw[e];rfl)).mono fun k hk _=>hk.1
   have h1:Xy w5 (fun k=>(Value.slice (some ⟨g,0,none⟩) m C2).ownBlock≠some k) (.slice A5 n5 c5) (y++[x]):=by
    have h2:=Hg5.o.own;rw[Zo]at h2;have e5:n5=(y++[x]).length:=by have:=Hg5.o.len;rwa [Zo]at this
    rw[e5]at h2⊢;refine Rd.of_own h2 fun k hk=>?_
    rw[← e5]at hk;intro e;have hkg:g=k:=by simpa[Value.ownBlock]using e
    subst hkg;rcases Hg5.o.at_ with h|h
    ·exact Ha4.o g hg2 (h.symm.trans hk)
    have h':(Value.slice A5 n5 c5).ownBlock=some g:=hk;rw[h']at h;simp at h;omega
   exact h1.chg ((Chg.refl (· = g) w5).setCell (p:=⟨g,q,none⟩) (.inl rfl) _) fun k hk e=>hk (by rw[e];rfl)
  case measure=>(simp[intOf];omega)
 have hd_i:=GEl i n;obtain rfl:i=n:=by omega
 go_wp2_with fail;go_ret;refine⟨_,vs,rfl,?_,Hx.o⟩;rw[HB.o];have:=Ho.o;rw[← Hls.o,Zm (by rw[Hnn.o];omega)]at this;exact this
end Go.Proofs.YtnbclgbicnpmnaaGreat
