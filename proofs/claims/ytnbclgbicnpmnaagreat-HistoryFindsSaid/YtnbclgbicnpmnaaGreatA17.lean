/- Lemmas of this claim: P4, P5, P6. Conditions: as named. -/
import Derived.Test.YtnbclgbicnpmnaaGreatA16
namespace Go.Proofs.YtnbclgbicnpmnaaGreat
open Go.RowKit Go.Sort Tryz
set_option maxHeartbeats 0
set_option maxRecDepth 100000
set_option linter.all false
def Zok(l:List Int):Bool:=l.all fun c=>decide (0≤c)&&decide (c≤127)
theorem Zuj{l:List Int}{i:Nat}{x:Int}(h:l[i]?=some x)(hx:x<0∨127<x):Zok l=false:=by
 unfold Zok;rw[List.all_eq_false];exact⟨x,Zy h,by simp;omega⟩
theorem Bx{S:Nat→Prop}(v:Value)(l:List Int)(w:World)(h:Xx w S v l):Calls prog 212 #[v] w fun e w'=>e=.returned (.bool (Zok l))∧Ext w w':=by
 obtain⟨A,C,rfl,hlCC,hCC⟩:=h.shape;obtain⟨n,hnn⟩:=gnX ((l).length);have Hnn:=Y4 hnn;have Hh:=Y4 h;unfold maxLen at hCC;rw[hnn]at hlCC⊢;clear h hnn;go_enter func212,ntmps212;go_wp2_with fail;go_loopw [7] (fun o wr=>∃ i:Nat,i≤n∧o=.int .i64 (i:Int)∧(∀ c∈l.take i,0≤c∧c≤127)∧Ext w wr) (fun o _=>n-(intOf o).toNat);case atStart=>exact⟨0,by omega,rfl,by simp,Yl _⟩
 obtain⟨i,hi,rfl,ha,hx⟩:=hrel;have Hx:=Y4 hx;have Ha:=Y4 ha;clear hx ha;by_cases hlt:i<n
 ·obtain⟨hd_i,i0_i,i1_i⟩:=LTl i n;obtain⟨x,hs_x⟩:=geX (l:=(l)) (i:=i) (by have:=Hnn.o;omega);obtain⟨g_x,o_x,c_x,hvv,_,_,_,hgl_x,a0_x⟩:=(Hh.o.ext Hx.o).get hs_x;simp only[Ye]at hvv;obtain⟨rfl,-,rfl⟩:=hvv;have Hs_x:=Y4 hs_x;clear hs_x;by_cases h0:x<0∨127<x
  ·have Hb:=Y4 (Zuj Hs_x.o h0);rcases h0 with h0|h0
   ·have d1:decide (x<0)=true:=Yf h0;go_wp2_with fail;go_ret;exact⟨by rw[Hb.o];rfl,Hx.o⟩
   have d1:decide (x<0)=false:=Yg;have d2:decide (127<x)=true:=Yf h0;go_wp2_with fail;go_ret;exact⟨by rw[Hb.o];rfl,Hx.o⟩
  have d1:decide (x<0)=false:=Yg;have d2:decide (127<x)=false:=Yg;have H0:=Y4 h0;clear h0;go_wp2_with fail;go_roundw;case rel =>
   refine⟨i+1,by omega,by go_num,?_,Hx.o⟩;rw[Wp Hs_x.o];intro c hc;rcases Zj.1 hc with h1|h1
   ·exact Ha.o c h1
   rw[Zi.1 h1];have:=H0.o;omega
  case measure=>(simp[intOf];omega)
 have hd_i:=GEl i n;go_wp2_with fail;go_ret;refine⟨?_,Hx.o⟩;have hb:Zok l=true:=by
  unfold Zok;rw[Zh1];intro c hc;have:=Ha.o;rw[Zm (by rw[Hnn.o];omega)]at this;have:=this c hc;simp;omega
 rw[hb];rfl
theorem Ez(z:Nat)(h1:z≤255)(w:World) :
 (convert 224 9 (.slice (some ⟨w.heap.size,0,none⟩) 1 1)).run prog (w.alloc (.cells #[.int .u8 (z:Int)] 5))=.ok (.string (bs (u8L [(z:Int)]))) (w.alloc (.cells #[.int .u8 (z:Int)] 5)):=by
 have:=Qg (w:=w) [(z:Int)] 1 rfl _ rfl;simp only[Zj0,Ziz]at this;rw[show(z:Int)%256=(z:Int) by omega]at this;exact this
def Zni(n:Nat)(w:World)(e:Ending)(w':World):Prop:=∃ t:ByteArray,e=.returned (.string t)∧t.size=n∧Ext w w'
theorem L9(s:ByteArray)(w:World)(hs:s.size≤100000):Calls prog 228 #[.string s] w (Zni s.size w):=by
 obtain⟨n,hn⟩:=gnX (s.size);rw[hn]at hs⊢;have Hn:=Y4 hn;go_enter func228,ntmps228;go_wp2_with fail;go_loopw [4,3] (fun o t wr=>∃ (i:Nat) (u:ByteArray),i≤n∧o=.int .i64 (i:Int)∧t=.string u∧u.size=i∧Ext w wr) (fun o _ _=>n-(intOf o).toNat);case atStart=>exact⟨0,⟨#[]⟩,by omega,rfl,rfl,rfl,Yl _⟩
 obtain⟨i,u,hi,rfl,rfl,hu,hx⟩:=hrel;have Hu:=Y4 hu;have hus0:u.size≤100000:=by omega
 clear hu;by_cases hlt:i<n
 ·have hd:=LTd i n;have hlt':i<s.size:=by rw[Hn.o];exact hlt
  obtain⟨b,hb⟩:∃ b:Nat,(s[i]'hlt').toNat=b:=⟨_,rfl⟩;have hb2:b≤255:=by rw[← hb];have:=(s[i]'hlt').toNat_lt;omega
  by_cases h1:65≤b
  ·have d1:decide ((65:Int)≤(b:Int))=true:=Yf;by_cases h2:b≤90
   ·have d2:decide ((b:Int)≤90)=true:=Yf;obtain⟨c,hc⟩:=gnX (b+32);have r1:IntKind.u8.wrap ((b:Int)+32)=(c:Int):=by rw[Zi9 _ (by omega)];omega
    have hcv:=fun w=>Ez c (by omega) w
    obtain⟨bz,hbz⟩:=gnX (bs (u8L [(c:Int)]));have hbs:bz.size=1:=by rw[← hbz];rfl
    rw[hbz]at hcv;have hus:¬ 9223372036854775807<u.size+bz.size:=by omega
    clear hbz;go_wp2_with fail;go_roundw;case rel=>exact⟨i+1,_,by omega,by go_num,rfl,by rw[Ym,Hu.o,hbs],hx.alloc _⟩
    (simp[intOf];omega)
   have d2:decide ((b:Int)≤90)=false:=Yg;have hcv:=fun w=>Ez b (by omega) w
   obtain⟨bz,hbz⟩:=gnX (bs (u8L [(b:Int)]));have hbs:bz.size=1:=by rw[← hbz];rfl
   rw[hbz]at hcv;have hus:¬ 9223372036854775807<u.size+bz.size:=by omega
   clear hbz;go_wp2_with fail;go_roundw;case rel=>exact⟨i+1,_,by omega,by go_num,rfl,by rw[Ym,Hu.o,hbs],hx.alloc _⟩
   (simp[intOf];omega)
  have d1:decide ((65:Int)≤(b:Int))=false:=Yg;have hcv:=fun w=>Ez b (by omega) w
  obtain⟨bz,hbz⟩:=gnX (bs (u8L [(b:Int)]));have hbs:bz.size=1:=by rw[← hbz];rfl
  rw[hbz]at hcv;have hus:¬ 9223372036854775807<u.size+bz.size:=by omega
  clear hbz;go_wp2_with fail;go_roundw;case rel=>exact⟨i+1,_,by omega,by go_num,rfl,by rw[Ym,Hu.o,hbs],hx.alloc _⟩
  (simp[intOf];omega)
 have hd:=GEl i n;go_wp2_with fail;go_ret;exact⟨u,rfl,by have:=Hu.o;omega,hx⟩
def Zlb(n:Nat)(w:World)(e:Ending)(w':World):Prop:=∃ b:Bool,e=.returned (.bool b)∧(b=true→4≤n)∧Ext w w'
theorem Zof(s:ByteArray)(w:World)(hs:s.size≤100000):Calls prog 213 #[.string s] w (Zlb s.size w):=by
 go_enter func213,ntmps213;by_cases h4:4≤s.size
 ·have d1:decide ((4:Int)≤(s.size:Int))=true:=Yf;go_wp2_with (go_at_call 228;refine(L9 _ _ (by simp;omega)).mono ?_;rintro e w1 ⟨t,rfl,ht,hx1⟩);go_ret;exact⟨_,rfl,fun _=>h4,hx1⟩
 have d1:decide ((4:Int)≤(s.size:Int))=false:=Yg;go_wp2_with fail;go_ret;exact⟨false,rfl,fun h=>absurd h (by decide),Yl _⟩
def Znk(w:World)(e:Ending)(w':World):Prop:=∃ (s:ByteArray) (x:Int),e=.returned (.tuple #[.string s,.int .i64 x])∧s.size≤63∧(x=0→1≤s.size)∧Ext w w'
theorem Tt{S:Nat→Prop}(v:Value)(l:List Int)(w:World)(h:Xx w S v l)(hll:l.length≤100000):Calls prog 205 #[v] w (Znk w):=by
 obtain⟨A,C,rfl,hlCC,hCC⟩:=h.shape;obtain⟨n,hnn⟩:=gnX ((l).length);have Hnn:=Y4 hnn;have Hh:=Y4 h;unfold maxLen at hCC;rw[hnn]at hlCC⊢;clear h hnn;rw[Hnn.o]at hll;have HhI:=Y4 (show Xx w S (.slice A n C) l by have:=Hh.o;rwa [Hnn.o]at this);go_enter func205,ntmps205;by_cases h0:n=0
 ·subst h0;go_wp2_with fail;go_ret2;exact⟨_,_,rfl,by show 0≤63;omega,fun h=>absurd h (by decide),Yl _⟩
 have d0:((n:Int)==0)=false:=by simp;omega
 have d0b:(n==0)=false:=by simp;omega
 have Hn0:=Y4 h0;clear h0;cases hb:Zok l
 ·have A1:=fun(w1:World) (hx:Ext w w1)=>Zqa _ l w1 (HhI.o.ext hx)
  go_wp2_with (go_at_call 212;refine(Bx _ l _ HhI.o).mono ?_;rintro e w1 ⟨rfl,hx1⟩;rw[hb]);refine(A1 _ hx1).mono ?_;rintro e w2 ⟨p,x,rfl,hp,hx2⟩;have Hx:=Y4 (hx1.trans hx2);clear hx1 hx2 A1;by_cases hx0:x=0
  ·subst hx0;have hus:¬ 9223372036854775807<4+p.size:=by omega
   by_cases h63:p.size≤59
   ·have d1:decide ((63:Int)<(((⟨#[120,110,45,45]⟩:ByteArray)++p).size:Int))=false:=Yg (by rw[Ym];show ¬ (63:Int)<((4+p.size:Nat):Int);omega);have d2:decide ((63:Int)<(4:Int)+(p.size:Int))=false:=Yg;go_wp2_with fail;go_ret2;exact⟨_,_,rfl,by rw[Ym];show 4+p.size≤63;omega,fun _=>by rw[Ym];show 1≤4+p.size;omega,Hx.o⟩
   have d2:decide ((63:Int)<(4:Int)+(p.size:Int))=true:=Yf;go_wp2_with fail;go_ret2;exact⟨_,_,rfl,by show 0≤63;omega,fun h=>absurd h (by decide),Hx.o⟩
  have d1:(!(x==0))=true:=by simp[hx0]
  have d2:(x !=0)=true:=d1;have Hx0:=Y4 hx0;clear hx0;go_wp2_with fail;go_ret2;exact⟨_,x,rfl,by show 0≤63;omega,fun h=>absurd h Hx0.o,Hx.o⟩
 go_wp2_with (go_at_call 212;refine(Bx _ l _ HhI.o).mono ?_;rintro e w1 ⟨rfl,hx1⟩;rw[hb]);have Hx1:=Y4 hx1;clear hx1;go_loopw [16,4] (fun o s wr=>∃ (i:Nat) (u:ByteArray),i≤n∧o=.int .i64 (i:Int)∧s=.string u∧u.size=i∧Ext w wr) (fun o _ _=>n-(intOf o).toNat);case atStart=>exact⟨0,⟨#[]⟩,by omega,rfl,rfl,rfl,Hx1.o⟩
 obtain⟨i,u,hi,rfl,rfl,hu,hx⟩:=hrel;have Hx:=Y4 hx;have Hu:=Y4 hu;have hus0:u.size≤100000:=by omega
 clear hx hu Hx1;by_cases hlt:i<n
 ·obtain⟨hd_i,i0_i,i1_i⟩:=LTl i n;obtain⟨x,hs_x⟩:=geX (l:=(l)) (i:=i) (by have:=Hnn.o;omega);obtain⟨g_x,o_x,c_x,hvv,_,_,_,hgl_x,a0_x⟩:=(HhI.o.ext Hx.o).get hs_x;simp only[Ye]at hvv;obtain⟨rfl,-,rfl⟩:=hvv;have Hs_x:=Y4 hs_x;clear hs_x;have hcv:=fun w:World=>Qg (w:=w) [x] 1 rfl _ rfl
  simp only[Zj0,Ziz]at hcv;obtain⟨bz,hbz⟩:=gnX (bs (u8L [x]));have hbs:bz.size=1:=by rw[← hbz];rfl
  rw[hbz]at hcv;have hus:¬ 9223372036854775807<u.size+bz.size:=by omega
  clear hbz;go_wp2_with fail;go_roundw;case rel=>exact⟨i+1,_,by omega,by go_num,rfl,by rw[Ym,Hu.o,hbs],Hx.o.alloc _⟩
  (simp[intOf];omega)
 have hd_i:=GEl i n;by_cases h63:u.size≤63
 ·have d1:decide ((63:Int)<(u.size:Int))=false:=Yg;have d2:decide (63<u.size)=false:=Yg;go_wp2_with fail;go_ret2;exact⟨_,_,rfl,h63,fun _=>by have:=Hu.o;have:=Hn0.o;omega,Hx.o⟩
 have d1:decide ((63:Int)<(u.size:Int))=true:=Yf;have d2:decide (63<u.size)=true:=Yf;go_wp2_with fail;go_ret2;exact⟨_,_,rfl,by show 0≤63;omega,fun h=>absurd h (by decide),Hx.o⟩
def Zn2(w:World)(e:Ending)(w':World):Prop:=∃ v:Int,e=.returned (.int .i64 v)∧-1≤v∧v≤35∧w=w'
theorem Zrd(b:Nat)(hb:b≤255)(w:World):Calls prog 263 #[.int .u8 (b:Int)] w (Zn2 w):=by
 have hr:(0≤b∧b≤47)∨(48≤b∧b≤57)∨(58≤b∧b≤64)∨(65≤b∧b≤90)∨(91≤b∧b≤96)∨(97≤b∧b≤122)∨(123≤b∧b≤255):=by omega
 rcases hr with⟨h0,h1⟩ | ⟨h0,h1⟩ | ⟨h0,h1⟩ | ⟨h0,h1⟩ | ⟨h0,h1⟩ | ⟨h0,h1⟩ | ⟨h0,h1⟩
 ·have e0:decide ((97:Int)≤(b:Int))=false:=Yg;have e1:decide ((b:Int)≤122)=true:=Yf;have e2:decide ((65:Int)≤(b:Int))=false:=Yg;have e3:decide ((b:Int)≤90)=true:=Yf;have e4:decide ((48:Int)≤(b:Int))=false:=Yg;have e5:decide ((b:Int)≤57)=true:=Yf;go_enter func263,ntmps263;go_wp2_with fail;go_ret;exact⟨_,rfl,by omega,by omega,rfl⟩
 ·have e0:decide ((97:Int)≤(b:Int))=false:=Yg;have e1:decide ((b:Int)≤122)=true:=Yf;have e2:decide ((65:Int)≤(b:Int))=false:=Yg;have e3:decide ((b:Int)≤90)=true:=Yf;have e4:decide ((48:Int)≤(b:Int))=true:=Yf;have e5:decide ((b:Int)≤57)=true:=Yf;obtain⟨c,hc⟩:=gnX (b-48);have r1:IntKind.u8.wrap ((b:Int)-48)=(c:Int):=by rw[Zi9 _ (by omega)];omega
  have r2:IntKind.i64.wrap (c:Int)=(c:Int):=Yp _ (by omega);have r3:IntKind.i64.wrap ((c:Int)+26)=(c:Int)+26:=Yp _ (by omega);have hc2:c≤25:=by omega
  have hc3:c≤9:=by omega
  clear hc;go_enter func263,ntmps263;go_wp2_with fail;go_ret;exact⟨_,rfl,by omega,by omega,rfl⟩
 ·have e0:decide ((97:Int)≤(b:Int))=false:=Yg;have e1:decide ((b:Int)≤122)=true:=Yf;have e2:decide ((65:Int)≤(b:Int))=false:=Yg;have e3:decide ((b:Int)≤90)=true:=Yf;have e4:decide ((48:Int)≤(b:Int))=true:=Yf;have e5:decide ((b:Int)≤57)=false:=Yg;go_enter func263,ntmps263;go_wp2_with fail;go_ret;exact⟨_,rfl,by omega,by omega,rfl⟩
 ·have e0:decide ((97:Int)≤(b:Int))=false:=Yg;have e1:decide ((b:Int)≤122)=true:=Yf;have e2:decide ((65:Int)≤(b:Int))=true:=Yf;have e3:decide ((b:Int)≤90)=true:=Yf;have e4:decide ((48:Int)≤(b:Int))=true:=Yf;have e5:decide ((b:Int)≤57)=false:=Yg;obtain⟨c,hc⟩:=gnX (b-65);have r1:IntKind.u8.wrap ((b:Int)-65)=(c:Int):=by rw[Zi9 _ (by omega)];omega
  have r2:IntKind.i64.wrap (c:Int)=(c:Int):=Yp _ (by omega);have hc2:c≤25:=by omega
  clear hc;go_enter func263,ntmps263;go_wp2_with fail;go_ret;exact⟨_,rfl,by omega,by omega,rfl⟩
 ·have e0:decide ((97:Int)≤(b:Int))=false:=Yg;have e1:decide ((b:Int)≤122)=true:=Yf;have e2:decide ((65:Int)≤(b:Int))=true:=Yf;have e3:decide ((b:Int)≤90)=false:=Yg;have e4:decide ((48:Int)≤(b:Int))=true:=Yf;have e5:decide ((b:Int)≤57)=false:=Yg;go_enter func263,ntmps263;go_wp2_with fail;go_ret;exact⟨_,rfl,by omega,by omega,rfl⟩
 ·have e0:decide ((97:Int)≤(b:Int))=true:=Yf;have e1:decide ((b:Int)≤122)=true:=Yf;have e2:decide ((65:Int)≤(b:Int))=true:=Yf;have e3:decide ((b:Int)≤90)=false:=Yg;have e4:decide ((48:Int)≤(b:Int))=true:=Yf;have e5:decide ((b:Int)≤57)=false:=Yg;obtain⟨c,hc⟩:=gnX (b-97);have r1:IntKind.u8.wrap ((b:Int)-97)=(c:Int):=by rw[Zi9 _ (by omega)];omega
  have r2:IntKind.i64.wrap (c:Int)=(c:Int):=Yp _ (by omega);have hc2:c≤25:=by omega
  clear hc;go_enter func263,ntmps263;go_wp2_with fail;go_ret;exact⟨_,rfl,by omega,by omega,rfl⟩
 have e0:decide ((97:Int)≤(b:Int))=true:=Yf;have e1:decide ((b:Int)≤122)=false:=Yg;have e2:decide ((65:Int)≤(b:Int))=true:=Yf;have e3:decide ((b:Int)≤90)=false:=Yg;have e4:decide ((48:Int)≤(b:Int))=true:=Yf;have e5:decide ((b:Int)≤57)=false:=Yg;go_enter func263,ntmps263;go_wp2_with fail;go_ret;exact⟨_,rfl,by omega,by omega,rfl⟩
def Zqn(n a:Nat)(w:World)(e:Ending)(w':World):Prop:=∃ (v x:Int) (b:Bool),e=.returned (.tuple #[.int .i64 v,.int .i64 x,.bool b])∧(b=true→∃ (m p:Nat),v=(m:Int)∧x=(p:Int)∧m≤2147483648∧a<p∧p≤n)∧Ext w w'
theorem Zs0(s:ByteArray)(n a:Nat)(hs:s.size=n)(hn:n≤100000)(ha:a≤n)(b:Int)(w:World):Calls prog 250 #[.string s,.int .i64 (a:Int),.int .i64 b] w (Zqn n a w):=by
 have Hn:=Y4 hs;go_enter func250,ntmps250;go_wp2_with fail;go_loopw [1,9,10,11] (fun o m q j wr=>∃ (p:Nat) (x y z:Int),o=.int .i64 (p:Int)∧m=.int .i64 x∧q=.int .i64 y∧j=.int .i64 z∧a≤p∧p≤n∧0≤x∧x≤2147483648∧0≤y∧y≤2147483648∧Ext w wr) (fun o _ _ _ _=>n-(intOf o).toNat);case atStart=>exact⟨a,0,1,0,rfl,rfl,rfl,rfl,Yn _,ha,by omega,by omega,by omega,by omega,Yl _⟩
 obtain⟨p,x,y,z,rfl,rfl,rfl,rfl,hp1,hp2,hx1,hx2,hy1,hy2,hx⟩:=hrel;have Hx:=Y4 hx;clear hx;by_cases hlt:p<n
 ·have d0:decide ((n:Int)≤(p:Int))=false:=Yg;have hlt':p<s.size:=by rw[Hn.o];exact hlt
  have p0:(0:Int)≤(p:Int):=by omega
  obtain⟨c,hc⟩:∃ b:Nat,(s[p]'hlt').toNat=b:=⟨_,rfl⟩;have hc2:c≤255:=by rw[← hc];have:=(s[p]'hlt').toNat_lt;omega
  go_wp2_with fail;refine(Zrd c hc2 _).mono ?_;rintro e w1 ⟨d,rfl,hd1,hd2,rfl⟩;by_cases hdn:d<0
  ·have d1:decide (d<0)=true:=Yf hdn;go_wp2_with fail;go_ret3;exact⟨_,_,false,rfl,fun h=>absurd h (by decide),Hx.o⟩
  have d1:decide (d<0)=false:=Yg hdn;have m1:=Int.mul_nonneg (show 0≤d by omega) hy1;have m2:d*y≤35*2147483648:=Zfp hd2 hy2 hy1 (by omega);obtain⟨D,hD⟩:=gnX (d*y);rw[hD]at m1 m2;have r1:IntKind.i64.wrap (d*y)=D:=by rw[hD];exact Yp _ (by omega)
  have r2:IntKind.i64.wrap (x+D)=x+D:=Yp _ (by omega);have r3:IntKind.i64.wrap ((p:Int)+1)=((p+1:Nat):Int):=by rw[Yp _ (by omega)];omega
  clear hD;go_wp2_with fail;all_goals
   refine(Zrl z b _).mono ?_;rintro e w1 ⟨t,rfl,ht1,ht2,rfl⟩;have r4:IntKind.i64.wrap (36-(t:Int))=((36-t:Nat):Int):=by rw[Yp _ (by omega)];omega
   have m3:=Int.mul_nonneg hy1 (show(0:Int)≤((36-t:Nat):Int) by omega);have m4:y*((36-t:Nat):Int)≤2147483648*35:=Zfp hy2 (by omega) (by omega) (by omega);obtain⟨U,hU⟩:=gnX (((36-t:Nat):Int));rw[hU]at r4 m3 m4;clear hU;obtain⟨D2,hD2⟩:=gnX (y*U);rw[hD2]at m3 m4;have r5:IntKind.i64.wrap (y*U)=D2:=by rw[hD2];exact Yp _ (by omega)
   clear hD2;by_cases hdt:d<(t:Int)
   ·have d2:decide (d<(t:Int))=true:=Yf hdt;go_wp2_with fail;go_ret3;refine⟨_,_,true,rfl,fun _=>⟨Int.toNat _,p+1,(Zhw ?_).symm,by go_num,?_,by omega,by omega⟩,Hx.o⟩;all_goals omega
   have d2:decide (d<(t:Int))=false:=Yg hdt;go_wp2_with fail;all_goals
    go_roundw;case rel=>exact⟨p+1,_,_,_,by go_num,rfl,rfl,rfl,by omega,by omega,by omega,by omega,by omega,by omega,Hx.o⟩
    (simp[intOf];omega)
 have d0:decide ((n:Int)≤(p:Int))=true:=Yf;go_wp2_with fail;go_ret3;exact⟨_,_,false,rfl,fun h=>absurd h (by decide),Hx.o⟩
def Bd(N:Nat)(w:World)(e:Ending)(w':World):Prop:=∃ (v:Value) (l:List Int) (x:Int),e=.returned (.tuple #[v,.int .i64 x])∧RdE Wb w' (fun k=>w.heap.size≤k) v l∧l.length≤N∧Ext w w'
theorem Wv{N:Nat}{w w':World}(x:Int)(h:Ext w w'):Bd N w (.returned (.tuple #[.slice none 0 0,.int .i64 x])) w':=⟨_,[],x,rfl,Xx.nil _ _,Zjn _,h⟩
theorem Zm8(w:World)(A:Option Addr)(c:Nat)(hc:c≤maxLen):RdE Wb w (fun _=>True) (.slice A 0 c) []:=⟨rfl,A,c,rfl,Zjn _,hc,fun h=>absurd h (by simp)⟩
theorem Zqc(s:ByteArray)(n:Nat)(hs:s.size=n)(w:World):Calls prog 229 #[.string s] w (Bd 2048 w):=by
 have Hn:=Y4 hs;obtain⟨B,hB⟩:=gnX (w.heap.size);have HB:=Y4 hB;clear hB;go_enter func229,ntmps229;by_cases hbig:n≤2048
 ·have d0:decide ((2048:Int)<(n:Int))=false:=Yg;go_wp2_with fail;go_loopw [5,4] (fun o b wr=>∃ k q:Nat,1≤k∧k≤n+1∧o=.int .i64 (k:Int)∧b=.int .i64 (q:Int)∧(q=0∨q<n)∧Ext w wr) (fun o _ _=>n-(intOf o).toNat);case atStart=>exact⟨1,0,Yn _,by omega,rfl,rfl,.inl rfl,Yl _⟩
  obtain⟨k,q,hk1,hk2,rfl,rfl,hq,hx⟩:=hrel;have Hx:=Y4 hx;clear hx;by_cases hlt:k<n
  ·have hd:=LTd k n;have hlt':k<s.size:=by rw[Hn.o];exact hlt
   have k0:(0:Int)≤(k:Int):=by omega
   obtain⟨c,hc⟩:∃ b:Nat,(s[k]'hlt').toNat=b:=⟨_,rfl⟩;go_wp2_with fail;all_goals
    go_roundw;case rel=>first|exact⟨k+1,q,by omega,by omega,by go_num,rfl,hq,Hx.o⟩|exact⟨k+1,k,by omega,by omega,by go_num,rfl,.inr hlt,Hx.o⟩
    (simp[intOf];omega)
  have hd:=GEl k n;go_wp2_with fail;clear hk1 hk2 hlt;have hqn:q≤n:=by omega
  have hq8:q≤2048:=by omega
  have Hq:=Y4 hq;clear hq hd;go_loopw [7,6] (fun o v wr=>∃ (k:Nat) (l:List Int),k≤q∧o=.int .i64 (k:Int)∧Own Wb wr B v l∧l.length=k∧Ext w wr) (fun o _ _=>q-(intOf o).toNat);case atStart=>exact⟨0,[],by omega,rfl,Own.nil _ _ _,rfl,Hx.o⟩
  clear Hx;obtain⟨k,l,hk,rfl,ho,hl,hx⟩:=hrel;obtain⟨A,C,rfl,hlC,hC⟩:=ho.shape;rw[hl]at hlC⊢;have Hx:=Y4 hx;have Ho:=Y4 ho;have Hl:=Y4 hl;have hBw:B≤wr.heap.size:=by rw[← HB.o];exact hx.size
  unfold maxLen at hC;clear hx ho hl;by_cases hlt:k<q
  ·have hd:=LTd k q;have hlt':k<s.size:=by rw[Hn.o];omega
   have k0:(0:Int)≤(k:Int):=by omega
   have k1:(k:Int)<(n:Int):=by omega
   obtain⟨c,hc⟩:∃ b:Nat,(s[k]'hlt').toNat=b:=⟨_,rfl⟩;by_cases hc7:127<c
   ·have d1:decide ((127:Int)<(c:Int))=true:=Yf;go_wp2_with fail;go_ret2;exact Wv _ Hx.o
   have d1:decide ((127:Int)<(c:Int))=false:=Yg;have r0:IntKind.i64.wrap (c:Int)=(c:Int):=Yp _ (by omega);go_wp2_with (at_builtin;refine Xt Wb _ _ _ rfl rfl rfl rfl (by rw[← Hl.o];exact Ho.o.ext ((Yl _).alloc _)) rfl (Wr wr (c:Int) _ _ rfl) (by rw[Hl.o];simp;omega) (by show 8≤1000;omega) (by simp;omega) ?_;intro A3 n3 c3 w3 hg);have Hg:=Y4 hg;clear hg;go_wp2_with fail;go_roundw;case rel=>exact⟨k+1,_,by omega,by go_num,Hg.o.own,by rw[Zs,Hl.o];rfl,Hg.o.ext w (Hx.o.alloc _) (by rw[HB.o];exact Yn _)⟩
   (simp[intOf];omega)
  have hd:=GEl k q;obtain rfl:k=q:=by omega
  have hkn:k<n∨k=0:=by have:=Hq.o;omega
  have Hkn:=Y4 hkn;clear hkn;go_upto_if 50 with fail;go_cut [8] (fun o wx=>wx=wr∧∃ a0:Nat,a0≤n∧k≤a0∧o=.int .i64 (a0:Int));case first =>
   by_cases hz:0<k
   ·have z1:decide ((0:Int)<(k:Int))=true:=Yf;go_wp2_with fail;go_meet;exact⟨by trivial,k+1,by rcases Hkn.o with h|h<;>omega,by omega,by go_num⟩
   have z1:decide ((0:Int)<(k:Int))=false:=Yg;go_wp2_with fail;go_meet;exact⟨by trivial,k,by rcases Hkn.o with h|h<;>omega,Yn _,rfl⟩
  obtain⟨rfl,a0,ha1,ha2,rfl⟩:=hcut;go_wp2_with fail;clear hk hlt hd hlC hC;go_loopw [8,9,10,11,12,6] (fun o m i y f v wr=>∃ (a:Nat) (x:Int) (p:Nat) (z:Int) (b:Bool) (l:List Int),a≤n∧o=.int .i64 (a:Int)∧128≤x∧x≤1114111∧m=.int .i64 x∧p≤l.length∧i=.int .i64 (p:Int)∧y=.int .i64 z∧f=.bool b∧Own Wb wr B v l∧l.length≤a∧Ext w wr) (fun o _ _ _ _ _ _=>n-(intOf o).toNat);case atStart=>exact⟨a0,128,0,72,true,l,ha1,by first|rfl|go_num,by omega,by omega,rfl,Zjn _,rfl,rfl,rfl,by have:=Ho.o;rwa [Hl.o]at this,by rw[Hl.o];exact ha2,Hx.o⟩
  clear Hx Ho Hl Hkn;obtain⟨a,x,p,z,b,l,ha,rfl,hx1,hx2,rfl,hp,rfl,rfl,rfl,ho,hla,hx⟩:=hrel;obtain⟨A,C,rfl,hlC,hC⟩:=ho.shape;obtain⟨m,hm⟩:=gnX (l.length);rw[hm]at hlC hp hla⊢;have Hm:=Y4 hm;have Hx:=Y4 hx;have Ho:=Y4 ho;have hBw:B≤wr.heap.size:=by rw[← HB.o];exact hx.size
  have HBw:=Y4 hBw;unfold maxLen at hC;clear hx ho hm hBw;by_cases hlt:a<n
  ·have hd:=LTd a n;go_wp2_with fail;refine(Zs0 s n a Hn.o (by omega) (by omega) z _).mono ?_;rintro e w1 ⟨v,y,ok,rfl,hok,hx1⟩;have Hx1:=Y4 hx1;clear hx1;obtain⟨H,hH⟩:=gnX (m+1);have r1:IntKind.i64.wrap ((m:Int)+1)=(H:Int):=by rw[Yp _ (by omega)];omega
   cases ok with
   | false =>
    go_wp2_with fail;go_ret2;exact Wv _ (Hx.o.trans Hx1.o)
   | true =>
    obtain⟨V,p2,rfl,rfl,hV,hp2,hp3⟩:=hok rfl;clear hok;by_cases hov:2147483647<V
    ·have d1:decide ((2147483647:Int)<(V:Int))=true:=Yf;go_wp2_with fail;go_ret2;exact Wv _ (Hx.o.trans Hx1.o)
    have d1:decide ((2147483647:Int)<(V:Int))=false:=Yg;obtain⟨M,hM⟩:=gnX (V+p);have r2:IntKind.i64.wrap ((V:Int)+(p:Int))=(M:Int):=by rw[Yp _ (by omega)];omega
    have hH0:(H==0)=false:=by simp;omega
    have hH1:((H:Int)==0)=false:=by simp;omega
    have hH2:H≠0:=by omega
    have r3:(M:Int).tdiv (H:Int)=((M/H:Nat):Int):=rfl;have r6:(M:Int).tmod (H:Int)=((M%H:Nat):Int):=rfl;have hq:=Zgj M H;have hr:=Nat.mod_lt M (show 0<H by omega);obtain⟨q,hqe⟩:=gnX (M/H);obtain⟨r,hre⟩:=gnX (M%H);rw[hqe]at r3 hq;rw[hre]at r6 hr;clear hqe hre;have r4:IntKind.i64.wrap (q:Int)=(q:Int):=Yp _ (by omega);obtain⟨y2,hy2⟩:=gnX (x+(q:Int));have r5:IntKind.i64.wrap (x+(q:Int))=y2:=by rw[Yp _ (by omega)];exact hy2
    have hyb:128≤y2:=by omega
    by_cases hbig2:1114111<y2
    ·have d2:decide ((1114111:Int)<y2)=true:=Yf hbig2;clear hy2;go_wp2_with fail;go_ret2;exact Wv _ (Hx.o.trans Hx1.o)
    have d2:decide ((1114111:Int)<y2)=false:=Yg hbig2;have HH:=Y4 hH;clear hy2 hM hH;go_wp2_with fail;refine Y8 (by kernel_rfl) (by kernel_rfl) ?_;repeat((with_reducible refine Yu ?_);intro K hK;go_simp;(with_reducible refine hK _ ?_);clear hK K)
    (with_reducible refine Yt ?_)
    intro w2 hy;have Hx2:=Y4 (Hx1.o.trans hy);clear hy;cases hs:Zxw y2
    ·go_wp2_with (go_at_call 143;refine(J2 _ _).mono ?_;rintro e w' ⟨rfl,rfl⟩;rw[hs]);go_ret2;exact Wv _ (Hx.o.trans Hx2.o)
    go_wp2_with (go_at_call 143;refine(J2 _ _).mono ?_;rintro e w' ⟨rfl,rfl⟩;rw[hs]);refine(Su V H (by omega) (by have:=HH.o;omega) (by have:=HH.o;omega) b _).mono ?_;rintro e w3 ⟨z3,rfl,hx3⟩;have Hx3:=Y4 (Hx2.o.trans hx3);have Ho3:=Y4 (Ho.o.ext Hx3.o);have hB3:=Zjw HBw.o Hx3.o.size;have HB3:=Y4 hB3;have hrm:r≤m:=by have:=HH.o;omega
    have s0:(0:Int)≤(r:Int):=by omega
    have s1:(r:Int)≤(m:Int):=by omega
    have s2:(r:Int)≤(C:Int):=by omega
    have s3:r≤C:=by omega
    have s4:r≤m:=by omega
    clear hx3 hB3 hr hrm;have hA:(A=none∧m=0∧C=0)∨∃ g,A=some ⟨g,0,none⟩:=by
     rcases Ho.o.2 with⟨h1,h2⟩ | ⟨g,c,_,h1,_⟩
     ·simp only[Ye]at h1;exact .inl ⟨h1.1,by rw[← Hm.o];exact h2,h1.2.2⟩
     simp only[Ye]at h1;exact .inr ⟨g,h1.1⟩
    have Ht:=Y4 (show RdE Wb w3 (fun k=>B≤k) (.slice A r C) (l.take r) from RdE.take (by have:=Ho3.o.rd;exact this) rfl (by rw[Hm.o];exact s4));have Htl:=Y4 (show(l.take r).length=r by rw[Zp,Hm.o];omega);rcases hA with⟨rfl,rfl,rfl⟩ | ⟨g,rfl⟩
    ·obtain rfl:r=0:=by omega
     have hl0:l=[]:=Zjk Hm.o;subst hl0;go_wp2_with (first|(at_builtin;refine Xt Wb _ _ _ rfl rfl rfl rfl (Own.nil Wb _ B) rfl (Wr w3 y2 _ _ rfl) (by show 0+1≤_;omega) (by show 8≤1000;omega) (by have:=HB3.o;simp;omega) ?_;intro A5 n5 c5 w5 hg5;have Hg5:=Y4 hg5;have hx5:=hg5.ext w ((Hx.o.trans Hx3.o).alloc _) (by rw[HB.o];exact Yn _);have Hx5:=Y4 hx5;have HB5:=Y4 (show B≤w5.heap.size by rw[← HB.o];exact hx5.size);have Hl5:=Y4 (show n5=1 by rw[hg5.len];rfl);clear hg5 hx5)|(at_builtin;refine Xt Wb _ _ _ rfl rfl rfl rfl Hg5.o.own rfl (show RdE Wb _ (fun _=>True) (.slice none 0 0) [] from Xx.nil _ _) (by show 1+0≤_;omega) (by show 8≤1000;omega) HB5.o ?_;intro A6 n6 c6 w6 hg6;have Hg6:=Y4 hg6;have Hx6:=Y4 (hg6.ext w Hx5.o (by rw[HB.o];exact Yn _));have Hl6:=Y4 (show n6=1 by rw[hg6.len];rfl);clear hg6));go_roundw;case rel=>exact⟨p2,y2,1,z3,false,_,hp3,rfl,hyb,by omega,rfl,by rw[← Hg6.o.len,Hl6.o];omega,by first|rfl|go_num,rfl,rfl,Hg6.o.own,by rw[← Hg6.o.len,Hl6.o];omega,Hx6.o⟩
     (simp[intOf];omega)
    by_cases hCr:C=r
    ·have hmC:m=C:=by omega
     have hmr:m=r:=by omega
     clear hCr;subst hmC hmr;have Hr3:=Y4 (show RdE Wb w3 (fun k=>k<w3.heap.size) _ l from Rd.mono Ho3.o.rd fun _ _ h=>h);go_wp2_with (first|(at_builtin;refine Xt Wb _ _ _ rfl rfl rfl rfl (Own.nil Wb _ B) rfl Ht.o (by have:=Htl.o;simp only[Zk];omega) (by show 8≤1000;omega) HB3.o ?_;intro A4 n4 c4 w4 hg4;have Hg4:=Y4 hg4;have hx4:=hg4.ext w (Hx.o.trans Hx3.o) (by rw[HB.o];exact Yn _);have Hx4:=Y4 hx4;have HB4:=Y4 (show B≤w4.heap.size by rw[← HB.o];exact hx4.size);have Hl4:=Y4 (show n4=m by rw[hg4.len,Zo];exact Htl.o);have Hr4:=Y4 (Rd.chg Hr3.o hg4.chg (fun k _ h=>by cases h));have Ha4:=Y4 (show ∀ k,k<w3.heap.size→¬ (Value.slice A4 n4 c4).ownBlock=some k by intro k hk he;rcases hg4.at_ with h|h<;>rw[he]at h;cases h;(simp at h;omega));have hc4:=hg4.cap;clear hg4 hx4)|(at_builtin;refine Xt Wb _ _ _ rfl rfl rfl rfl (Hg4.o.own.ext ((Yl _).alloc _)) rfl (Wr w4 y2 _ _ rfl) (by rw[← Hg4.o.len,Hl4.o];show _+1≤_;omega) (by show 8≤1000;omega) (by have:=HB4.o;simp;omega) ?_;intro A5 n5 c5 w5 hg5;have Hg5:=Y4 hg5;have hx5:=hg5.ext w (Hx4.o.alloc _) (by rw[HB.o];exact Yn _);have Hx5:=Y4 hx5;have HB5:=Y4 (show B≤w5.heap.size by rw[← HB.o];exact hx5.size);have Hl5:=Y4 (show n5=m+1 by rw[hg5.len,Zs,← Hg4.o.len,Hl4.o];rfl);have Hr5:=Y4 (Rd.chg (Rd.ext Hr4.o ((Yl _).alloc _)) hg5.chg (fun k hk h=>Ha4.o k hk h));clear hg5 hx5)|(at_builtin;refine Xt Wb _ _ _ rfl rfl rfl rfl Hg5.o.own rfl (Zm8 _ _ _ (by unfold maxLen;omega)) (by rw[← Hg5.o.len,Hl5.o];show _+0≤_;omega) (by show 8≤1000;omega) HB5.o ?_;intro A6 n6 c6 w6 hg6;have Hg6:=Y4 hg6;have Hx6:=Y4 (hg6.ext w Hx5.o (by rw[HB.o];exact Yn _));have Hl6:=Y4 (show n6=m+1 by rw[hg6.len,Zs,← Hg5.o.len,Hl5.o];rfl);clear hg6));go_roundw;case rel=>exact⟨p2,y2,m+1,z3,false,_,hp3,rfl,hyb,by omega,rfl,by rw[← Hg6.o.len,Hl6.o];omega,by rw[HH.o],rfl,rfl,Hg6.o.own,by rw[← Hg6.o.len,Hl6.o];omega,Hx6.o⟩
     (simp[intOf];omega)
    have c1:¬ r=C:=fun h=>hCr h.symm
    have Hr3:=Y4 (show RdE Wb w3 (fun k=>k<w3.heap.size) _ l from Rd.mono Ho3.o.rd fun _ _ h=>h);go_wp2_with (first|(at_builtin;refine Xt Wb _ _ _ rfl rfl rfl rfl (Own.nil Wb _ B) rfl Ht.o (by have:=Htl.o;simp only[Zk];omega) (by show 8≤1000;omega) HB3.o ?_;intro A4 n4 c4 w4 hg4;have Hg4:=Y4 hg4;have hx4:=hg4.ext w (Hx.o.trans Hx3.o) (by rw[HB.o];exact Yn _);have Hx4:=Y4 hx4;have HB4:=Y4 (show B≤w4.heap.size by rw[← HB.o];exact hx4.size);have Hl4:=Y4 (show n4=r by rw[hg4.len,Zo];exact Htl.o);have Hr4:=Y4 (Rd.chg Hr3.o hg4.chg (fun k _ h=>by cases h));have Ha4:=Y4 (show ∀ k,k<w3.heap.size→¬ (Value.slice A4 n4 c4).ownBlock=some k by intro k hk he;rcases hg4.at_ with h|h<;>rw[he]at h;cases h;(simp at h;omega));have hc4:=hg4.cap;clear hg4 hx4)|(at_builtin;refine Xt Wb _ _ _ rfl rfl rfl rfl (Hg4.o.own.ext ((Yl _).alloc _)) rfl (Wr w4 y2 _ _ rfl) (by rw[← Hg4.o.len,Hl4.o];show _+1≤_;omega) (by show 8≤1000;omega) (by have:=HB4.o;simp;omega) ?_;intro A5 n5 c5 w5 hg5;have Hg5:=Y4 hg5;have hx5:=hg5.ext w (Hx4.o.alloc _) (by rw[HB.o];exact Yn _);have Hx5:=Y4 hx5;have HB5:=Y4 (show B≤w5.heap.size by rw[← HB.o];exact hx5.size);have Hl5:=Y4 (show n5=r+1 by rw[hg5.len,Zs,← Hg4.o.len,Hl4.o];rfl);have Hr5:=Y4 (Rd.chg (Rd.ext Hr4.o ((Yl _).alloc _)) hg5.chg (fun k hk h=>Ha4.o k hk h));clear hg5 hx5)|(at_builtin;refine Xt Wb _ _ _ rfl rfl rfl rfl Hg5.o.own rfl (RdE.drop (show RdE Wb w5 (fun k=>k<w3.heap.size) (.slice (some ⟨g,0,none⟩) l.length C) l from Hr5.o) rfl (by rw[Hm.o];exact s4) (by rw[Hm.o]) (by first|(intro _;simp;done)|(intro h;exfalso;omega)) (by omega) (by unfold maxLen;omega)) (by rw[← Hg5.o.len,Hl5.o,Yz,Hm.o];omega) (by show 8≤1000;omega) HB5.o ?_;intro A6 n6 c6 w6 hg6;have Hg6:=Y4 hg6;have Hx6:=Y4 (hg6.ext w Hx5.o (by rw[HB.o];exact Yn _));have Hl6:=Y4 (show n6=m+1 by rw[hg6.len,Zs,← Hg5.o.len,Hl5.o,Yz,Hm.o];omega);clear hg6));go_roundw;case rel=>exact⟨p2,y2,r+1,z3,false,_,hp3,rfl,hyb,by omega,rfl,by rw[← Hg6.o.len,Hl6.o];omega,by go_num,rfl,rfl,Hg6.o.own,by rw[← Hg6.o.len,Hl6.o];omega,Hx6.o⟩
    (simp[intOf];omega)
  have hd:=GEl a n;go_wp2_with fail;go_ret2;refine⟨_,l,0,rfl,?_,by rw[Hm.o];omega,Hx.o⟩;rw[← Hm.o,HB.o];exact Ho.o.rd
 have d0:decide ((2048:Int)<(n:Int))=true:=Yf;go_wp2_with fail;go_ret2;exact Wv _ (Yl _)
