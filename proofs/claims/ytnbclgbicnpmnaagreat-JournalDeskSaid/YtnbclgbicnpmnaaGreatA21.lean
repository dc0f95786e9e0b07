/- Lemmas of this claim: Rs, Rc, RX, RX2, RX3, Rd2. Conditions: as named. -/
import Derived.Test.YtnbclgbicnpmnaaGreatA20
namespace Go.Proofs.YtnbclgbicnpmnaaGreat
open Go.RowKit Go.Sort Tryz
set_option maxHeartbeats 0
set_option maxRecDepth 100000
set_option linter.all false
def Zxo(T:Tbl)(c:Int):Int:=if(97≤c∧c≤122)∨(65≤c∧c≤90)then 3 else if 0≤c∧c≤127 then 1 else if Ee c=true∨Zzh c=true then 9 else Wk T.scr c
theorem Up{S:Nat→Prop}(T:Tbl)(c:Int)(w:World)(h:Xg w S T):Calls prog 239 #[Vg T,.int .i64 c] w fun e w'=>e=.returned (.int .i64 (Zxo T c))∧Ext w w':=by
 obtain⟨X0,H,Hb0⟩:=tblX h;clear h;have hr:c≤-1∨(0≤c∧c≤64)∨(65≤c∧c≤90)∨(91≤c∧c≤96)∨(97≤c∧c≤122)∨(123≤c∧c≤127)∨128≤c:=by omega
 have hb:=(Hb0.o).at_ 4 (by omega);rw[show(Qk T)[4]?=some T.scrV from rfl]at hb;rcases hr with hr|hr|hr|hr|hr|hr|hr
 ·have e0:decide ((97:Int)≤c)=false:=Yf;have e1:decide (c≤122)=true:=Ye;have e2:decide ((65:Int)≤c)=false:=Yf;have e3:decide (c≤90)=true:=Ye;have e4:decide ((0:Int)≤c)=false:=Yf;have e5:decide (c≤127)=true:=Ye;have Hr:=Y8 hr;have Hs:=Y8 (show Zxo T c=if Ee c=true∨Zzh c=true then 9 else Wk T.scr c by unfold Zxo;rw[Zgq (by omega),Zgq (by omega)]);cases hs:Ee c<;>cases hj:Zzh c
  all_goals
   have Hs2:=Y8 (show(if Ee c=true∨Zzh c=true then(9:Int)else Wk T.scr c)=_ by rw[hs,hj]);clear hr;go_enter func239,ntmps239;go_wp2_with (first|(refine Xv rfl ?_)|(go_at_call 125;refine(Qw _ T.scr _ _ (H.o.scr.ext (xE))).mono ?_;rintro e w1 ⟨rfl,hx1⟩)|(go_at_call 113;refine(Ja _ _).mono ?_;rintro e w' ⟨rfl,rfl⟩;rw[hs])|(go_at_call 145;refine(Fr _ _).mono ?_;rintro e w' ⟨rfl,rfl⟩;rw[hj]));go_ret;exact⟨by rw[Hs.o,Hs2.o];rfl,X0.o.trans xE⟩
 ·have e0:decide ((97:Int)≤c)=false:=Yf;have e1:decide (c≤122)=true:=Ye;have e2:decide ((65:Int)≤c)=false:=Yf;have e3:decide (c≤90)=true:=Ye;have e4:decide ((0:Int)≤c)=true:=Ye;have e5:decide (c≤127)=true:=Ye;have Hr:=Y8 hr;have Hs:=Y8 (show Zxo T c=1 by unfold Zxo;rw[Zgq (by omega),Zgn (by omega)]);clear hr;go_enter func239,ntmps239;go_wp2_with (refine Xv rfl ?_);go_ret;exact⟨by rw[Hs.o];rfl,X0.o⟩
 ·have e0:decide ((97:Int)≤c)=false:=Yf;have e1:decide (c≤122)=true:=Ye;have e2:decide ((65:Int)≤c)=true:=Ye;have e3:decide (c≤90)=true:=Ye;have e4:decide ((0:Int)≤c)=true:=Ye;have e5:decide (c≤127)=true:=Ye;have Hr:=Y8 hr;have Hs:=Y8 (show Zxo T c=3 by unfold Zxo;rw[Zgn (by omega)]);clear hr;go_enter func239,ntmps239;go_wp2_with (refine Xv rfl ?_);go_ret;exact⟨by rw[Hs.o];rfl,X0.o⟩
 ·have e0:decide ((97:Int)≤c)=false:=Yf;have e1:decide (c≤122)=true:=Ye;have e2:decide ((65:Int)≤c)=true:=Ye;have e3:decide (c≤90)=false:=Yf;have e4:decide ((0:Int)≤c)=true:=Ye;have e5:decide (c≤127)=true:=Ye;have Hr:=Y8 hr;have Hs:=Y8 (show Zxo T c=1 by unfold Zxo;rw[Zgq (by omega),Zgn (by omega)]);clear hr;go_enter func239,ntmps239;go_wp2_with (refine Xv rfl ?_);go_ret;exact⟨by rw[Hs.o];rfl,X0.o⟩
 ·have e0:decide ((97:Int)≤c)=true:=Ye;have e1:decide (c≤122)=true:=Ye;have e2:decide ((65:Int)≤c)=true:=Ye;have e3:decide (c≤90)=false:=Yf;have e4:decide ((0:Int)≤c)=true:=Ye;have e5:decide (c≤127)=true:=Ye;have Hr:=Y8 hr;have Hs:=Y8 (show Zxo T c=3 by unfold Zxo;rw[Zgn (by omega)]);clear hr;go_enter func239,ntmps239;go_wp2_with (refine Xv rfl ?_);go_ret;exact⟨by rw[Hs.o];rfl,X0.o⟩
 ·have e0:decide ((97:Int)≤c)=true:=Ye;have e1:decide (c≤122)=false:=Yf;have e2:decide ((65:Int)≤c)=true:=Ye;have e3:decide (c≤90)=false:=Yf;have e4:decide ((0:Int)≤c)=true:=Ye;have e5:decide (c≤127)=true:=Ye;have Hr:=Y8 hr;have Hs:=Y8 (show Zxo T c=1 by unfold Zxo;rw[Zgq (by omega),Zgn (by omega)]);clear hr;go_enter func239,ntmps239;go_wp2_with (refine Xv rfl ?_);go_ret;exact⟨by rw[Hs.o];rfl,X0.o⟩
 have e0:decide ((97:Int)≤c)=true:=Ye;have e1:decide (c≤122)=false:=Yf;have e2:decide ((65:Int)≤c)=true:=Ye;have e3:decide (c≤90)=false:=Yf;have e4:decide ((0:Int)≤c)=true:=Ye;have e5:decide (c≤127)=false:=Yf;have Hr:=Y8 hr;have Hs:=Y8 (show Zxo T c=if Ee c=true∨Zzh c=true then 9 else Wk T.scr c by unfold Zxo;rw[Zgq (by omega),Zgq (by omega)]);cases hs:Ee c<;>cases hj:Zzh c
 all_goals
  have Hs2:=Y8 (show(if Ee c=true∨Zzh c=true then(9:Int)else Wk T.scr c)=_ by rw[hs,hj]);clear hr;go_enter func239,ntmps239;go_wp2_with (first|(refine Xv rfl ?_)|(go_at_call 125;refine(Qw _ T.scr _ _ (H.o.scr.ext (xE))).mono ?_;rintro e w1 ⟨rfl,hx1⟩)|(go_at_call 113;refine(Ja _ _).mono ?_;rintro e w' ⟨rfl,rfl⟩;rw[hs])|(go_at_call 145;refine(Fr _ _).mono ?_;rintro e w' ⟨rfl,rfl⟩;rw[hj]));go_ret;exact⟨by rw[Hs.o,Hs2.o];rfl,X0.o.trans xE⟩
theorem Bd{S S':Nat→Prop}(T:Tbl)(hf:Few T)(hu:Uq T)(v:Value)(l:List Int)(j:Nat)(w:World)(h:Xg w S T)(hl:Xw w S' v l)(hj:j<l.length)(hb:l.length≤100000):Calls prog 254 #[Vg T,v,.int .i64 (j:Int)] w (Qm w):=by
 obtain⟨A,C,rfl,hlCC,hCC⟩:=hl.shape;obtain⟨n,hnn⟩:=gnX ((l).length);have Hnn:=Y8 hnn;have Hhl:=Y8 hl;unfold maxLen at hCC;rw[hnn]at hlCC⊢;clear hl hnn;obtain⟨X0,H,Hb0⟩:=tblX h;clear h;have HL:=intX Hhl Hnn X0;have Hf:=Y8 hf;have Hu:=Y8 hu;clear hf hu;rw[Hnn.o]at hj hb;have d0:decide ((j:Int)<0)=false:=Yf;have d1:decide ((n:Int)≤(j:Int))=false:=Yf;have d1n:¬ n≤j:=by omega
 go_enter func254,ntmps254;go_wp2_with (first|(refine Xv rfl ?_)|(refine Wp Hb0.o (by go_simp) rfl ?_));refine(V0 T Hf.o Hu.o _ l _ H.o HL.o).mono ?_;rintro e w1 ⟨x,rfl,_,hx1⟩;have Hx:=Y8 hx1;clear hx1;by_cases h0:x=0
 ·subst h0;have i0:(0:Int)≤(j:Int):=by omega
  have i1:(j:Int)<(n:Int):=by omega
  obtain⟨c,hs_c⟩:=geX (l:=(l)) (i:=j) (by have:=Hnn.o;omega);obtain⟨g_c,o_c,c_c,hvv,_,_,_,hgl_c,a0_c⟩:=(HL.o.ext Hx.o).get hs_c;obtain⟨rfl,-,rfl⟩:=slcX hvv;clear hvv;have Hs_c:=Y8 hs_c;clear hs_c;have hx:=Hx.o;by_cases c1:c=183
  ·subst c1;go_wp2_with (first|(refine Xy (Hb0.o.ext Hx.o) rfl ?_)|(go_at_call 252;refine(Zl9 _ l _ _ (HL.o.ext xE)).mono ?_;rintro e w4 ⟨v4,rfl,hx4⟩));all_goals
    go_ret;exact⟨_,rfl,X0.o.trans xE⟩
  have f1:(c==183)=false:=by simp[c1]
  by_cases c2:c=885
  ·subst c2;have s1:IntKind.i64.wrap ((j:Int)+1)=(j:Int)+1:=Yp _ (by omega);have s0:(0:Int)≤(j:Int)+1:=by omega
   by_cases hjn:j+1<n
   ·have e1:decide ((j:Int)+1<(n:Int))=true:=Ye;have s2:(j:Int)+1<(n:Int):=by omega
    obtain⟨y,hy0⟩:=geX (l:=l) (i:=j+1) (by rw[Hnn.o];omega);obtain⟨g3,o3,c3,hv3,_,_,_,_,cy⟩:=(HL.o.ext Hx.o).get hy0;simp only[Yd,Yc,Zga,Zg0,Zfw]at hv3;obtain⟨⟨rfl,rfl⟩,-,rfl⟩:=hv3;have my:=lat cy;have HW:=Y8 (H.o.up Hx.o);have hC:∀ w',(∃ p:Vt,w'=later w1 p.n p.os)→Kn w' w.heap.size T:=fun w' ⟨p,e⟩=>by rw[e];exact(Hb0.o.ext Hx.o).ext (⟨_,_,rfl⟩)
    go_wp2_with fail;have hun:=Ya;refine wreX ?_;repeat(first|((with_reducible refine Xf ?_ ?_ hC ?_);(focus(go_simp;done));rfl)|(refine(Yu ?_:);intro K hK;go_simp;first|(refine hK _ ?_;clear hK K)|(apply Exists.intro;refine⟨fun _=>?_,hK _ ?_⟩;(go_at_call 239;exact Xx (Up T _ _ (HW.o.up (⟨_,_,rfl⟩))));clear hK K)))
    refine Yt ?_;intro w3 hx3;clear hun;try simp only[Yb]
    go_wp2_with fail;go_ret;exact⟨_,rfl,X0.o.trans (Hx.o.trans hx3)⟩
   have e1:decide ((j:Int)+1<(n:Int))=false:=Yf;have HW:=Y8 (H.o.up Hx.o);have hC:∀ w',(∃ p:Vt,w'=later w1 p.n p.os)→Kn w' w.heap.size T:=fun w' ⟨p,e⟩=>by rw[e];exact(Hb0.o.ext Hx.o).ext (⟨_,_,rfl⟩)
   go_wp2_with fail;have hun:=Ya;refine wreX ?_;repeat(first|((with_reducible refine Xf ?_ ?_ hC ?_);(focus(go_simp;done));rfl)|(refine(Yu ?_:);intro K hK;go_simp;first|(refine hK _ ?_;clear hK K)|(apply Exists.intro;refine⟨fun _=>?_,hK _ ?_⟩;(go_at_call 239;exact Xx (Up T _ _ (HW.o.up (⟨_,_,rfl⟩))));clear hK K)))
   refine Yt ?_;intro w3 hx3;clear hun;try simp only[Yb]
   go_wp2_with fail;go_ret;exact⟨_,rfl,X0.o.trans (Hx.o.trans hx3)⟩
  have f2:(c==885)=false:=by simp[c2]
  by_cases c3:c=1523∨c=1524
  ·have hcc:(c==1523)=true∨((c==1523)=false∧(c==1524)=true):=by
    rcases c3 with rfl|rfl
    ·exact .inl rfl
    exact .inr ⟨rfl,rfl⟩
   clear c1 c2 c3;by_cases hj0:0<j
   ·have k0:decide ((0:Int)<(j:Int))=true:=Ye;have k1:decide (0<j)=true:=Ye hj0;have r1:=Ve j (by omega) (by omega);obtain⟨jp,hjp⟩:=gnX (j-1);rw[hjp]at r1;have i2:(0:Int)≤(jp:Int):=by omega
    have i3:(jp:Int)<(n:Int):=by omega
    have i4:jp<n:=by omega
    obtain⟨y,hy0⟩:=geX (l:=l) (i:=jp) (by rw[Hnn.o];omega);obtain⟨g3,o3,c3,hv3,_,_,_,_,cy⟩:=(HL.o.ext Hx.o).get hy0;simp only[Yd,Yc,Zga,Zg0,Zfw]at hv3;obtain⟨⟨rfl,rfl⟩,-,rfl⟩:=hv3;have my:=lat cy;clear hjp;rcases hcc with h1 | ⟨h1,h2⟩
    ·have HW:=Y8 (H.o.up Hx.o);have hC:∀ w',(∃ p:Vt,w'=later w1 p.n p.os)→Kn w' w.heap.size T:=fun w' ⟨p,e⟩=>by rw[e];exact(Hb0.o.ext Hx.o).ext (⟨_,_,rfl⟩)
     go_wp2_with fail;have hun:=Ya;refine wreX ?_;repeat(first|((with_reducible refine Xf ?_ ?_ hC ?_);(focus(go_simp;done));rfl)|(refine(Yu ?_:);intro K hK;go_simp;first|(refine hK _ ?_;clear hK K)|(apply Exists.intro;refine⟨fun _=>?_,hK _ ?_⟩;(go_at_call 239;exact Xx (Up T _ _ (HW.o.up (⟨_,_,rfl⟩))));clear hK K)))
     refine Yt ?_;intro w3 hx3;clear hun;try simp only[Yb]
     go_wp2_with fail;go_ret;exact⟨_,rfl,X0.o.trans (Hx.o.trans hx3)⟩
    have HW:=Y8 (H.o.up Hx.o);have hC:∀ w',(∃ p:Vt,w'=later w1 p.n p.os)→Kn w' w.heap.size T:=fun w' ⟨p,e⟩=>by rw[e];exact(Hb0.o.ext Hx.o).ext (⟨_,_,rfl⟩)
    go_wp2_with fail;have hun:=Ya;refine wreX ?_;repeat(first|((with_reducible refine Xf ?_ ?_ hC ?_);(focus(go_simp;done));rfl)|(refine(Yu ?_:);intro K hK;go_simp;first|(refine hK _ ?_;clear hK K)|(apply Exists.intro;refine⟨fun _=>?_,hK _ ?_⟩;(go_at_call 239;exact Xx (Up T _ _ (HW.o.up (⟨_,_,rfl⟩))));clear hK K)))
    refine Yt ?_;intro w3 hx3;clear hun;try simp only[Yb]
    go_wp2_with fail;go_ret;exact⟨_,rfl,X0.o.trans (Hx.o.trans hx3)⟩
   have k0:decide ((0:Int)<(j:Int))=false:=Yf;have k1:decide (0<j)=false:=Yf hj0;rcases hcc with h1 | ⟨h1,h2⟩
   ·have HW:=Y8 (H.o.up Hx.o);have hC:∀ w',(∃ p:Vt,w'=later w1 p.n p.os)→Kn w' w.heap.size T:=fun w' ⟨p,e⟩=>by rw[e];exact(Hb0.o.ext Hx.o).ext (⟨_,_,rfl⟩)
    go_wp2_with fail;have hun:=Ya;refine wreX ?_;repeat(first|((with_reducible refine Xf ?_ ?_ hC ?_);(focus(go_simp;done));rfl)|(refine(Yu ?_:);intro K hK;go_simp;first|(refine hK _ ?_;clear hK K)|(apply Exists.intro;refine⟨fun _=>?_,hK _ ?_⟩;(go_at_call 239;exact Xx (Up T _ _ (HW.o.up (⟨_,_,rfl⟩))));clear hK K)))
    refine Yt ?_;intro w3 hx3;clear hun;try simp only[Yb]
    go_wp2_with fail;go_ret;exact⟨_,rfl,X0.o.trans (Hx.o.trans hx3)⟩
   have HW:=Y8 (H.o.up Hx.o);have hC:∀ w',(∃ p:Vt,w'=later w1 p.n p.os)→Kn w' w.heap.size T:=fun w' ⟨p,e⟩=>by rw[e];exact(Hb0.o.ext Hx.o).ext (⟨_,_,rfl⟩)
   go_wp2_with fail;have hun:=Ya;refine wreX ?_;repeat(first|((with_reducible refine Xf ?_ ?_ hC ?_);(focus(go_simp;done));rfl)|(refine(Yu ?_:);intro K hK;go_simp;first|(refine hK _ ?_;clear hK K)|(apply Exists.intro;refine⟨fun _=>?_,hK _ ?_⟩;(go_at_call 239;exact Xx (Up T _ _ (HW.o.up (⟨_,_,rfl⟩))));clear hK K)))
   refine Yt ?_;intro w3 hx3;clear hun;try simp only[Yb]
   go_wp2_with fail;go_ret;exact⟨_,rfl,X0.o.trans (Hx.o.trans hx3)⟩
  have f3:(c==1523)=false:=by simp;omega
  have f4:(c==1524)=false:=by simp;omega
  clear c3;by_cases c5:c=12539
  ·subst c5;go_wp2_with (first|(refine Xy (Hb0.o.ext Hx.o) rfl ?_)|(go_at_call 267;refine(Zmr T _ l _ (H.o.up Hx.o) (HL.o.ext Hx.o)).mono ?_;rintro e w2 ⟨q,rfl,hx2⟩));go_ret;exact⟨_,rfl,X0.o.trans xE⟩
  have f5:(c==12539)=false:=by simp[c5]
  clear c1 c2 c5;cases b1:inB c 1632 1641
  ·cases b2:inB c 1776 1785
   all_goals
    go_wp2_with (first|(go_at_call 268;refine(Zwp _ _ _ _).mono ?_;rintro e w' ⟨rfl,rfl⟩;first|rw[b1]|rw[b2])|(go_at_call 269;refine(Zw4 _ l _ _ _ (HL.o.ext xE)).mono ?_;rintro e w2 ⟨q,rfl,hx2⟩));go_ret;exact⟨_,rfl,X0.o.trans xE⟩
  go_wp2_with (first|(go_at_call 268;refine(Zwp _ _ _ _).mono ?_;rintro e w' ⟨rfl,rfl⟩;first|rw[b1]|rw[b2])|(go_at_call 269;refine(Zw4 _ l _ _ _ (HL.o.ext xE)).mono ?_;rintro e w2 ⟨q,rfl,hx2⟩));go_ret;exact⟨_,rfl,X0.o.trans xE⟩
 have h0b:(!(x==0))=true:=by simp[h0]
 have h0c:(x !=0)=true:=h0b;have h0d:(x==0)=false:=by simp[h0]
 have h0H:=Y8 h0;clear h0;go_wp2_with fail;go_ret;exact⟨_,rfl,X0.o.trans Hx.o⟩
def Ztb(n:Nat)(w:World)(e:Ending)(w':World):Prop:=∃ z:Int,e=.returned (.int .i64 z)∧-1≤z∧z<n∧Ext w w'
theorem Zut{S S':Nat→Prop}(T:Tbl)(hf:Few T)(hu:Uq T)(v:Value)(l:List Int)(j:Nat)(w:World)(h:Xg w S T)(hl:Xw w S' v l)(hj:j<l.length):Calls prog 264 #[Vg T,v,.int .i64 (j:Int)] w (Ztb l.length w):=by
 obtain⟨A,C,rfl,hlCC,hCC⟩:=hl.shape;obtain⟨n,hnn⟩:=gnX ((l).length);have Hnn:=Y8 hnn;have Hhl:=Y8 hl;unfold maxLen at hCC;rw[hnn]at hlCC⊢;clear hl hnn;obtain⟨X0,H,Hb0⟩:=tblX h;clear h;have HL:=intX Hhl Hnn X0;have Hf:=Y8 hf;have Hu:=Y8 hu;clear hf hu;rw[Hnn.o]at hj;have d0:decide ((j:Int)<0)=false:=Yf;have d1:decide ((n:Int)≤(j:Int))=false:=Yf;have d1n:¬ n≤j:=by omega
 go_enter func264,ntmps264;go_wp2_with (first|(refine Xv rfl ?_)|(refine Wp Hb0.o (by go_simp) rfl ?_));refine(V0 T Hf.o Hu.o _ l _ H.o HL.o).mono ?_;rintro e w1 ⟨x,rfl,_,hx1⟩;have Hx1:=Y8 hx1;clear hx1;by_cases h0:x=0
 ·subst h0;go_wp2_with fail;go_loopw [8,7] (fun o u wr=>∃ (k:Nat) (z:Int),k≤j∧o=.int .i64 (k:Int)∧u=.int .i64 z∧-1≤z∧z<n∧Ext (w.alloc (Wz T)) wr) (fun o _ _=>j-(intOf o).toNat);case atStart=>exact⟨0,-1,by omega,rfl,rfl,by omega,by omega,Hx1.o⟩
  clear Hx1;obtain⟨k,z,hk,rfl,rfl,hz1,hz2,hx⟩:=hrel;have Hx:=Y8 hx;clear hx;by_cases hlt:k<j
  ·have hd:=LTd k j;have i0:(0:Int)≤(k:Int):=by omega
   have i1:(k:Int)<(n:Int):=by omega
   have hkn:k<n:=by omega
   obtain⟨c,hs_c⟩:=geX (l:=(l)) (i:=k) (by have:=Hnn.o;omega);obtain⟨g_c,o_c,c_c,hvv,_,_,_,hgl_c,a0_c⟩:=(HL.o.ext Hx.o).get hs_c;obtain⟨rfl,-,rfl⟩:=slcX hvv;clear hvv;have Hs_c:=Y8 hs_c;clear hs_c;have m0:=lat a0_c;have HW:=Y8 (H.o.up Hx.o);have hC:∀ w',(∃ p:Vt,w'=later wr p.n p.os)→Kn w' w.heap.size T:=fun w' ⟨p,e⟩=>by rw[e];exact(Hb0.o.ext Hx.o).ext (⟨_,_,rfl⟩)
   cases hz:(Wk T.joi c==5)
   all_goals
    have hun:=Ya;go_wp2_with fail;refine wreX ?_;repeat(first|((with_reducible refine Xf ?_ ?_ hC ?_);(focus(go_simp;done));rfl)|(refine(Yu ?_:);intro K hK;go_simp;first|(refine hK _ ?_;clear hK K)|(apply Exists.intro;refine⟨fun _=>?_,hK _ ?_⟩;(first|(go_at_call 266;exact Xx (V1 T _ _ (HW.o.up (⟨_,_,rfl⟩))))|(go_at_call 148;exact Xx (Xl T _ _ (HW.o.up (⟨_,_,rfl⟩)))));clear hK K)))
    refine Yt ?_;intro w2 hy;clear hun;try simp only[Yb]
    have Hx2:=Y8 (Hx.o.trans hy);clear hy HW hC m0;go_wp2_with fail;go_roundw;case rel=>first|exact⟨k+1,(k:Int),by omega,by go_num,rfl,by omega,by omega,Hx2.o⟩|exact⟨k+1,z,by omega,by go_num,rfl,hz1,hz2,Hx2.o⟩
    (simp[intOf];omega)
  have hd:=GEl k j;go_wp2_with fail;go_ret;exact⟨z,rfl,hz1,hz2,X0.o.trans Hx.o⟩
 have h0b:(!(x==0))=true:=by simp[h0]
 have h0c:(x !=0)=true:=h0b;have h0d:(x==0)=false:=by simp[h0]
 have h0H:=Y8 h0;clear h0;go_wp2_with fail;go_ret;exact⟨-1,rfl,by omega,by omega,X0.o.trans Hx1.o⟩
theorem Zxq{S S':Nat→Prop}(T:Tbl)(hf:Few T)(hu:Uq T)(v:Value)(l:List Int)(j:Nat)(w:World)(h:Xg w S T)(hl:Xw w S' v l)(hj:j<l.length)(hb:l.length≤100000):Calls prog 265 #[Vg T,v,.int .i64 (j:Int)] w (Ztb l.length w):=by
 obtain⟨A,C,rfl,hlCC,hCC⟩:=hl.shape;obtain⟨n,hnn⟩:=gnX ((l).length);have Hnn:=Y8 hnn;have Hhl:=Y8 hl;unfold maxLen at hCC;rw[hnn]at hlCC⊢;clear hl hnn;obtain⟨X0,H,Hb0⟩:=tblX h;clear h;have HL:=intX Hhl Hnn X0;have Hf:=Y8 hf;have Hu:=Y8 hu;clear hf hu;rw[Hnn.o]at hj hb;have d0:decide ((j:Int)<0)=false:=Yf;have d1:decide ((n:Int)≤(j:Int))=false:=Yf;have d1n:¬ n≤j:=by omega
 have r1:=Ve n (by omega) (by omega);go_enter func265,ntmps265;go_wp2_with (first|(refine Xv rfl ?_)|(refine Wp Hb0.o (by go_simp) rfl ?_));refine(V0 T Hf.o Hu.o _ l _ H.o HL.o).mono ?_;rintro e w1 ⟨x,rfl,_,hx1⟩;have Hx1:=Y8 hx1;clear hx1;by_cases h0:x=0
 ·subst h0;go_wp2_with fail;clear r1;go_loopw [8,7] (fun o u wr=>∃ (k:Nat) (z:Int),j≤k∧k<n∧o=.int .i64 (k:Int)∧u=.int .i64 z∧-1≤z∧z<n∧Ext (w.alloc (Wz T)) wr) (fun o _ _=>(intOf o).toNat);case atStart=>exact⟨n-1,-1,by omega,by omega,rfl,rfl,by omega,by omega,Hx1.o⟩
  clear Hx1;obtain⟨k,z,hk,hkn,rfl,rfl,hz1,hz2,hx⟩:=hrel;have Hx:=Y8 hx;clear hx;by_cases hlt:j<k
  ·have hd:=LTd j k;have i0:(0:Int)≤(k:Int):=by omega
   have i1:(k:Int)<(n:Int):=by omega
   have r2:=Ve k (by omega) (by omega);obtain⟨c,hs_c⟩:=geX (l:=(l)) (i:=k) (by have:=Hnn.o;omega);obtain⟨g_c,o_c,c_c,hvv,_,_,_,hgl_c,a0_c⟩:=(HL.o.ext Hx.o).get hs_c;obtain⟨rfl,-,rfl⟩:=slcX hvv;clear hvv;have Hs_c:=Y8 hs_c;clear hs_c;have m0:=lat a0_c;have HW:=Y8 (H.o.up Hx.o);have hC:∀ w',(∃ p:Vt,w'=later wr p.n p.os)→Kn w' w.heap.size T:=fun w' ⟨p,e⟩=>by rw[e];exact(Hb0.o.ext Hx.o).ext (⟨_,_,rfl⟩)
   cases hz:(Wk T.joi c==5)
   all_goals
    have hun:=Ya;go_wp2_with fail;refine wreX ?_;repeat(first|((with_reducible refine Xf ?_ ?_ hC ?_);(focus(go_simp;done));rfl)|(refine(Yu ?_:);intro K hK;go_simp;first|(refine hK _ ?_;clear hK K)|(apply Exists.intro;refine⟨fun _=>?_,hK _ ?_⟩;(first|(go_at_call 266;exact Xx (V1 T _ _ (HW.o.up (⟨_,_,rfl⟩))))|(go_at_call 148;exact Xx (Xl T _ _ (HW.o.up (⟨_,_,rfl⟩)))));clear hK K)))
    refine Yt ?_;intro w2 hy;clear hun;try simp only[Yb]
    have Hx2:=Y8 (Hx.o.trans hy);clear hy HW hC m0;go_wp2_with fail;go_roundw;case rel=>first|exact⟨k-1,(k:Int),by omega,by omega,by first|rfl|go_num,rfl,by omega,by omega,Hx2.o⟩|exact⟨k-1,z,by omega,by omega,by first|rfl|go_num,rfl,hz1,hz2,Hx2.o⟩
    first|(simp[intOf];done)|(simp[intOf];omega)
  have hd:=GEl j k;go_wp2_with fail;go_ret;exact⟨z,rfl,hz1,hz2,X0.o.trans Hx.o⟩
 have h0b:(!(x==0))=true:=by simp[h0]
 have h0c:(x !=0)=true:=h0b;have h0d:(x==0)=false:=by simp[h0]
 have h0H:=Y8 h0;clear h0;go_wp2_with fail;go_ret;exact⟨-1,rfl,by omega,by omega,X0.o.trans Hx1.o⟩
theorem Eo{S S':Nat→Prop}(T:Tbl)(hf:Few T)(hu:Uq T)(v:Value)(l:List Int)(j:Nat)(w:World)(h:Xg w S T)(hl:Xw w S' v l)(hj:j<l.length)(hb:l.length≤100000):Calls prog 253 #[Vg T,v,.int .i64 (j:Int)] w (Qm w):=by
 obtain⟨A,C,rfl,hlCC,hCC⟩:=hl.shape;obtain⟨n,hnn⟩:=gnX ((l).length);have Hnn:=Y8 hnn;have Hhl:=Y8 hl;unfold maxLen at hCC;rw[hnn]at hlCC⊢;clear hl hnn;obtain⟨X0,H,Hb0⟩:=tblX h;clear h;have HL:=intX Hhl Hnn X0;have Hf:=Y8 hf;have Hu:=Y8 hu;clear hf hu;rw[Hnn.o]at hj hb;have d0:decide ((j:Int)<0)=false:=Yf;have d1:decide ((n:Int)≤(j:Int))=false:=Yf;have d1n:¬ n≤j:=by omega
 go_enter func253,ntmps253;go_wp2_with (first|(refine Xv rfl ?_)|(refine Wp Hb0.o (by go_simp) rfl ?_));refine(V0 T Hf.o Hu.o _ l _ H.o HL.o).mono ?_;rintro e w1 ⟨x,rfl,_,hx1⟩;have Hx:=Y8 hx1;clear hx1;by_cases h0:x=0
 ·subst h0;have i0:(0:Int)≤(j:Int):=by omega
  have i1:(j:Int)<(n:Int):=by omega
  obtain⟨c,hs_c⟩:=geX (l:=(l)) (i:=j) (by have:=Hnn.o;omega);obtain⟨g_c,o_c,c_c,hvv,_,_,_,hgl_c,a0_c⟩:=(HL.o.ext Hx.o).get hs_c;obtain⟨rfl,-,rfl⟩:=slcX hvv;clear hvv;have Hs_c:=Y8 hs_c;clear hs_c;have m0:=lat a0_c;have HW:=Y8 (H.o.up Hx.o);have hC:∀ w',(∃ p:Vt,w'=later w1 p.n p.os)→Kn w' w.heap.size T:=fun w' ⟨p,e⟩=>by rw[e];exact(Hb0.o.ext Hx.o).ext (⟨_,_,rfl⟩)
  go_wp2_with fail;go_cut [50] from 25 to 50 (fun o wx=>∃ q:Bool,o=.bool q∧Ext w1 wx)
  case first =>
   rename_i J1 K1 hJ hM;cases c1:(c !=8204)
   rotate_left
   ·cases c2:(c !=8205)
    ·by_cases hj0:0<j
     ·have k0:decide ((0:Int)<(j:Int))=true:=Ye;have k1:decide (0<j)=true:=Ye hj0;have r1:=Ve j (by omega) (by omega);obtain⟨jp,hjp⟩:=gnX (j-1);rw[hjp]at r1;have i2:(0:Int)≤(jp:Int):=by omega
      have i3:(jp:Int)<(n:Int):=by omega
      have i4:jp<n:=by omega
      obtain⟨y,hy0⟩:=geX (l:=l) (i:=jp) (by rw[Hnn.o];omega);obtain⟨g3,o3,c3,hv3,_,_,_,_,cy⟩:=(HL.o.ext Hx.o).get hy0;simp only[Yd,Yc,Zga,Zg0,Zfw]at hv3;obtain⟨⟨rfl,rfl⟩,-,rfl⟩:=hv3;have m1:=lat cy;clear hjp;have hun:=Ya;refine wreX ?_;repeat(first|((with_reducible refine Xf ?_ ?_ hC ?_);(focus(go_simp;done));rfl)|(refine(Yu ?_:);intro K hK;go_simp;first|(refine hK _ ?_;clear hK K)|(apply Exists.intro;refine⟨fun _=>?_,hK _ ?_⟩;(first|(go_at_call 266;exact Xx (V1 T _ _ (HW.o.up (⟨_,_,rfl⟩))))|(go_at_call 148;exact Xx (Xl T _ _ (HW.o.up (⟨_,_,rfl⟩)))));clear hK K)))
      refine Yt ?_;intro w2 hy;clear hun;try simp only[Yb]
      first|refine hM _ _ (hJ _ _ ?_)|(go_simp;refine hM _ _ (hJ _ _ ?_))|refine hJ _ _ ?_
      (repeat apply Exists.intro)
      exact⟨⟨_,rfl,hy⟩,rfl⟩
     have k0:decide ((0:Int)<(j:Int))=false:=Yf;have k1:decide (0<j)=false:=Yf hj0;have hun:=Ya;refine wreX ?_;repeat(first|((with_reducible refine Xf ?_ ?_ hC ?_);(focus(go_simp;done));rfl)|(refine(Yu ?_:);intro K hK;go_simp;first|(refine hK _ ?_;clear hK K)|(apply Exists.intro;refine⟨fun _=>?_,hK _ ?_⟩;(first|(go_at_call 266;exact Xx (V1 T _ _ (HW.o.up (⟨_,_,rfl⟩))))|(go_at_call 148;exact Xx (Xl T _ _ (HW.o.up (⟨_,_,rfl⟩)))));clear hK K)))
     refine Yt ?_;intro w2 hy;clear hun;try simp only[Yb]
     first|refine hM _ _ (hJ _ _ ?_)|(go_simp;refine hM _ _ (hJ _ _ ?_))|refine hJ _ _ ?_
     (repeat apply Exists.intro)
     exact⟨⟨_,rfl,hy⟩,rfl⟩
    by_cases hj0:0<j
    ·have k0:decide ((0:Int)<(j:Int))=true:=Ye;have k1:decide (0<j)=true:=Ye hj0;have r1:=Ve j (by omega) (by omega);obtain⟨jp,hjp⟩:=gnX (j-1);rw[hjp]at r1;have i2:(0:Int)≤(jp:Int):=by omega
     have i3:(jp:Int)<(n:Int):=by omega
     have i4:jp<n:=by omega
     obtain⟨y,hy0⟩:=geX (l:=l) (i:=jp) (by rw[Hnn.o];omega);obtain⟨g3,o3,c3,hv3,_,_,_,_,cy⟩:=(HL.o.ext Hx.o).get hy0;simp only[Yd,Yc,Zga,Zg0,Zfw]at hv3;obtain⟨⟨rfl,rfl⟩,-,rfl⟩:=hv3;have m1:=lat cy;clear hjp;have hun:=Ya;refine wreX ?_;repeat(first|((with_reducible refine Xf ?_ ?_ hC ?_);(focus(go_simp;done));rfl)|(refine(Yu ?_:);intro K hK;go_simp;first|(refine hK _ ?_;clear hK K)|(apply Exists.intro;refine⟨fun _=>?_,hK _ ?_⟩;(first|(go_at_call 266;exact Xx (V1 T _ _ (HW.o.up (⟨_,_,rfl⟩))))|(go_at_call 148;exact Xx (Xl T _ _ (HW.o.up (⟨_,_,rfl⟩)))));clear hK K)))
     refine Yt ?_;intro w2 hy;clear hun;try simp only[Yb]
     first|refine hM _ _ (hJ _ _ ?_)|(go_simp;refine hM _ _ (hJ _ _ ?_))|refine hJ _ _ ?_
     (repeat apply Exists.intro)
     exact⟨⟨_,rfl,hy⟩,rfl⟩
    have k0:decide ((0:Int)<(j:Int))=false:=Yf;have k1:decide (0<j)=false:=Yf hj0;have hun:=Ya;refine wreX ?_;repeat(first|((with_reducible refine Xf ?_ ?_ hC ?_);(focus(go_simp;done));rfl)|(refine(Yu ?_:);intro K hK;go_simp;first|(refine hK _ ?_;clear hK K)|(apply Exists.intro;refine⟨fun _=>?_,hK _ ?_⟩;(first|(go_at_call 266;exact Xx (V1 T _ _ (HW.o.up (⟨_,_,rfl⟩))))|(go_at_call 148;exact Xx (Xl T _ _ (HW.o.up (⟨_,_,rfl⟩)))));clear hK K)))
    refine Yt ?_;intro w2 hy;clear hun;try simp only[Yb]
    first|refine hM _ _ (hJ _ _ ?_)|(go_simp;refine hM _ _ (hJ _ _ ?_))|refine hJ _ _ ?_
    (repeat apply Exists.intro)
    exact⟨⟨_,rfl,hy⟩,rfl⟩
   by_cases hj0:0<j
   ·have k0:decide ((0:Int)<(j:Int))=true:=Ye;have k1:decide (0<j)=true:=Ye hj0;have r1:=Ve j (by omega) (by omega);obtain⟨jp,hjp⟩:=gnX (j-1);rw[hjp]at r1;have i2:(0:Int)≤(jp:Int):=by omega
    have i3:(jp:Int)<(n:Int):=by omega
    have i4:jp<n:=by omega
    obtain⟨y,hy0⟩:=geX (l:=l) (i:=jp) (by rw[Hnn.o];omega);obtain⟨g3,o3,c3,hv3,_,_,_,_,cy⟩:=(HL.o.ext Hx.o).get hy0;simp only[Yd,Yc,Zga,Zg0,Zfw]at hv3;obtain⟨⟨rfl,rfl⟩,-,rfl⟩:=hv3;have m1:=lat cy;clear hjp;have hun:=Ya;refine wreX ?_;repeat(first|((with_reducible refine Xf ?_ ?_ hC ?_);(focus(go_simp;done));rfl)|(refine(Yu ?_:);intro K hK;go_simp;first|(refine hK _ ?_;clear hK K)|(apply Exists.intro;refine⟨fun _=>?_,hK _ ?_⟩;(first|(go_at_call 266;exact Xx (V1 T _ _ (HW.o.up (⟨_,_,rfl⟩))))|(go_at_call 148;exact Xx (Xl T _ _ (HW.o.up (⟨_,_,rfl⟩)))));clear hK K)))
    refine Yt ?_;intro w2 hy;clear hun;try simp only[Yb]
    first|refine hM _ _ (hJ _ _ ?_)|(go_simp;refine hM _ _ (hJ _ _ ?_))|refine hJ _ _ ?_
    (repeat apply Exists.intro)
    exact⟨⟨_,rfl,hy⟩,rfl⟩
   have k0:decide ((0:Int)<(j:Int))=false:=Yf;have k1:decide (0<j)=false:=Yf hj0;have hun:=Ya;refine wreX ?_;repeat(first|((with_reducible refine Xf ?_ ?_ hC ?_);(focus(go_simp;done));rfl)|(refine(Yu ?_:);intro K hK;go_simp;first|(refine hK _ ?_;clear hK K)|(apply Exists.intro;refine⟨fun _=>?_,hK _ ?_⟩;(first|(go_at_call 266;exact Xx (V1 T _ _ (HW.o.up (⟨_,_,rfl⟩))))|(go_at_call 148;exact Xx (Xl T _ _ (HW.o.up (⟨_,_,rfl⟩)))));clear hK K)))
   refine Yt ?_;intro w2 hy;clear hun;try simp only[Yb]
   first|refine hM _ _ (hJ _ _ ?_)|(go_simp;refine hM _ _ (hJ _ _ ?_))|refine hJ _ _ ?_
   (repeat apply Exists.intro)
   exact⟨⟨_,rfl,hy⟩,rfl⟩
  obtain⟨q,rfl,hxq⟩:=hcut;have Hxq:=Y8 (Hx.o.trans hxq);clear hxq HW hC m0;cases q with
  | true =>
   go_wp2_with fail;go_ret;exact⟨_,rfl,X0.o.trans Hxq.o⟩
  | false =>
   have z0:(wc).cell? ⟨w.heap.size,0,none⟩=some T.catV:=(Hb0.o.ext Hxq.o).at_ 0 (by omega);have z1:(wc).cell? ⟨w.heap.size,1,none⟩=some T.clsV:=(Hb0.o.ext Hxq.o).at_ 1 (by omega);have z2:(wc).cell? ⟨w.heap.size,2,none⟩=some T.joiV:=(Hb0.o.ext Hxq.o).at_ 2 (by omega);have z3:(wc).cell? ⟨w.heap.size,3,none⟩=some T.bidV:=(Hb0.o.ext Hxq.o).at_ 3 (by omega);have z4:(wc).cell? ⟨w.heap.size,4,none⟩=some T.scrV:=(Hb0.o.ext Hxq.o).at_ 4 (by omega);have z5:(wc).cell? ⟨w.heap.size,5,none⟩=some T.staV:=(Hb0.o.ext Hxq.o).at_ 5 (by omega);have z6:(wc).cell? ⟨w.heap.size,6,none⟩=some T.ignV:=(Hb0.o.ext Hxq.o).at_ 6 (by omega);have z7:(wc).cell? ⟨w.heap.size,7,none⟩=some T.extV:=(Hb0.o.ext Hxq.o).at_ 7 (by omega);have z8:(wc).cell? ⟨w.heap.size,8,none⟩=some T.mapV:=(Hb0.o.ext Hxq.o).at_ 8 (by omega);have z9:(wc).cell? ⟨w.heap.size,9,none⟩=some T.decV:=(Hb0.o.ext Hxq.o).at_ 9 (by omega);have z10:(wc).cell? ⟨w.heap.size,10,none⟩=some T.excV:=(Hb0.o.ext Hxq.o).at_ 10 (by omega);have z11:(wc).cell? ⟨w.heap.size,11,none⟩=some T.proV:=(Hb0.o.ext Hxq.o).at_ 11 (by omega);go_wp2_with fail;go_cut [7,8] from 51 to 58 (fun o u wx=>∃ a b:Int,o=.int .i64 a∧u=.int .i64 b∧-1≤a∧a<n∧-1≤b∧b<n∧Ext wc wx)
   case first =>
    rename_i J1 K1 hJ hM;have hxq:=Hxq.o;have hbl:=(Hb0.o.ext hxq).lt;have hjl:j<l.length:=by rw[Hnn.o];exact hj
    have hjb:l.length≤100000:=by rw[Hnn.o];exact hb
    have Hjl:=Y8 hjl;have Hjb:=Y8 hjb;clear hjl hjb;go_region_with (first|(go_at_call 264;refine(Zut T Hf.o Hu.o _ l j _ (H.o.up xE) (HL.o.ext xE) Hjl.o).mono ?_;rintro e w5 ⟨a,rfl,ha1,ha2,hx5⟩;have hq:=fun i=>hx5.cell (p:=⟨w.heap.size,i,none⟩) (by first|exact hbl|(simp;exact hbl)|(have:=hx6.size;simp at this⊢;omega)))|(go_at_call 265;refine(Zxq T Hf.o Hu.o _ l j _ (H.o.up xE) (HL.o.ext xE) Hjl.o Hjb.o).mono ?_;rintro e w6 ⟨b,rfl,hb1,hb2,hx6⟩;have hq2:=fun i=>hx6.cell (p:=⟨w.heap.size,i,none⟩) (by first|exact hbl|(simp;exact hbl)|(have:=hx5.size;simp at this⊢;omega))));all_goals
     rw[Hnn.o]at ha2 hb2;go_simp;refine hM _ _ (hJ _ _ ?_);(repeat apply Exists.intro)
     exact⟨⟨a,b,rfl,rfl,ha1,ha2,hb1,hb2,xE⟩,rfl⟩
   obtain⟨a,b,rfl,rfl,ha1,ha2,hb1,hb2,hxc⟩:=hcut;have Hxd:=Y8 (Hxq.o.trans hxc);clear hxc z0 z1 z2 z3 z4 z5 z6 z7 z8 z9 z10 z11 a0_c;rename World=>wd
   obtain⟨g4,o4,c4,hv4,_,_,_,_,cj⟩:=(HL.o.ext Hxd.o).get Hs_c.o;simp only[Yd,Yc,Zga,Zg0,Zfw]at hv4;obtain⟨⟨rfl,rfl⟩,-,rfl⟩:=hv4;by_cases ha0:a<0
   ·have e1:decide (a<0)=true:=Ye ha0;cases c5:(c==8205)
    all_goals
     go_wp2_with fail;go_ret;exact⟨_,rfl,X0.o.trans Hxd.o⟩
   have e1:decide (a<0)=false:=Yf ha0;by_cases hb0:b<0
   ·have e2:decide (b<0)=true:=Ye hb0;cases c5:(c==8205)
    all_goals
     go_wp2_with fail;go_ret;exact⟨_,rfl,X0.o.trans Hxd.o⟩
   have e2:decide (b<0)=false:=Yf hb0;obtain⟨p,rfl⟩:∃ p:Nat,a=(p:Int):=⟨a.toNat,by omega⟩;obtain⟨r,rfl⟩:∃ r:Nat,b=(r:Int):=⟨b.toNat,by omega⟩;cases c5:(c==8205)
   rotate_left
   ·go_wp2_with fail;go_ret;exact⟨_,rfl,X0.o.trans Hxd.o⟩
   go_wp2_with fail;have p0:(0:Int)≤(p:Int):=by omega
   have r0:(0:Int)≤(r:Int):=by omega
   have pn:p<n:=by omega
   have rn:r<n:=by omega
   obtain⟨yp,hyp⟩:=geX (l:=l) (i:=p) (by rw[Hnn.o];omega);obtain⟨yr,hyr⟩:=geX (l:=l) (i:=r) (by rw[Hnn.o];omega);obtain⟨g5,o5,c5',hv5,_,_,_,_,cp⟩:=(HL.o.ext Hxd.o).get hyp;simp only[Yd,Yc,Zga,Zg0,Zfw]at hv5;obtain⟨⟨rfl,rfl⟩,-,rfl⟩:=hv5;obtain⟨g6,o6,c6,hv6,_,_,_,_,cr⟩:=(HL.o.ext Hxd.o).get hyr;simp only[Yd,Yc,Zga,Zg0,Zfw]at hv6;obtain⟨⟨rfl,rfl⟩,-,rfl⟩:=hv6;have mp:=lat cp;have mr:=lat cr;have HW:=Y8 (H.o.up Hxd.o);have hC:∀ w',(∃ p:Vt,w'=later wd p.n p.os)→Kn w' w.heap.size T:=fun w' ⟨p,e⟩=>by rw[e];exact(Hb0.o.ext Hxd.o).ext (⟨_,_,rfl⟩)
   have hun:=Ya;refine wreX ?_;repeat(first|((with_reducible refine Xf ?_ ?_ hC ?_);(focus(go_simp;done));rfl)|(refine(Yu ?_:);intro K hK;go_simp;first|(refine hK _ ?_;clear hK K)|(apply Exists.intro;refine⟨fun _=>?_,hK _ ?_⟩;(first|(go_at_call 266;exact Xx (V1 T _ _ (HW.o.up (⟨_,_,rfl⟩))))|(go_at_call 148;exact Xx (Xl T _ _ (HW.o.up (⟨_,_,rfl⟩)))));clear hK K)))
   refine Yt ?_;intro w2 hy;clear hun;try simp only[Yb]
   have Hx2:=Y8 (Hxd.o.trans hy);clear hy HW hC mp mr cp cr;go_wp2_with fail;all_goals
    go_ret;exact⟨_,rfl,X0.o.trans Hx2.o⟩
 have h0b:(!(x==0))=true:=by simp[h0]
 have h0c:(x !=0)=true:=h0b;have h0d:(x==0)=false:=by simp[h0]
 have h0H:=Y8 h0;clear h0;go_wp2_with fail;go_ret;exact⟨_,rfl,X0.o.trans Hx.o⟩
theorem Np{S S':Nat→Prop}(T:Tbl)(hf:Few T)(hu:Uq T)(v:Value)(l:List Int)(w:World)(h:Xg w S T)(hl:Xw w S' v l)(hb:l.length≤100000):Calls prog 233 #[Vg T,v] w (Mn w):=by
 obtain⟨A,C,rfl,hlCC,hCC⟩:=hl.shape;obtain⟨n,hnn⟩:=gnX ((l).length);have Hnn:=Y8 hnn;have Hhl:=Y8 hl;unfold maxLen at hCC;rw[hnn]at hlCC⊢;clear hl hnn;obtain⟨X0,H,Hb0⟩:=tblX h;clear h;have HL:=intX Hhl Hnn X0;have Hf:=Y8 hf;have Hu:=Y8 hu;clear hf hu;have Hjb:=Y8 (show l.length≤100000 by first|exact hb|(rw[Hnn.o];exact hb));clear hb;go_enter func233,ntmps233;go_wp2_with (first|(refine Xv rfl ?_)|(refine Xy Hb0.o rfl ?_));refine(V0 T Hf.o Hu.o _ l _ H.o HL.o).mono ?_;rintro e w1 ⟨x,rfl,_,hx1⟩;have Hx1:=Y8 hx1;clear hx1;by_cases h0:x=0
 ·subst h0;go_wp2_with fail;go_loopw [16] (fun o wr=>∃ i:Nat,i≤n∧o=.int .i64 (i:Int)∧Ext (w.alloc (Wz T)) wr) (fun o _=>n-(intOf o).toNat);case atStart=>exact⟨0,by omega,rfl,Hx1.o⟩
  clear Hx1;obtain⟨i,hi_i,rfl,hx⟩:=hrel;have Hx:=Y8 hx;clear hx;by_cases hlt:i<n
  ·obtain⟨hd_i,i0_i,i1_i⟩:=LTl i n;go_wp2_with (refine Xy (Hb0.o.ext Hx.o) rfl ?_);refine(Eo T Hf.o Hu.o _ l i _ (H.o.up Hx.o) (HL.o.ext Hx.o) (by rw[Hnn.o];exact hlt) Hjb.o).mono ?_;rintro e w2 ⟨q,rfl,hx2⟩;cases q
   ·go_wp2_with fail;go_ret2;exact⟨_,_,rfl,X0.o.trans (Hx.o.trans hx2)⟩
   go_wp2_with fail;go_roundw;case rel=>exact⟨i+1,by omega,by go_num,Hx.o.trans hx2⟩
   (simp[intOf];omega)
  have hd_i:=GEl i n;go_wp2_with fail;go_ret2;exact⟨_,_,rfl,X0.o.trans Hx.o⟩
 have h0b:(!(x==0))=true:=by simp[h0]
 have h0c:(x !=0)=true:=h0b;have h0d:(x==0)=false:=by simp[h0]
 have h0H:=Y8 h0;clear h0;go_wp2_with fail;go_ret2;exact⟨_,_,rfl,X0.o.trans Hx1.o⟩
theorem Lo{S S':Nat→Prop}(T:Tbl)(hf:Few T)(hu:Uq T)(v:Value)(l:List Int)(w:World)(h:Xg w S T)(hl:Xw w S' v l)(hb:l.length≤100000):Calls prog 234 #[Vg T,v] w (Mn w):=by
 obtain⟨A,C,rfl,hlCC,hCC⟩:=hl.shape;obtain⟨n,hnn⟩:=gnX ((l).length);have Hnn:=Y8 hnn;have Hhl:=Y8 hl;unfold maxLen at hCC;rw[hnn]at hlCC⊢;clear hl hnn;obtain⟨X0,H,Hb0⟩:=tblX h;clear h;have HL:=intX Hhl Hnn X0;have Hf:=Y8 hf;have Hu:=Y8 hu;clear hf hu;have Hjb:=Y8 (show l.length≤100000 by first|exact hb|(rw[Hnn.o];exact hb));clear hb;go_enter func234,ntmps234;go_wp2_with (first|(refine Xv rfl ?_)|(refine Xy Hb0.o rfl ?_));refine(V0 T Hf.o Hu.o _ l _ H.o HL.o).mono ?_;rintro e w1 ⟨x,rfl,_,hx1⟩;have Hx1:=Y8 hx1;clear hx1;by_cases h0:x=0
 ·subst h0;go_wp2_with fail;go_loopw [16] (fun o wr=>∃ i:Nat,i≤n∧o=.int .i64 (i:Int)∧Ext (w.alloc (Wz T)) wr) (fun o _=>n-(intOf o).toNat);case atStart=>exact⟨0,by omega,rfl,Hx1.o⟩
  clear Hx1;obtain⟨i,hi_i,rfl,hx⟩:=hrel;have Hx:=Y8 hx;clear hx;by_cases hlt:i<n
  ·obtain⟨hd_i,i0_i,i1_i⟩:=LTl i n;go_wp2_with (refine Xy (Hb0.o.ext Hx.o) rfl ?_);refine(Bd T Hf.o Hu.o _ l i _ (H.o.up Hx.o) (HL.o.ext Hx.o) (by rw[Hnn.o];exact hlt) Hjb.o).mono ?_;rintro e w2 ⟨q,rfl,hx2⟩;cases q
   ·go_wp2_with fail;go_ret2;exact⟨_,_,rfl,X0.o.trans (Hx.o.trans hx2)⟩
   go_wp2_with fail;go_roundw;case rel=>exact⟨i+1,by omega,by go_num,Hx.o.trans hx2⟩
   (simp[intOf];omega)
  have hd_i:=GEl i n;go_wp2_with fail;go_ret2;exact⟨_,_,rfl,X0.o.trans Hx.o⟩
 have h0b:(!(x==0))=true:=by simp[h0]
 have h0c:(x !=0)=true:=h0b;have h0d:(x==0)=false:=by simp[h0]
 have h0H:=Y8 h0;clear h0;go_wp2_with fail;go_ret2;exact⟨_,_,rfl,X0.o.trans Hx1.o⟩
theorem Ke{S S':Nat→Prop}(T:Tbl)(hf:Few T)(hu:Uq T)(v:Value)(l:List Int)(w:World)(h:Xg w S T)(hl:Xw w S' v l)(hb:l.length≤100000):Calls prog 215 #[Vg T,v] w (Et w):=by
 obtain⟨A,C,rfl,hlCC,hCC⟩:=hl.shape;obtain⟨n,hnn⟩:=gnX ((l).length);have Hnn:=Y8 hnn;have Hhl:=Y8 hl;unfold maxLen at hCC;rw[hnn]at hlCC⊢;clear hl hnn;obtain⟨X0,H,Hb0⟩:=tblX h;clear h;have HL:=intX Hhl Hnn X0;have Hf:=Y8 hf;have Hu:=Y8 hu;clear hf hu;have Hjb:=Y8 (show l.length≤100000 by first|exact hb|(rw[Hnn.o];exact hb));clear hb;go_enter func215,ntmps215;go_wp2_with (first|(refine Xv rfl ?_)|(refine Xy Hb0.o rfl ?_));refine(V0 T Hf.o Hu.o _ l _ H.o HL.o).mono ?_;rintro e w1 ⟨x,rfl,_,hx1⟩;have Hx1:=Y8 hx1;clear hx1;by_cases h0:x=0
 ·subst h0;by_cases hn0:n=0
  ·have hn1:((n:Int)==0)=true:=by simp[hn0]
   have hn2:(n==0)=true:=by simp[hn0]
   go_wp2_with fail;go_ret;exact⟨_,rfl,X0.o.trans Hx1.o⟩
  have hn1:((n:Int)==0)=false:=by simp;omega
  have hn2:(n==0)=false:=by simp;omega
  have hlt:0<n:=by omega
  have i0:(0:Int)<(n:Int):=by omega
  clear hn0;go_wp2_with (refine Xy (Hb0.o.ext Hx1.o) rfl ?_);refine(Zr6 T Hf.o Hu.o _ l _ (H.o.up Hx1.o) (HL.o.ext Hx1.o)).mono ?_;rintro e w2 ⟨q2,rfl,hx2⟩;have Hx2:=Y8 (Hx1.o.trans hx2);clear hx2;cases q2
  ·go_wp2_with fail;go_ret;exact⟨_,rfl,X0.o.trans Hx2.o⟩
  go_wp2_with fail;refine(Zyj _ l _ (HL.o.ext Hx2.o)).mono ?_;rintro e w3 ⟨q3,rfl,hx3⟩;have Hx:=Y8 (Hx2.o.trans hx3);clear hx3 Hx1 Hx2;cases q3
  ·go_wp2_with fail;go_ret;exact⟨_,rfl,X0.o.trans Hx.o⟩
  obtain⟨c,hs_c⟩:=geX (l:=(l)) (i:=0) (by have:=Hnn.o;omega);obtain⟨g_c,o_c,c_c,hvv,_,_,_,hgl_c,a0_c⟩:=(HL.o.ext Hx.o).get hs_c;obtain⟨rfl,-,rfl⟩:=slcX hvv;clear hvv;have Hs_c:=Y8 hs_c;clear hs_c;rw[Zfu]at a0_c;have z0:(w3).cell? ⟨w.heap.size,0,none⟩=some T.catV:=(Hb0.o.ext Hx.o).at_ 0 (by omega);have z1:(w3).cell? ⟨w.heap.size,1,none⟩=some T.clsV:=(Hb0.o.ext Hx.o).at_ 1 (by omega);have z2:(w3).cell? ⟨w.heap.size,2,none⟩=some T.joiV:=(Hb0.o.ext Hx.o).at_ 2 (by omega);have z3:(w3).cell? ⟨w.heap.size,3,none⟩=some T.bidV:=(Hb0.o.ext Hx.o).at_ 3 (by omega);have z4:(w3).cell? ⟨w.heap.size,4,none⟩=some T.scrV:=(Hb0.o.ext Hx.o).at_ 4 (by omega);have z5:(w3).cell? ⟨w.heap.size,5,none⟩=some T.staV:=(Hb0.o.ext Hx.o).at_ 5 (by omega);have z6:(w3).cell? ⟨w.heap.size,6,none⟩=some T.ignV:=(Hb0.o.ext Hx.o).at_ 6 (by omega);have z7:(w3).cell? ⟨w.heap.size,7,none⟩=some T.extV:=(Hb0.o.ext Hx.o).at_ 7 (by omega);have z8:(w3).cell? ⟨w.heap.size,8,none⟩=some T.mapV:=(Hb0.o.ext Hx.o).at_ 8 (by omega);have z9:(w3).cell? ⟨w.heap.size,9,none⟩=some T.decV:=(Hb0.o.ext Hx.o).at_ 9 (by omega);have z10:(w3).cell? ⟨w.heap.size,10,none⟩=some T.excV:=(Hb0.o.ext Hx.o).at_ 10 (by omega);have z11:(w3).cell? ⟨w.heap.size,11,none⟩=some T.proV:=(Hb0.o.ext Hx.o).at_ 11 (by omega);go_wp2_with fail;go_cut [32] from 33 to 38 (fun o wx=>∃ q:Bool,o=.bool q∧Ext w3 wx)
  case first =>
   rename_i J1 K1 hJ hM;go_region_with (go_at_call 232;refine(Iw T _ _ (H.o.up (have hx:=Hx.o;xE))).mono ?_;rintro e w4 ⟨b,rfl,hx4⟩);all_goals
    go_simp;refine hM _ _ (hJ _ _ ?_);(repeat apply Exists.intro)
    exact⟨⟨_,rfl,by first|exact hx4|exact(Yk _).drew.trans hx4|exact((Yk _).drewN _).trans hx4⟩,rfl⟩
  obtain⟨q,rfl,hxb⟩:=hcut;have Hx4:=Y8 (Hx.o.trans hxb);clear z0 z1 z2 z3 z4 z5 z6 z7 z8 z9 z10 z11 a0_c hxb Hx;cases q
  rotate_left
  ·go_wp2_with fail;go_ret;exact⟨_,rfl,X0.o.trans Hx4.o⟩
  go_wp2_with fail;clear hlt i0;go_loopw [41] (fun o wr=>∃ i:Nat,i≤n∧o=.int .i64 (i:Int)∧Ext (w.alloc (Wz T)) wr) (fun o _=>n-(intOf o).toNat);case atStart=>exact⟨0,by omega,rfl,Hx4.o⟩
  clear Hx4;obtain⟨i,hi_i,rfl,hx⟩:=hrel;have Hx:=Y8 hx;clear hx;by_cases hlt:i<n
  ·obtain⟨hd_i,i0_i,i1_i⟩:=LTl i n;obtain⟨x,hs_x⟩:=geX (l:=(l)) (i:=i) (by have:=Hnn.o;omega);obtain⟨g_x,o_x,c_x,hvv,_,_,_,hgl_x,a0_x⟩:=(HL.o.ext Hx.o).get hs_x;simp only[Yd,Yc,Zga,Zg0,Zfw]at hvv;obtain⟨⟨rfl,rfl⟩,-,rfl⟩:=hvv;have Hs_x:=Y8 hs_x;clear hs_x;go_wp2_with (refine Xy (Hb0.o.ext Hx.o) rfl ?_);refine(Qc T _ _ (H.o.up Hx.o)).mono ?_;rintro e w5 ⟨rfl,hx5⟩;go_wp2_with fail;all_goals
    have hx:=Hx.o
    first
    | (go_roundw
       case rel=>exact⟨i+1,by omega,by go_num,xE⟩
       (simp[intOf];omega))
    | (go_ret;exact⟨_,rfl,X0.o.trans xE⟩)
  have hd_i:=GEl i n;go_wp2_with (refine Xy (Hb0.o.ext Hx.o) rfl ?_);refine(Np T Hf.o Hu.o _ l _ (H.o.up Hx.o) (HL.o.ext Hx.o) Hjb.o).mono ?_;rintro e w6 ⟨y,z,rfl,hx6⟩;have Hx6:=Y8 (Hx.o.trans hx6);clear hx6;by_cases hz0:z=0
  ·subst hz0;go_wp2_with (refine Xy (Hb0.o.ext Hx6.o) rfl ?_);refine(Lo T Hf.o Hu.o _ l _ (H.o.up Hx6.o) (HL.o.ext Hx6.o) Hjb.o).mono ?_;rintro e w7 ⟨y7,z7,rfl,hx7⟩;go_wp2_with fail;go_ret;exact⟨_,rfl,X0.o.trans (Hx6.o.trans hx7)⟩
  have hz0b:(!(z==0))=true:=by simp[hz0]
  have hz0c:(z !=0)=true:=hz0b;have hz0d:(z==0)=false:=by simp[hz0]
  have hz0H:=Y8 hz0;clear hz0;go_wp2_with fail;go_ret;exact⟨_,rfl,X0.o.trans Hx6.o⟩
 have h0b:(!(x==0))=true:=by simp[h0]
 have h0c:(x !=0)=true:=h0b;have h0d:(x==0)=false:=by simp[h0]
 have h0H:=Y8 h0;clear h0;go_wp2_with fail;go_ret;exact⟨_,rfl,X0.o.trans Hx1.o⟩
