/- Lemmas of this claim. Conditions: as named. -/
import Derived.Deep.LoopGhost
import Derived.Test.YtnbclgbicnpmnaaGreatA06
import Derived.Test.YtnbclgbicnpmnaaGreatA14
import Derived.Test.YtnbclgbicnpmnaaGreatA16
import Derived.Test.YtnbclgbicnpmnaaGreatA19
namespace Go.Proofs.YtnbclgbicnpmnaaGreat
open Go.RowKit Go.Sort
set_option maxHeartbeats 0
set_option maxRecDepth 100000
set_option linter.all false
def Uq(T:Tbl):Prop:=Af T
def Zot(T:Tbl)(w:World)(e:Ending)(w':World):Prop:=∃ n:Int,e=.returned (.int .i64 n)∧(n=0→Zrx T)∧Ext w w'
theorem check_any{S:Nat→Prop}(T:Tbl)(_:Few T)(hu:Uq T)(w:World)(h:Xi w S T):Calls Tryz.prog 75 #[Vr T] w (Zot T w) :=
 (Dy T hu w h).mono fun _ _ ⟨e,x⟩=>⟨0,e,fun _=>Af.fin hu,x⟩
def Zvp(T:Tbl)(l:List Int)(w:World)(e:Ending)(w':World):Prop:=∃ n:Int,e=.returned (.int .i64 n)∧(n=0→Zrx T∧l.length≤4096∧∀ c∈l,Zy9 c=true)∧Ext w w'
theorem Zv0{S S':Nat→Prop}(T:Tbl)(hf:Few T)(hu:Uq T)(v:Value)(l:List Int)(w:World)(h:Xi w S T)(hl:Xz w S' v l):Calls Tryz.prog 237 #[Vr T,v] w (Zvp T l w):=by
 obtain⟨A,C,rfl,hlCC,hCC⟩:=hl.shape;obtain⟨k,hnk⟩:=gnX ((l).length);have Hnk:=Ya hnk;have Hhl:=Ya hl;unfold maxLen at hCC;rw[hnk]at hlCC⊢;clear hl hnk;have X0:=Ya ((Yn w).alloc (Wx T));have H:=Ya (h.up X0.o);have Hb0:=Ya (Xn w T);clear h;have HL:=Ya (Hhl.o.ext X0.o);have Hf:=Ya hf;have Hu:=Ya hu;clear hf hu;go_enter Tryz.func237,Tryz.ntmps237;go_wp2_with (first|(refine Xx rfl ?_)|(refine Y4 Hb0.o rfl ?_));refine(check_any T Hf.o Hu.o _ H.o).mono ?_;rintro e w1 ⟨n,rfl,hfin,hx1⟩;have Hx1:=Ya hx1;clear hx1;by_cases h0:n=0
 ·subst h0;have HF:=Ya (hfin rfl);clear hfin;by_cases hbig:k≤4096
  ·have d1:decide ((4096:Int)<(k:Int))=false:=Yi (by omega);go_wp2_with fail;go_loopw [15] (fun o wr=>∃ i:Nat,i≤k∧o=.int .i64 (i:Int)∧(∀ c∈l.take i,Zy9 c=true)∧Ext (w.alloc (Wx T)) wr) (fun o _=>k-(intOf o).toNat);case atStart=>exact⟨0,by omega,rfl,by simp,Hx1.o⟩
   obtain⟨i,hi,rfl,ha,hx⟩:=hrel;have Hx:=Ya hx;have Ha:=Ya ha;clear hx ha Hx1;by_cases hlt:i<k
   ·obtain⟨hd_i,i0_i,i1_i⟩:=LTl i k (by omega);obtain⟨x,hs_x⟩:=geX (l:=(l)) (i:=i) (by have:=Hnk.o;omega);obtain⟨g_x,o_x,c_x,hvv,_,_,_,hgl_x,a0_x⟩:=(HL.o.ext Hx.o).get hs_x;simp only[Yg]at hvv;obtain⟨rfl,-,rfl⟩:=hvv;have Hs_x:=Ya hs_x;clear hs_x;cases hs:Zy9 x
    ·go_wp2_with (go_at_call 143;refine(Jc _ _).mono ?_;rintro e w' ⟨rfl,rfl⟩);go_ret;exact⟨3,rfl,fun h=>absurd h (by decide),X0.o.trans Hx.o⟩
    have Hsx:=Ya hs;go_wp2_with (go_at_call 143;refine(Jc _ _).mono ?_;rintro e w' ⟨rfl,rfl⟩);go_roundw;case rel =>
     refine⟨i+1,by omega,by go_num,?_,Hx.o⟩;rw[Wp Hs_x.o];intro c hc;rcases Zj.1 hc with h1|h1
     ·exact Ha.o c h1
     rw[Zi.1 h1];exact Hsx.o
    (simp[intOf];omega)
   have hd_i:=GEl i k (by omega);go_wp2_with fail;go_ret;refine⟨0,rfl,fun _=>⟨HF.o,by rw[Hnk.o];exact hbig,?_⟩,X0.o.trans Hx.o⟩;have:=Ha.o
   rwa [Zm (by rw[Hnk.o];omega)]at this
  have d1:decide ((4096:Int)<(k:Int))=true:=Yh (by omega);go_wp2_with fail;go_ret;exact⟨7,rfl,fun h=>absurd h (by decide),X0.o.trans Hx1.o⟩
 have h0b:(!(n==0))=true:=by simp[h0]
 have h0c:(n !=0)=true:=h0b;clear h0 hfin;go_wp2_with fail;go_ret;exact⟨2,rfl,fun h=>absurd h (by decide),X0.o.trans Hx1.o⟩
theorem Vg{S S':Nat→Prop}(T:Tbl)(hf:Few T)(hu:Uq T)(v:Value)(l:List Int)(w:World)(h:Xi w S T)(hl:Xz w S' v l):Calls Tryz.prog 217 #[Vr T,v] w (Zvp T l w):=by
 obtain⟨A,C,rfl,hlCC,hCC⟩:=hl.shape;obtain⟨k,hnk⟩:=gnX ((l).length);have Hnk:=Ya hnk;have Hhl:=Ya hl;unfold maxLen at hCC;rw[hnk]at hlCC⊢;clear hl hnk;have X0:=Ya ((Yn w).alloc (Wx T));have H:=Ya (h.up X0.o);have Hb0:=Ya (Xn w T);clear h;have HL:=Ya (show Xz (w.alloc (Wx T)) S' (.slice A k C) l by have:=Hhl.o.ext X0.o;rwa [Hnk.o]at this);have Hf:=Ya hf;have Hu:=Ya hu;clear hf hu;go_enter Tryz.func217,Tryz.ntmps217;go_wp2_with (first|(refine Xx rfl ?_)|(refine Y4 Hb0.o rfl ?_));refine(Zv0 T Hf.o Hu.o _ l _ H.o HL.o).mono ?_;rintro e w1 ⟨n,rfl,hfin,hx1⟩;go_wp2_with fail;go_ret;exact⟨n,rfl,hfin,X0.o.trans hx1⟩
theorem Wn{ops:Array Oper}{rest:List Oper}{dst:Option Nat}{x:Operand}{t:TypeId}{pos:String}{af:Array Edge}{gd:Option (Nat×Bool)}{a:Act}{w:World}{Q:Exit→Act→World→Prop}{b:Nat}{T:Tbl}(h:Ja w b T)
 (hw:Region.wanted {dst:=dst,op:=.load 34 x,type:=t,pos:=pos,after:=af,guard:=gd} (yielded ops a.tmps)=true) (hx:a.eval x=.pointer (some ⟨b,0,none⟩)) (hK:wpList Tryz.prog ops Q rest (a.put dst (Vr T)) w) :
 wpList Tryz.prog ops Q ({dst:=dst,op:=.load 34 x,type:=t,pos:=pos,after:=af,guard:=gd}::rest) a w:=by
 have hu:=M9;rw[Zl9]at hu;obtain⟨d,hu,hd⟩:=hu;show if _ then _ else _
 rw[Zlg hw];exact .inl (Zhd _ x rfl b 0 hx (Qs T) d h.range hu hd (by rw[Gn];rfl) hK)
def hcO(a b:Int):Option Int :=
 if Aa a=1∧Aa b=2 then some (wrap64 (44032+wrap64 (wrap64 (wrap64 (wrap64 (21*wrap64 (a-4352))+b)-4449)*28)))
 else if Aa a=4∧Aa b=3 then some (wrap64 (wrap64 (a+b)-4519))
 else none
def Zp1:Option Int→Value
 | some c=>.tuple #[.int .i64 c,.bool true]
 | none=>.tuple #[.int .i64 0,.bool false]
theorem Zpf(a b:Int)(w:World):Calls Tryz.prog 249 #[.int .i64 a,.int .i64 b] w fun e w'=>e=.returned (Zp1 (hcO a b))∧w=w':=by
 cases h1:(Aa a==1)
 ·cases h3:(Aa a==4)
  ·have Hc:=Ya (show hcO a b=none by simp at h1 h3;unfold hcO;rw[Zlk (fun h=>h1 h.1),Zlk (fun h=>h3 h.1)]);go_enter Tryz.func249,Tryz.ntmps249;go_wp2_with (go_at_call 262;refine(Ev _ _).mono ?_;rintro e w' ⟨rfl,rfl⟩);go_ret2;exact⟨by rw[Hc.o];rfl,rfl⟩
  cases h4:(Aa b==3)
  ·have Hc:=Ya (show hcO a b=none by simp at h1 h4;unfold hcO;rw[Zlk (fun h=>h1 h.1),Zlk (fun h=>h4 h.2)]);go_enter Tryz.func249,Tryz.ntmps249;go_wp2_with (go_at_call 262;refine(Ev _ _).mono ?_;rintro e w' ⟨rfl,rfl⟩);go_ret2;exact⟨by rw[Hc.o];rfl,rfl⟩
  have Hc:=Ya (show hcO a b=some (wrap64 (wrap64 (a+b)-4519)) by simp at h1 h3 h4;unfold hcO;rw[Zlk (fun h=>h1 h.1),Zlg ⟨h3,h4⟩]);go_enter Tryz.func249,Tryz.ntmps249;go_wp2_with (go_at_call 262;refine(Ev _ _).mono ?_;rintro e w' ⟨rfl,rfl⟩);go_ret2;exact⟨by rw[Hc.o];rfl,rfl⟩
 cases h2:(Aa b==2)
 ·cases h3:(Aa a==4)
  ·have Hc:=Ya (show hcO a b=none by simp at h2 h3;unfold hcO;rw[Zlk (fun h=>h2 h.2),Zlk (fun h=>h3 h.1)]);go_enter Tryz.func249,Tryz.ntmps249;go_wp2_with (go_at_call 262;refine(Ev _ _).mono ?_;rintro e w' ⟨rfl,rfl⟩);go_ret2;exact⟨by rw[Hc.o];rfl,rfl⟩
  simp at h1 h3;omega
 have Hc:=Ya (show hcO a b=some (wrap64 (44032+wrap64 (wrap64 (wrap64 (wrap64 (21*wrap64 (a-4352))+b)-4449)*28))) by simp at h1 h2;unfold hcO;rw[Zlg ⟨h1,h2⟩]);go_enter Tryz.func249,Tryz.ntmps249;go_wp2_with (go_at_call 262;refine(Ev _ _).mono ?_;rintro e w' ⟨rfl,rfl⟩);go_ret2;exact⟨by rw[Hc.o];rfl,rfl⟩
def Zzp(T:Tbl)(a b:Int):List Mp→Option Int
 | []=>none
 | m::r=>if m.to_=[a,b]∧Gh T m.fr=true then some m.fr else Zzp T a b r
def Eo(T:Tbl)(a b:Int):Option Int:=(hcO a b).or (Zzp T a b T.dec)
theorem Fk{T:Tbl}{a b:Int}{m:Mp}{r:List Mp}(h:¬ (m.to_=[a,b]∧Gh T m.fr=true)):Zzp T a b (m::r)=Zzp T a b r:=by rw[Zzp,Zlk h]
theorem Qk{S:Nat→Prop}(T:Tbl)(hfin:Zrx T)(hf:Few T)(a b:Int)(w:World)(h:Xi w S T):Calls Tryz.prog 227 #[Vr T,.int .i64 a,.int .i64 b] w fun e w'=>e=.returned (Zp1 (Eo T a b))∧Ext w w':=by
 obtain⟨A9,C9,e9,hl9,hc9⟩:=h.dec.shape;have h9:=h.dec.ext ((Yn w).alloc (Wx T));obtain⟨n9,hn9⟩:=gnX (T.dec.length);rw[hn9]at e9 hl9;rw[e9]at h9;have Hn9:=Ya hn9;have E9:=Ya e9;have H9:=Ya h9;unfold maxLen at hc9;clear hn9 e9 h9;have X0:=Ya ((Yn w).alloc (Wx T));have H:=Ya (h.up X0.o);have Hb0:=Ya (Xn w T);clear h;have Hf:=Ya hf;have HF:=Ya hfin;clear hf hfin;go_enter Tryz.func227,Tryz.ntmps227;cases hc:hcO a b with
 | some c =>
  have Hc:=Ya hc;have e1:Zp1 (hcO a b)=.tuple #[.int .i64 c,.bool true]:=by rw[hc];rfl
  go_wp2_with (first|(refine Xx rfl ?_)|(go_at_call 249;refine(Zpf _ _ _).mono ?_;rintro e w' ⟨rfl,rfl⟩;rw[e1]));go_ret2;exact⟨by rw[show Eo T a b=some c by unfold Eo;rw[Hc.o];rfl];rfl,X0.o⟩
 | none =>
  have Hc:=Ya hc;have e1:Zp1 (hcO a b)=.tuple #[.int .i64 0,.bool false]:=by rw[hc];rfl
  clear hc;have Hx0:=Ya (Yn (w.alloc (Wx T)));have b9:=(Hb0.o.ext Hx0.o).at_ 9 (by omega);rw[show(Qs T)[9]?=some T.decV from rfl,E9.o]at b9;go_wp2_with (first|(refine Xx rfl ?_)|(go_at_call 249;refine(Zpf _ _ _).mono ?_;rintro e w' ⟨rfl,rfl⟩;rw[e1]));clear b9;go_loopw [23] (fun o wr=>∃ i:Nat,i≤n9∧o=.int .i64 (i:Int)∧Eo T a b=Zzp T a b (T.dec.drop i)∧Ext (w.alloc (Wx T)) wr) (fun o _=>n9-(intOf o).toNat);case atStart=>exact⟨0,by omega,rfl,by unfold Eo;rw[Hc.o];rfl,Hx0.o⟩
  clear Hx0;obtain⟨i,hi,rfl,hp,hx⟩:=hrel;have Hx:=Ya hx;have Hp:=Ya hp;clear hx hp;by_cases hlt:i<n9
  ·obtain⟨hd_i,i0_i,i1_i⟩:=LTl i n9 (by omega);obtain⟨m,hs_m⟩:=geX (l:=(T.dec)) (i:=i) (by have:=Hn9.o;omega);obtain⟨g_m,o_m,c_m,hvv,_,_,_,hgl_m,a0_m,a1_m,_⟩:=(H9.o.ext Hx.o).get hs_m;simp only[Yg]at hvv;obtain⟨rfl,-,rfl⟩:=hvv;have ti_m:=H9.o.2 _ (Zy hs_m);obtain⟨A_m,C_m,tv_m,tl_m,tc_m⟩:=ti_m.shape;obtain⟨n_m,hn_m⟩:=gnX (m.to_.length);rw[tv_m]at a1_m ti_m;rw[hn_m]at a1_m tl_m;have Hn_m:=Ya hn_m;unfold maxLen at tc_m;have Hs_m:=Ya hs_m;have Ti_m:=Ya ti_m;clear hs_m ti_m tv_m hn_m;have hbl:=(Hb0.o.ext Hx.o).lt;have Hd:=Ya (show T.dec.drop i=m::T.dec.drop (i+1) from drop_at Hs_m.o);by_cases h2:n_m=2
   ·subst h2;obtain⟨x,y,exy⟩:∃ x y,m.to_=[x,y]:=by
     have h2:=Hn_m.o
     match hh:m.to_ with
     | [x,y]=>exact⟨x,y,rfl⟩
     | []=>rw[hh]at h2;simp at h2
     | [_]=>rw[hh]at h2;simp at h2
     | _::_::_::_=>rw[hh]at h2;simp at h2
    have t:=Ti_m.o;rw[exy]at t;have Hxy:=Ya exy;clear exy;obtain⟨gg,oo,cc,hv0,_,_,_,_,u⟩:=(t.ext (Hx.o.alloc (.cells #[.int .i64 m.fr,.slice A_m 2 C_m] 106))).get (j:=0) rfl;obtain⟨gg',oo',cc',hv1,_,_,_,_,v⟩:=(t.ext (Hx.o.alloc (.cells #[.int .i64 m.fr,.slice A_m 2 C_m] 106))).get (j:=1) rfl;rw[hv0]at hv1;simp only[Yg,Yf,Zld,Zl2,Zks]at hv1;obtain⟨⟨rfl,rfl⟩,rfl⟩:=hv1;simp only[Yg]at hv0;obtain⟨rfl,-,rfl⟩:=hv0;rw[Zko]at u;clear t;cases q1:(x==a)
    ·have Hno:=Ya (show ¬ (m.to_=[a,b]∧Gh T m.fr=true) by rw[Hxy.o];simp at q1⊢;exact fun h=>absurd h q1);go_wp2_with fail;go_roundw;case rel=>exact⟨i+1,by omega,by go_num,by rw[Hp.o,Hd.o,Fk Hno.o],Hx.o.alloc _⟩
     (simp[intOf];omega)
    cases q2:(y==b)
    ·have Hno:=Ya (show ¬ (m.to_=[a,b]∧Gh T m.fr=true) by rw[Hxy.o];simp at q2⊢;exact fun _ h=>absurd h q2);go_wp2_with fail;go_roundw;case rel=>exact⟨i+1,by omega,by go_num,by rw[Hp.o,Hd.o,Fk Hno.o],Hx.o.alloc _⟩
     (simp[intOf];omega)
    have Hyes:=Ya (show m.to_=[a,b] by rw[Hxy.o];simp at q1 q2;rw[q1,q2]);cases q3:Gh T m.fr
    ·have Hno:=Ya (show ¬ (m.to_=[a,b]∧Gh T m.fr=true) by rw[q3];simp);go_wp2_with (first|(refine Wn (Hb0.o.ext (Hx.o.alloc _)) (by go_simp) rfl ?_)|(go_at_call 112;refine(Kr T HF.o Hf.o _ _ (H.o.up (Hx.o.alloc _))).mono ?_;rintro e w5 ⟨rfl,hx5⟩));go_roundw;case rel=>exact⟨i+1,by omega,by go_num,by rw[Hp.o,Hd.o,Fk Hno.o],(Hx.o.alloc _).trans hx5⟩
     (simp[intOf];omega)
    have Hy:=Ya q3;go_wp2_with (first|(refine Wn (Hb0.o.ext (Hx.o.alloc _)) (by go_simp) rfl ?_)|(go_at_call 112;refine(Kr T HF.o Hf.o _ _ (H.o.up (Hx.o.alloc _))).mono ?_;rintro e w5 ⟨rfl,hx5⟩;have hc5:=fun k=>hx5.cell (p:=⟨wr.heap.size,k,none⟩) (by simp)));go_ret2;exact⟨by rw[Hp.o,Hd.o,Zzp,Zlg ⟨Hyes.o,Hy.o⟩];rfl,X0.o.trans ((Hx.o.alloc _).trans hx5)⟩
   have h2b:((n_m:Int)==2)=false:=by simp;omega
   have h2c:(n_m==2)=false:=by simp;omega
   have Hno:=Ya (show ¬ (m.to_=[a,b]∧Gh T m.fr=true) from fun h=>h2 (by rw[← Hn_m.o,h.1];rfl));clear h2;go_wp2_with fail;go_roundw;case rel=>exact⟨i+1,by omega,by go_num,by rw[Hp.o,Hd.o,Fk Hno.o],Hx.o.alloc _⟩
   (simp[intOf];omega)
  have hd_i:=GEl i n9 (by omega);go_wp2_with fail;go_ret2;refine⟨?_,X0.o.trans Hx.o⟩;rw[Hp.o,Zk4 (by rw[Hn9.o];omega)];rfl
def Zoe(T:Tbl)(l:List Int)(w:World)(e:Ending)(w':World):Prop:=∃ v,e=.returned v∧RdE Wh w' (fun k=>w.heap.size≤k) v (Br (Wk T.cls) l)∧Ext w w'
theorem Zzq{S S':Nat→Prop}(T:Tbl)(v:Value)(l:List Int)(w:World)(h:Xi w S T)(hl:Xz w S' v l)(hll:l.length≤100000):Calls Tryz.prog 248 #[Vr T,v] w (Zoe T l w):=by
 obtain⟨A,C,rfl,hlCC,hCC⟩:=hl.shape;obtain⟨n,hnn⟩:=gnX ((l).length);have Hnn:=Ya hnn;have Hhl:=Ya hl;unfold maxLen at hCC;rw[hnn]at hlCC⊢;clear hl hnn;rw[Hnn.o]at hll;have X0:=Ya ((Yn w).alloc (Wx T));have H:=Ya (h.up X0.o);have Hb0:=Ya (Xn w T);clear h;have HL:=Ya (show Xz (w.alloc (Wx T)) S' (.slice A n C) l by have:=Hhl.o.ext X0.o;rwa [Hnn.o]at this);obtain⟨B,hB⟩:=gnX ((w.alloc (Wx T)).heap.size);have HB:=Ya hB;clear hB;go_enter Tryz.func248,Tryz.ntmps248;go_wp2_with (first|(refine Xx rfl ?_)|(at_builtin;refine Xu Wh _ _ _ rfl rfl rfl rfl (Own.nil Wh _ B) rfl HL.o (by rw[Hnn.o];simp;omega) (by show 8≤1000;omega) (by have:=HB.o;omega) ?_;intro A1 n1 c1 w1 hg;have Hg:=Ya hg;clear hg));have Hx1:=Ya (Hg.o.ext (w.alloc (Wx T)) (Yn _) (by rw[HB.o];exact Yp _));have hn1:n1=n:=by rw[Hg.o.len,Zo,Hnn.o]
 subst hn1;have Ho1:=Ya (show Own Wh w1 B (.slice A1 n1 c1) l by have:=Hg.o.own;rwa [Zo]at this);clear Hg;go_loopg [6] (Pc (Wk T.cls) l+1) (fun gk mv wr=>∃ (b:Bool) (cur:List Int),mv=.bool b∧Own Wh wr B (.slice A1 n1 c1) cur∧cur.length=n1∧Ext (w.alloc (Wx T)) wr∧((b=true∧Br (Wk T.cls) cur=Br (Wk T.cls) l∧gk=Pc (Wk T.cls) cur+1)∨(b=false∧cur=Br (Wk T.cls) l∧gk=0)));case atStart=>exact⟨true,l,rfl,Ho1.o,Hnn.o,Hx1.o,.inl ⟨rfl,rfl,rfl⟩⟩
 clear Ho1 Hx1;obtain⟨b,cur,rfl,ho,hcn,hx,hst⟩:=hrel;have Hx:=Ya hx;have Ho:=Ya ho;have Hcn:=Ya hcn;clear hx ho hcn;rcases hst with⟨rfl,heq,hgk⟩ | ⟨rfl,heq,rfl⟩
 ·have Heq:=Ya heq;have Hgk:=Ya hgk;clear heq hgk;rename World=>wo
  go_wp2_with fail;go_loopw [7,6] (fun o mv wr=>∃ (k:Nat) (b:Bool),k≤n1-1∧o=.int .i64 ((k+1:Nat):Int)∧mv=.bool b∧Own Wh wr B (.slice A1 n1 c1) (Zy1 (Wk T.cls) cur k)∧(b=false→Zy1 (Wk T.cls) cur k=cur)∧(b=true→Pc (Wk T.cls) (Zy1 (Wk T.cls) cur k)<Pc (Wk T.cls) cur)∧Ext (w.alloc (Wx T)) wr) (fun o _ _=>n1+1-(intOf o).toNat);case atStart=>exact⟨0,false,by omega,rfl,rfl,Ho.o,fun _=>rfl,fun h=>absurd h (by decide),Hx.o⟩
  clear Ho Hx;obtain⟨k,b,hk,rfl,rfl,ho,hf,ht,hx⟩:=hrel;obtain⟨p,hp⟩:=gnX (Zy1 (Wk T.cls) cur k);rw[hp]at ho hf ht;have hpl:p.length=n1:=by rw[← hp,P9,Hcn.o]
  have Hx:=Ya hx;have Ho:=Ya ho;have Hf:=Ya hf;have Ht:=Ya ht;have Hp:=Ya hp;have Hpl:=Ya hpl;clear hx ho hf ht hp hpl;by_cases hlt:k+1<n1
  ·have hd:decide (((k+1:Nat):Int)<(n1:Int))=true:=Yh (by omega);have hd2:decide ((k:Int)+1<(n1:Int))=true:=Yh (by omega);obtain⟨g,c,e,hg1,hg2,hg3,hg4⟩:=Ho.o.some_ (by rw[Hpl.o];omega);simp only[Yg]at e;obtain⟨rfl,-,rfl⟩:=e;rw[Hpl.o]at hg3;unfold maxLen at hg4;obtain⟨x,hx0⟩:=geX (l:=p) (i:=k) (by rw[Hpl.o];omega);obtain⟨y,hy0⟩:=geX (l:=p) (i:=k+1) (by rw[Hpl.o];omega);have Hx0:=Ya hx0;have Hy0:=Ya hy0;have m0:=lat (Ho.o.at_ (ints_at hx0));have m1:=lat (Ho.o.at_ (ints_at hy0));clear hx0 hy0;have HW:=Ya (H.o.up Hx.o);have hC:∀ w',(∃ p:Wf,w'=later wr p.n p.os)→Ja w' w.heap.size T:=fun w' ⟨p,e⟩=>by rw[e];exact(Hb0.o.ext Hx.o).ext (⟨_,_,rfl⟩)
   have e1:(((k+1:Nat):Int)-1)=(k:Int):=by omega
   have q1:IntKind.i64.wrap (((k+1:Nat):Int)-1)=(k:Int):=by rw[Yr _ (by omega)];omega
   have q2:IntKind.i64.wrap ((k:Int)+1-1)=(k:Int):=by rw[Yr _ (by omega)];omega
   have q8:IntKind.i64.wrap (k:Int)=(k:Int):=Yr _ (by omega);have q3:(0:Int)≤(k:Int):=by omega
   have q4:(k:Int)<(n1:Int):=by omega
   have q5:(0:Int)≤(k:Int)+1:=by omega
   have q6:(k:Int)+1<(n1:Int):=by omega
   have q7:k<n1:=by omega
   have hun:=Yd;go_wp2_with fail;refine Y0 (by kernel_rfl) (by kernel_rfl) ?_;repeat(first|((with_reducible refine Xh ?_ ?_ hC ?_);(focus(go_simp;done));rfl)|((with_reducible refine Yw ?_);intro K hK;go_simp;first|((with_reducible refine hK _ ?_);clear hK K)|(apply Exists.intro;refine⟨fun _=>?_,hK _ ?_⟩;(go_at_call 148;exact Y8 (Xr T _ _ (HW.o.up (⟨_,_,rfl⟩))));clear hK K)))
   (with_reducible refine Yv ?_)
   intro w2 hy;clear hun;try simp only[Ye]
   have Hx2:=Ya (Hx.o.trans hy);have Ho2:=Ya (Ho.o.ext hy);clear hy m0 m1 HW hC;have c0:=Ho2.o.at_ (ints_at Hx0.o);have c1:=Ho2.o.at_ (ints_at Hy0.o);have t0:=Ho2.o.thaw k;have t1:=Ho2.o.thaw (k+1);have hgb:=Ho2.o.blk.2;have q9:IntKind.i64.wrap ((k:Int)+1+1)=((k+1+1:Nat):Int):=by rw[Yr _ (by omega)];omega
   by_cases hsw:0<Wk T.cls y∧Wk T.cls y<Wk T.cls x
   ·have d1:decide (0<Wk T.cls y)=true:=Yh hsw.1;have d2:decide (Wk T.cls y<Wk T.cls x)=true:=Yh hsw.2;have Hsw:=Ya hsw;clear hsw;have Ho3:=Ya ((Ho2.o.put rfl (i:=k) (by rw[Hpl.o];omega) y (u:=.int .i64 y) rfl).put rfl (i:=k+1) (by rw[Zf,Hpl.o];omega) x (u:=.int .i64 x) rfl);have Hsame:=Ya (show Zy1 (Wk T.cls) cur (k+1)=(p.set k y).set (k+1) x by rw[Zy1,Hp.o];exact Zsf (by rw[Zka];exact Hx0.o) Hy0.o Hsw.o);have Hlt:=Ya (show Pc (Wk T.cls) (Zy1 (Wk T.cls) cur (k+1))<Pc (Wk T.cls) cur by
     rw[Zy1,Hp.o];have h1:=Zm7 (f:=Wk T.cls) Hx0.o Hy0.o Hsw.o;cases b with
     | true=>have:=Ht.o rfl;omega
     | false=>rw[Hf.o rfl]at h1⊢;exact h1)
    go_wp2_with fail;go_region;all_goals
     go_wp2_with fail;go_roundw;case rel=>exact⟨k+1,true,by omega,by go_num,rfl,by rw[Hsame.o];exact Ho3.o,fun h=>absurd h (by decide),fun _=>Hlt.o,(Yc (Yc Hx2.o (by have:=HB.o;show _≤g;omega) _) (by have:=HB.o;show _≤g;omega) _).drew⟩
     (simp[intOf];omega)
   have Hsw:=Ya hsw;have Hsame:=Ya (show Zy1 (Wk T.cls) cur (k+1)=p by rw[Zy1,Hp.o];exact Zm8 (by rw[Zka];exact Hx0.o) Hy0.o hsw);by_cases d0:0<Wk T.cls y
   ·have d1:decide (0<Wk T.cls y)=true:=Yh d0;have d2:decide (Wk T.cls y<Wk T.cls x)=false:=Yi fun h=>hsw ⟨d0,h⟩
    clear hsw d0;go_wp2_with fail;go_roundw;case rel=>exact⟨k+1,b,by omega,by go_num,rfl,by rw[Hsame.o];exact Ho2.o,by rw[Hsame.o];exact Hf.o,by rw[Hsame.o];exact Ht.o,Hx2.o⟩
    (simp[intOf];omega)
   have d1:decide (0<Wk T.cls y)=false:=Yi d0;clear hsw d0;go_wp2_with fail;go_roundw;case rel=>exact⟨k+1,b,by omega,by go_num,rfl,by rw[Hsame.o];exact Ho2.o,by rw[Hsame.o];exact Hf.o,by rw[Hsame.o];exact Ht.o,Hx2.o⟩
   (simp[intOf];omega)
  have hd:decide (((k+1:Nat):Int)<(n1:Int))=false:=Yi (by omega);have hd2:decide ((k:Int)+1<(n1:Int))=false:=Yi (by omega);have hk2:k=cur.length-1:=by rw[Hcn.o];omega
  have Hk2:=Ya (show p=Zwl (Wk T.cls) cur by rw[← Hp.o,hk2];rfl);clear hk2;go_wp2_with fail;cases b with
  | true =>
   go_roundg (Pc (Wk T.cls) p+1)
   case measure=>have:=Ht.o rfl;have:=Hgk.o;omega
   case rel=>
    refine⟨true,p,rfl,Ho.o,Hpl.o,Hx.o,.inl ⟨rfl,?_,rfl⟩⟩;rw[← Heq.o,Zq0 (f:=Wk T.cls) (l:=cur) (by rw[← Hk2.o];exact Ht.o rfl),← Hk2.o]
  | false =>
   go_roundg 0
   case measure=>have:=Hgk.o;omega
   case rel=>
    refine⟨false,p,rfl,Ho.o,Hpl.o,Hx.o,.inr ⟨rfl,?_,rfl⟩⟩;have h1:=Hf.o rfl;rw[← Heq.o,Ztg (f:=Wk T.cls) (l:=cur) (by rw[← Hk2.o];exact h1)];exact h1
 have Heq:=Ya heq;clear heq;go_wp2_with fail;go_ret;refine⟨_,rfl,?_,X0.o.trans Hx.o⟩;rw[← Heq.o];have:=Ho.o.rd;rw[← Hcn.o]at this⊢;exact Rd.mono this fun k hk _=>Zlh (by have:=X0.o.size;have:=HB.o;omega) hk
def Zlo(T:Tbl)(l:List Int):List Int:=Br (Wk T.cls) (l.flatMap (Cq T))
theorem Zr8(T:Tbl)(l:List Int):(l.flatMap (Cq T)).length≤l.length*18:=by
 induction l with
 | nil=>simp
 | cons c r ih=>rw[Zj6,Zs,Zl];have:=Zyo T c;omega
def Zof(T:Tbl)(l:List Int)(w:World)(e:Ending)(w':World):Prop:=∃ (v:Value) (r:List Int) (x:Int),e=.returned (.tuple #[v,.int .i64 x])∧RdE Wh w' (fun k=>w.heap.size≤k) v r∧r.length≤4096∧(x=0→r=Zlo T l∧Zrx T)∧Ext w w'
theorem Zzs{S S':Nat→Prop}(T:Tbl)(hf:Few T)(hu:Uq T)(v:Value)(l:List Int)(w:World)(h:Xi w S T)(hl:Xz w S' v l):Calls Tryz.prog 226 #[Vr T,v] w (Zof T l w):=by
 obtain⟨A,C,rfl,hlCC,hCC⟩:=hl.shape;obtain⟨n,hnn⟩:=gnX ((l).length);have Hnn:=Ya hnn;have Hhl:=Ya hl;unfold maxLen at hCC;rw[hnn]at hlCC⊢;clear hl hnn;have X0:=Ya ((Yn w).alloc (Wx T));have H:=Ya (h.up X0.o);have Hb0:=Ya (Xn w T);clear h;have HL:=Ya (show Xz (w.alloc (Wx T)) S' (.slice A n C) l by have:=Hhl.o.ext X0.o;rwa [Hnn.o]at this);have Hf:=Ya hf;have Hu:=Ya hu;obtain⟨B,hB⟩:=gnX ((w.alloc (Wx T)).heap.size);have HB:=Ya hB;clear hf hu hB;go_enter Tryz.func226,Tryz.ntmps226;go_wp2_with (first|(refine Xx rfl ?_)|(refine Y4 Hb0.o rfl ?_));refine(Zv0 T Hf.o Hu.o _ l _ H.o HL.o).mono ?_;rintro e w1 ⟨x,rfl,hacc,hx1⟩;have Hx1:=Ya hx1;clear hx1;by_cases h0:x=0
 ·subst h0;obtain⟨hfin,hl4,_⟩:=hacc rfl;rw[Hnn.o]at hl4;have HF:=Ya hfin;clear hfin hacc;go_wp2_with fail;go_loopw [18,7] (fun o u wr=>∃ i:Nat,i≤n∧o=.int .i64 (i:Int)∧Own Wh wr B u ((l.take i).flatMap (Cq T))∧Ext (w.alloc (Wx T)) wr) (fun o _ _=>n-(intOf o).toNat);case atStart=>exact⟨0,by omega,rfl,Own.nil _ _ _,Hx1.o⟩
  clear Hx1;obtain⟨i,hi,rfl,ho,hx⟩:=hrel;obtain⟨p,hp⟩:=gnX ((l.take i).flatMap (Cq T));rw[hp]at ho;have hpl:p.length≤i*18:=by rw[← hp];exact Zlh (Zr8 T _) (Zl4 _ (by rw[Zp];omega))
  have hi18:i*18≤4096*18:=Zl4 _ (by omega);obtain⟨A2,C2,rfl,hlC2,hC2⟩:=ho.shape;obtain⟨m,hm⟩:=gnX (p.length);have hoI:Own Wh wr B (.slice A2 m C2) p:=by rw[← hm];exact ho
  rw[hm]at hlC2 hpl⊢;have Hx:=Ya hx;have Ho:=Ya hoI;have Hm:=Ya hm;have Hp:=Ya hp;have hBw:B≤wr.heap.size:=by rw[← HB.o];exact hx.size
  unfold maxLen at hC2;clear hx ho hoI hm hp;by_cases hlt:i<n
  ·obtain⟨hd_i,i0_i,i1_i⟩:=LTl i n (by omega);obtain⟨c,hs_c⟩:=geX (l:=(l)) (i:=i) (by have:=Hnn.o;omega);obtain⟨g_c,o_c,c_c,hvv,_,_,_,hgl_c,a0_c⟩:=(HL.o.ext Hx.o).get hs_c;simp only[Yg]at hvv;obtain⟨rfl,-,rfl⟩:=hvv;have Hs_c:=Ya hs_c;clear hs_c;have hel:=Zyo T c;go_wp2_with (refine Y4 (Hb0.o.ext Hx.o) rfl ?_);refine(Zx1 T Hf.o c _ (H.o.up Hx.o)).mono ?_;rintro e w2 ⟨u,rfl,hu2,hx2⟩;obtain⟨A3,C3,rfl,_,_⟩:=hu2.shape;obtain⟨k,hk⟩:=gnX ((Cq T c).length);have Hu2:=Ya (show RdE Wh w2 (fun j=>wr.heap.size≤j) (.slice A3 k C3) (Cq T c) by rw[← hk];exact hu2);rw[hk]at hel⊢;have Hk:=Ya hk;have Hx2:=Ya hx2;clear hk hu2 hx2;go_wp2_with (at_builtin;refine Xu Wh _ _ _ rfl rfl rfl rfl (Ho.o.ext Hx2.o) rfl Hu2.o (by rw[Hm.o,Hk.o];omega) (by show 8≤1000;omega) (Zlh hBw Hx2.o.size) ?_;intro A5 n5 c5 w5 hg5;have Hx5:=Ya (hg5.ext (w.alloc (Wx T)) (Hx.o.trans Hx2.o) (by rw[HB.o];exact Yp _));have Hg5:=Ya hg5;clear hg5);go_roundw;case rel =>
    refine⟨i+1,by omega,by go_num,?_,Hx5.o⟩;rw[Wp Hs_c.o,List.flatMap_append,Hp.o,Zj6,List.flatMap_nil,Zis];exact Hg5.o.own
   (simp[intOf];omega)
  have hd_i:=GEl i n (by omega);have hpe:p=l.flatMap (Cq T):=by rw[← Hp.o,Zm (by rw[Hnn.o];omega)]
  have Hpe:=Ya hpe;clear hpe;by_cases hbig:4096<m
  ·have d1:decide ((4096:Int)<(m:Int))=true:=Yh (by omega);go_wp2_with fail;go_ret2;exact⟨_,[],7,rfl,Xz.nil _ _,Zl1 _,fun h=>absurd h (by decide),X0.o.trans Hx.o⟩
  have d1:decide ((4096:Int)<(m:Int))=false:=Yi (by omega);go_wp2_with (refine Y4 (Hb0.o.ext Hx.o) rfl ?_);refine(Zzq T _ p _ (H.o.up Hx.o) (show Xz wr _ (.slice A2 m C2) p by have:=Ho.o.rd;rw[← Hm.o]at this⊢;exact this) (by rw[Hm.o];omega)).mono ?_;rintro e w2 ⟨u,rfl,hu2,hx2⟩;go_wp2_with fail;go_ret2;refine⟨u,_,0,rfl,Rd.mono hu2 fun k hk _=>Zlh (X0.o.trans Hx.o).size hk,by rw[Ztf,Hm.o];omega,fun _=>⟨by rw[Hpe.o];rfl,HF.o⟩,X0.o.trans (Hx.o.trans hx2)⟩
 have d2:(!(x==0))=true:=by simp[h0]
 have d3:(x !=0)=true:=d2;have H0:=Ya h0;clear h0 hacc;go_wp2_with fail;go_ret2;exact⟨_,[],x,rfl,Xz.nil _ _,Zl1 _,fun h=>absurd h H0.o,X0.o.trans Hx1.o⟩
end Go.Proofs.YtnbclgbicnpmnaaGreat
