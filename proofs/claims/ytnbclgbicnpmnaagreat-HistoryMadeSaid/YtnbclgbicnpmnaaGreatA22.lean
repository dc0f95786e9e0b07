/- Lemmas of this claim. Conditions: as named. -/
import Derived.Test.YtnbclgbicnpmnaaGreatA21
namespace Go.Proofs.YtnbclgbicnpmnaaGreat
open Go.RowKit Go.Sort
set_option maxHeartbeats 0
set_option maxRecDepth 100000
set_option linter.all false
theorem Zua{S S':Nat→Prop}(T:Tbl)(hf:Few T)(hu:Uq T)(v:Value)(l:List Int)(w:World)(h:Xi w S T)(hl:Xz w S' v l):Calls Tryz.prog 230 #[Vr T,v] w (V3 w):=by
 obtain⟨A,C,rfl,hlCC,hCC⟩:=hl.shape;obtain⟨n0,hnn0⟩:=gnX ((l).length);have Hnn0:=Ya hnn0;have Hhl:=Ya hl;unfold maxLen at hCC;rw[hnn0]at hlCC⊢;clear hl hnn0;have X0:=Ya ((Yn w).alloc (Wx T));have H:=Ya (h.up X0.o);have Hb0:=Ya (Xn w T);clear h;have HL:=Ya (show Xz (w.alloc (Wx T)) S' (.slice A n0 C) l by have:=Hhl.o.ext X0.o;rwa [Hnn0.o]at this);have Hf:=Ya hf;have Hu:=Ya hu;clear hf hu;go_enter Tryz.func230,Tryz.ntmps230;go_wp2_with (first|(refine Xx rfl ?_)|(refine Y4 Hb0.o rfl ?_));refine(Ztp T Hf.o Hu.o _ l _ H.o HL.o).mono ?_;rintro e w1 ⟨u,d,x,rfl,hd1,_,_,hx1⟩;by_cases h0:x=0
 ·subst h0;go_wp2_with fail;refine(Zst u _ d l _ hd1 (HL.o.ext hx1)).mono ?_;rintro e w2 ⟨b,rfl,hx2⟩;go_wp2_with fail;go_ret;exact⟨_,rfl,X0.o.trans (hx1.trans hx2)⟩
 have d2:(x==0)=false:=by simp[h0]
 go_wp2_with fail;go_ret;exact⟨_,rfl,X0.o.trans hx1⟩
def inB(c lo hi:Int):Bool:=decide (lo≤c)&&decide (c≤hi)
theorem Zyk(c lo hi:Int)(w:World):Calls Tryz.prog 268 #[.int .i64 c,.int .i64 lo,.int .i64 hi] w fun e w'=>e=.returned (.bool (inB c lo hi))∧w=w':=by
 cases h1:decide (lo≤c)
 ·go_enter Tryz.func268,Tryz.ntmps268;go_wp2_with fail;go_ret;exact⟨by unfold inB;rw[h1];rfl,rfl⟩
 go_enter Tryz.func268,Tryz.ntmps268;go_wp2_with fail;go_ret;exact⟨by unfold inB;rw[h1];rfl,rfl⟩
theorem Zxw{S:Nat→Prop}(v:Value)(l:List Int)(lo hi:Int)(w:World)(h:Xz w S v l):Calls Tryz.prog 269 #[v,.int .i64 lo,.int .i64 hi] w (V3 w):=by
 obtain⟨A,C,rfl,hlCC,hCC⟩:=h.shape;obtain⟨n,hnn⟩:=gnX ((l).length);have Hnn:=Ya hnn;have Hh:=Ya h;unfold maxLen at hCC;rw[hnn]at hlCC⊢;clear h hnn;go_enter Tryz.func269,Tryz.ntmps269;go_wp2_with fail;go_loopw [11] (fun o wr=>∃ i:Nat,i≤n∧o=.int .i64 (i:Int)∧Ext w wr) (fun o _=>n-(intOf o).toNat);case atStart=>exact⟨0,by omega,rfl,(by repeat' first|exact Yn _|assumption|apply Ym|apply Yl|apply Yk|(refine Yj ?_ (by assumption)))⟩
 obtain⟨i,hi_i,rfl,hx⟩:=hrel;have Hx:=Ya hx;clear hx;by_cases hlt:i<n
 ·obtain⟨hd_i,i0_i,i1_i⟩:=LTl i n (by omega);obtain⟨x,hs_x⟩:=geX (l:=(l)) (i:=i) (by have:=Hnn.o;omega);obtain⟨g_x,o_x,c_x,hvv,_,_,_,hgl_x,a0_x⟩:=(Hh.o.ext Hx.o).get hs_x;simp only[Yg]at hvv;obtain⟨rfl,-,rfl⟩:=hvv;have Hs_x:=Ya hs_x;clear hs_x;cases hb:inB x lo hi
  ·go_wp2_with (go_at_call 268;refine(Zyk _ _ _ _).mono ?_;rintro e w' ⟨rfl,rfl⟩;rw[hb]);all_goals
    have hx:=Hx.o
    first
    | (go_roundw
       case rel=>exact⟨i+1,by omega,by go_num,(by repeat' first|exact Yn _|assumption|apply Ym|apply Yl|apply Yk|(refine Yj ?_ (by assumption)))⟩
       (simp[intOf];omega))
    | (go_ret;exact⟨_,rfl,(by repeat' first|exact Yn _|assumption|apply Ym|apply Yl|apply Yk|(refine Yj ?_ (by assumption)))⟩)
  go_wp2_with (go_at_call 268;refine(Zyk _ _ _ _).mono ?_;rintro e w' ⟨rfl,rfl⟩;rw[hb]);all_goals
   have hx:=Hx.o
   first
   | (go_roundw
      case rel=>exact⟨i+1,by omega,by go_num,(by repeat' first|exact Yn _|assumption|apply Ym|apply Yl|apply Yk|(refine Yj ?_ (by assumption)))⟩
      (simp[intOf];omega))
   | (go_ret;exact⟨_,rfl,(by repeat' first|exact Yn _|assumption|apply Ym|apply Yl|apply Yk|(refine Yj ?_ (by assumption)))⟩)
 have hd_i:=GEl i n (by omega);go_wp2_with fail;all_goals
  have hx:=Hx.o
  first
  | (go_roundw
     case rel=>exact⟨i+1,by omega,by go_num,(by repeat' first|exact Yn _|assumption|apply Ym|apply Yl|apply Yk|(refine Yj ?_ (by assumption)))⟩
     (simp[intOf];omega))
  | (go_ret;exact⟨_,rfl,(by repeat' first|exact Yn _|assumption|apply Ym|apply Yl|apply Yk|(refine Yj ?_ (by assumption)))⟩)
theorem Zph{S:Nat→Prop}(v:Value)(l:List Int)(i:Int)(w:World)(h:Xz w S v l):Calls Tryz.prog 252 #[v,.int .i64 i] w (Uv w):=by
 obtain⟨A,C,rfl,hlCC,hCC⟩:=h.shape;obtain⟨n,hnn⟩:=gnX ((l).length);have Hnn:=Ya hnn;have Hh:=Ya h;unfold maxLen at hCC;rw[hnn]at hlCC⊢;clear h hnn;go_enter Tryz.func252,Tryz.ntmps252;by_cases h0:i<0
 ·have d0:decide (i<0)=true:=Yh h0;go_wp2_with fail;go_ret;exact⟨_,rfl,Yn _⟩
 have d0:decide (i<0)=false:=Yi h0;by_cases h1:(n:Int)≤i
 ·have d1:decide ((n:Int)≤i)=true:=Yh h1;go_wp2_with fail;go_ret;exact⟨_,rfl,Yn _⟩
 obtain⟨j,rfl⟩:∃ j:Nat,i=(j:Int):=⟨i.toNat,by omega⟩;have d1:decide ((n:Int)≤(j:Int))=false:=Yi h1;have i0:(0:Int)≤(j:Int):=by omega
 have i1:(j:Int)<(n:Int):=by omega
 have hlt:j<n:=by omega
 have Hx:=Ya (Yn w);obtain⟨x,hs_x⟩:=geX (l:=(l)) (i:=j) (by have:=Hnn.o;omega);obtain⟨g_x,o_x,c_x,hvv,_,_,_,hgl_x,a0_x⟩:=(Hh.o.ext Hx.o).get hs_x;simp only[Yg]at hvv;obtain⟨rfl,-,rfl⟩:=hvv;have Hs_x:=Ya hs_x;clear hs_x;go_wp2_with fail;go_ret;exact⟨_,rfl,Yn _⟩
def Zvq(T:Tbl)(c:Int):List Int:=if Zrw T c=3 then To T c else if Zrw T c=1∨Zrw T c=4 then[c]else[]
def Eu(T:Tbl)(l:List Int):List Int:=l.flatMap (Zvq T)
theorem Zye{T:Tbl}(hf:Few T)(c:Int):(Zvq T c).length≤18:=by
 unfold Zvq;split
 ·unfold To;split
  ·simp
  exact Uo hf.map c
 split<;>simp
theorem Ztx{T:Tbl}(hf:Few T)(l:List Int):(Eu T l).length≤l.length*18:=by
 unfold Eu
 induction l with
 | nil=>simp
 | cons c r ih=>rw[Zj6,Zs,Zl];have:=Zye hf c;omega
def Zoj(T:Tbl)(l:List Int)(w:World)(e:Ending)(w':World):Prop:=∃ (v:Value) (r:List Int) (p x:Int),e=.returned (.tuple #[v,.int .i64 p,.int .i64 x])∧RdE Wh w' (fun k=>w.heap.size≤k) v r∧r.length≤4096∧(x=0→r=Eu T l)∧Ext w w'
theorem Zty{S S':Nat→Prop}(T:Tbl)(hf:Few T)(hu:Uq T)(v:Value)(l:List Int)(w:World)(h:Xi w S T)(hl:Xz w S' v l):Calls Tryz.prog 209 #[Vr T,v] w (Zoj T l w):=by
 obtain⟨A,C,rfl,hlCC,hCC⟩:=hl.shape;obtain⟨n,hnn⟩:=gnX ((l).length);have Hnn:=Ya hnn;have Hhl:=Ya hl;unfold maxLen at hCC;rw[hnn]at hlCC⊢;clear hl hnn;have X0:=Ya ((Yn w).alloc (Wx T));have H:=Ya (h.up X0.o);have Hb0:=Ya (Xn w T);clear h;have HL:=Ya (show Xz (w.alloc (Wx T)) S' (.slice A n C) l by have:=Hhl.o.ext X0.o;rwa [Hnn.o]at this);have Hf:=Ya hf;have Hu:=Ya hu;obtain⟨B,hB⟩:=gnX ((w.alloc (Wx T)).heap.size);have HB:=Ya hB;clear hf hu hB;go_enter Tryz.func209,Tryz.ntmps209;go_wp2_with (first|(refine Xx rfl ?_)|(refine Y4 Hb0.o rfl ?_));refine(Vg T Hf.o Hu.o _ l _ H.o HL.o).mono ?_;rintro e w1 ⟨x,rfl,hacc,hx1⟩;have Hx1:=Ya hx1;clear hx1;by_cases h0:x=0
 ·subst h0;obtain⟨_,hl4,_⟩:=hacc rfl;rw[Hnn.o]at hl4;clear hacc;go_wp2_with fail;go_loopw [19,8] (fun o u wr=>∃ i:Nat,i≤n∧o=.int .i64 (i:Int)∧Own Wh wr B u (Eu T (l.take i))∧Ext (w.alloc (Wx T)) wr) (fun o _ _=>n-(intOf o).toNat);case atStart=>exact⟨0,by omega,rfl,Own.nil _ _ _,Hx1.o⟩
  clear Hx1;obtain⟨i,hi,rfl,ho,hx⟩:=hrel;obtain⟨p,hp⟩:=gnX (Eu T (l.take i));rw[hp]at ho;have hpl:p.length≤i*18:=by rw[← hp];exact Zlh (Ztx Hf.o _) (Zl4 _ (by rw[Zp];omega))
  have hi18:i*18≤4096*18:=Zl4 _ (by omega);obtain⟨A2,C2,rfl,hlC2,hC2⟩:=ho.shape;obtain⟨m,hm⟩:=gnX (p.length);have hoI:Own Wh wr B (.slice A2 m C2) p:=by rw[← hm];exact ho
  rw[hm]at hlC2 hpl⊢;have Hx:=Ya hx;have Ho:=Ya hoI;have Hm:=Ya hm;have Hp:=Ya hp;have hBw:B≤wr.heap.size:=by rw[← HB.o];exact hx.size
  unfold maxLen at hC2;clear hx ho hoI hm hp;by_cases hlt:i<n
  ·obtain⟨hd_i,i0_i,i1_i⟩:=LTl i n (by omega);obtain⟨c,hs_c⟩:=geX (l:=(l)) (i:=i) (by have:=Hnn.o;omega);obtain⟨g_c,o_c,c_c,hvv,_,_,_,hgl_c,a0_c⟩:=(HL.o.ext Hx.o).get hs_c;simp only[Yg]at hvv;obtain⟨rfl,-,rfl⟩:=hvv;have Hs_c:=Ya hs_c;clear hs_c;have Hnew:=Ya (show Eu T (l.take (i+1))=p++Zvq T c by rw[Wp Hs_c.o,Eu,List.flatMap_append,← Eu,Hp.o];simp);have hcl:=Zye Hf.o c;obtain⟨st,hst⟩:=gnX (Zrw T c);have Hst:=Ya hst;clear hst;by_cases e0:st=0
   ·subst e0;go_wp2_with (first|(refine Y4 (Hb0.o.ext Hx.o) rfl ?_)|(go_at_call 144;refine(Qo T c _ (H.o.up Hx.o)).mono ?_;rintro e w2 ⟨rfl,hx2⟩;rw[Hst.o];have Hx2:=Ya hx2;clear hx2));go_ret3;exact⟨_,[],_,16,rfl,Xz.nil _ _,Zl1 _,fun h=>absurd h (by decide),X0.o.trans (Hx.o.trans Hx2.o)⟩
   have f0:(st==0)=false:=by simp[e0]
   by_cases e3:st=3
   ·subst e3;go_wp2_with (first|(refine Y4 (Hb0.o.ext Hx.o) rfl ?_)|(go_at_call 144;refine(Qo T c _ (H.o.up Hx.o)).mono ?_;rintro e w2 ⟨rfl,hx2⟩;rw[Hst.o];have Hx2:=Ya hx2;clear hx2)|(refine Y4 (Hb0.o.ext (Hx.o.trans Hx2.o)) rfl ?_));refine(Zql T c _ (H.o.up (Hx.o.trans Hx2.o))).mono ?_;rintro e w3 ⟨u,rfl,hu3,hx3⟩;obtain⟨A3,C3,rfl,_,_⟩:=hu3.shape;have Hmc:=Ya (show Zvq T c=To T c by unfold Zvq;rw[Zlg Hst.o]);rw[Hmc.o]at hcl;obtain⟨k,hk⟩:=gnX ((To T c).length);have Hu3:=Ya (show RdE Wh w3 (fun _=>True) (.slice A3 k C3) (To T c) by rw[← hk];exact hu3);rw[hk]at hcl⊢;have Hk:=Ya hk;have Hx3:=Ya (Hx2.o.trans hx3);clear hk hu3 hx3;go_wp2_with (at_builtin;refine Xu Wh _ _ _ rfl rfl rfl rfl (Ho.o.ext Hx3.o) rfl Hu3.o (by rw[Hm.o,Hk.o];omega) (by show 8≤1000;omega) (Zlh hBw Hx3.o.size) ?_;intro A5 n5 c5 w5 hg5;have Hx5:=Ya (hg5.ext (w.alloc (Wx T)) (Hx.o.trans Hx3.o) (by rw[HB.o];exact Yp _));have Hg5:=Ya hg5;clear hg5);go_roundw;case rel=>exact⟨i+1,by omega,by go_num,by rw[Hnew.o,Hmc.o];exact Hg5.o.own,Hx5.o⟩
    (simp[intOf];omega)
   have f3:(st==3)=false:=by simp[e3]
   by_cases e1:st=1
   ·subst e1;have Hmc:=Ya (show Zvq T c=[c] by unfold Zvq;rw[Zlk (by rw[Hst.o];decide),Zlg (.inl Hst.o)]);go_wp2_with (first|(refine Y4 (Hb0.o.ext Hx.o) rfl ?_)|(go_at_call 144;refine(Qo T c _ (H.o.up Hx.o)).mono ?_;rintro e w2 ⟨rfl,hx2⟩;rw[Hst.o];have Hx2:=Ya hx2;clear hx2)|(at_builtin;refine Xu Wh _ _ _ rfl rfl rfl rfl (Ho.o.ext (Hx2.o.alloc _)) rfl (Wr w2 c _ _ rfl) (by rw[Hm.o];show m+1≤_;omega) (by show 8≤1000;omega) (by have:=Hx2.o.size;simp;omega) ?_;intro A5 n5 c5 w5 hg5;have Hx5:=Ya (hg5.ext (w.alloc (Wx T)) ((Hx.o.trans Hx2.o).alloc _) (by rw[HB.o];exact Yp _));have Hg5:=Ya hg5;clear hg5));go_roundw;case rel=>exact⟨i+1,by omega,by go_num,by rw[Hnew.o,Hmc.o];exact Hg5.o.own,Hx5.o⟩
    (simp[intOf];omega)
   have f1:(st==1)=false:=by simp[e1]
   by_cases e4:st=4
   ·subst e4;have Hmc:=Ya (show Zvq T c=[c] by unfold Zvq;rw[Zlk (by rw[Hst.o];decide),Zlg (.inr Hst.o)]);go_wp2_with (first|(refine Y4 (Hb0.o.ext Hx.o) rfl ?_)|(go_at_call 144;refine(Qo T c _ (H.o.up Hx.o)).mono ?_;rintro e w2 ⟨rfl,hx2⟩;rw[Hst.o];have Hx2:=Ya hx2;clear hx2)|(at_builtin;refine Xu Wh _ _ _ rfl rfl rfl rfl (Ho.o.ext (Hx2.o.alloc _)) rfl (Wr w2 c _ _ rfl) (by rw[Hm.o];show m+1≤_;omega) (by show 8≤1000;omega) (by have:=Hx2.o.size;simp;omega) ?_;intro A5 n5 c5 w5 hg5;have Hx5:=Ya (hg5.ext (w.alloc (Wx T)) ((Hx.o.trans Hx2.o).alloc _) (by rw[HB.o];exact Yp _));have Hg5:=Ya hg5;clear hg5));go_roundw;case rel=>exact⟨i+1,by omega,by go_num,by rw[Hnew.o,Hmc.o];exact Hg5.o.own,Hx5.o⟩
    (simp[intOf];omega)
   have f4:(st==4)=false:=by simp[e4]
   have Hmc:=Ya (show Zvq T c=[] by unfold Zvq;rw[Zlk (by rw[Hst.o];exact e3),Zlk (by rw[Hst.o];exact fun h=>h.elim e1 e4)]);clear e0 e3 e1 e4;go_wp2_with (first|(refine Y4 (Hb0.o.ext Hx.o) rfl ?_)|(go_at_call 144;refine(Qo T c _ (H.o.up Hx.o)).mono ?_;rintro e w2 ⟨rfl,hx2⟩;rw[Hst.o];have Hx2:=Ya hx2;clear hx2));go_roundw;case rel=>exact⟨i+1,by omega,by go_num,by rw[Hnew.o,Hmc.o,Zis];exact(by have:=Ho.o.ext Hx2.o;rw[← Hm.o]at *;exact this),Hx.o.trans Hx2.o⟩
   (simp[intOf];omega)
  have hd_i:=GEl i n (by omega);have hpe:p=Eu T l:=by rw[← Hp.o,Zm (by rw[Hnn.o];omega)]
  have Hpe:=Ya hpe;clear hpe;by_cases hbig:4096<m
  ·have d1:decide ((4096:Int)<(m:Int))=true:=Yh (by omega);go_wp2_with fail;go_ret3;exact⟨_,[],0,7,rfl,Xz.nil _ _,Zl1 _,fun h=>absurd h (by decide),X0.o.trans Hx.o⟩
  have d1:decide ((4096:Int)<(m:Int))=false:=Yi (by omega);go_wp2_with fail;go_ret3;refine⟨_,p,0,0,rfl,?_,by rw[Hm.o];omega,fun _=>Hpe.o,X0.o.trans Hx.o⟩;have:=Ho.o.rd;rw[← Hm.o]at this⊢;exact Rd.mono this fun k hk _=>Zlh (by have:=X0.o.size;have:=HB.o;omega) hk
 have d2:(!(x==0))=true:=by simp[h0]
 have d3:(x !=0)=true:=d2;have H0:=Ya h0;clear h0 hacc;go_wp2_with fail;go_ret3;exact⟨_,[],0,x,rfl,Xz.nil _ _,Zl1 _,fun h=>absurd h H0.o,X0.o.trans Hx1.o⟩
def Zzg(T:Tbl)(c:Int):Int:=if(97≤c∧c≤122)∨(65≤c∧c≤90)then 3 else if 0≤c∧c≤127 then 1 else if Bk c=true∨Il c=true then 9 else Wk T.scr c
theorem Kk{S:Nat→Prop}(T:Tbl)(c:Int)(w:World)(h:Xi w S T):Calls Tryz.prog 239 #[Vr T,.int .i64 c] w fun e w'=>e=.returned (.int .i64 (Zzg T c))∧Ext w w':=by
 have X0:=Ya ((Yn w).alloc (Wx T));have H:=Ya (h.up X0.o);have Hb0:=Ya (Xn w T);clear h;have hr:c≤-1∨(0≤c∧c≤64)∨(65≤c∧c≤90)∨(91≤c∧c≤96)∨(97≤c∧c≤122)∨(123≤c∧c≤127)∨128≤c:=by omega
 have hb:=(Hb0.o).at_ 4 (by omega);rw[show(Qs T)[4]?=some T.scrV from rfl]at hb;rcases hr with hr|hr|hr|hr|hr|hr|hr
 ·have e0:decide ((97:Int)≤c)=false:=Yi (by omega);have e1:decide (c≤122)=true:=Yh (by omega);have e2:decide ((65:Int)≤c)=false:=Yi (by omega);have e3:decide (c≤90)=true:=Yh (by omega);have e4:decide ((0:Int)≤c)=false:=Yi (by omega);have e5:decide (c≤127)=true:=Yh (by omega);have Hr:=Ya hr;have Hs:=Ya (show Zzg T c=if Bk c=true∨Il c=true then 9 else Wk T.scr c by unfold Zzg;rw[Zlk (by omega),Zlk (by omega)]);cases hs:Bk c<;>cases hj:Il c
  all_goals
   have Hs2:=Ya (show(if Bk c=true∨Il c=true then(9:Int)else Wk T.scr c)=_ by rw[hs,hj]);clear hr;go_enter Tryz.func239,Tryz.ntmps239;go_wp2_with (first|(refine Xx rfl ?_)|(go_at_call 125;refine(V8 _ T.scr _ _ (H.o.scr.ext ((by repeat' first|exact Yn _|assumption|apply Ym|apply Yl|apply Yk|(refine Yj ?_ (by assumption)))))).mono ?_;rintro e w1 ⟨rfl,hx1⟩)|(go_at_call 113;refine(Js _ _).mono ?_;rintro e w' ⟨rfl,rfl⟩;rw[hs])|(go_at_call 145;refine(Dp _ _).mono ?_;rintro e w' ⟨rfl,rfl⟩;rw[hj]));go_ret;exact⟨by rw[Hs.o,Hs2.o];rfl,X0.o.trans (by repeat' first|exact Yn _|assumption|apply Ym|apply Yl|apply Yk|(refine Yj ?_ (by assumption)))⟩
 ·have e0:decide ((97:Int)≤c)=false:=Yi (by omega);have e1:decide (c≤122)=true:=Yh (by omega);have e2:decide ((65:Int)≤c)=false:=Yi (by omega);have e3:decide (c≤90)=true:=Yh (by omega);have e4:decide ((0:Int)≤c)=true:=Yh (by omega);have e5:decide (c≤127)=true:=Yh (by omega);have Hr:=Ya hr;have Hs:=Ya (show Zzg T c=1 by unfold Zzg;rw[Zlk (by omega),Zlg (by omega)]);clear hr;go_enter Tryz.func239,Tryz.ntmps239;go_wp2_with (refine Xx rfl ?_);go_ret;exact⟨by rw[Hs.o];rfl,X0.o⟩
 ·have e0:decide ((97:Int)≤c)=false:=Yi (by omega);have e1:decide (c≤122)=true:=Yh (by omega);have e2:decide ((65:Int)≤c)=true:=Yh (by omega);have e3:decide (c≤90)=true:=Yh (by omega);have e4:decide ((0:Int)≤c)=true:=Yh (by omega);have e5:decide (c≤127)=true:=Yh (by omega);have Hr:=Ya hr;have Hs:=Ya (show Zzg T c=3 by unfold Zzg;rw[Zlg (by omega)]);clear hr;go_enter Tryz.func239,Tryz.ntmps239;go_wp2_with (refine Xx rfl ?_);go_ret;exact⟨by rw[Hs.o];rfl,X0.o⟩
 ·have e0:decide ((97:Int)≤c)=false:=Yi (by omega);have e1:decide (c≤122)=true:=Yh (by omega);have e2:decide ((65:Int)≤c)=true:=Yh (by omega);have e3:decide (c≤90)=false:=Yi (by omega);have e4:decide ((0:Int)≤c)=true:=Yh (by omega);have e5:decide (c≤127)=true:=Yh (by omega);have Hr:=Ya hr;have Hs:=Ya (show Zzg T c=1 by unfold Zzg;rw[Zlk (by omega),Zlg (by omega)]);clear hr;go_enter Tryz.func239,Tryz.ntmps239;go_wp2_with (refine Xx rfl ?_);go_ret;exact⟨by rw[Hs.o];rfl,X0.o⟩
 ·have e0:decide ((97:Int)≤c)=true:=Yh (by omega);have e1:decide (c≤122)=true:=Yh (by omega);have e2:decide ((65:Int)≤c)=true:=Yh (by omega);have e3:decide (c≤90)=false:=Yi (by omega);have e4:decide ((0:Int)≤c)=true:=Yh (by omega);have e5:decide (c≤127)=true:=Yh (by omega);have Hr:=Ya hr;have Hs:=Ya (show Zzg T c=3 by unfold Zzg;rw[Zlg (by omega)]);clear hr;go_enter Tryz.func239,Tryz.ntmps239;go_wp2_with (refine Xx rfl ?_);go_ret;exact⟨by rw[Hs.o];rfl,X0.o⟩
 ·have e0:decide ((97:Int)≤c)=true:=Yh (by omega);have e1:decide (c≤122)=false:=Yi (by omega);have e2:decide ((65:Int)≤c)=true:=Yh (by omega);have e3:decide (c≤90)=false:=Yi (by omega);have e4:decide ((0:Int)≤c)=true:=Yh (by omega);have e5:decide (c≤127)=true:=Yh (by omega);have Hr:=Ya hr;have Hs:=Ya (show Zzg T c=1 by unfold Zzg;rw[Zlk (by omega),Zlg (by omega)]);clear hr;go_enter Tryz.func239,Tryz.ntmps239;go_wp2_with (refine Xx rfl ?_);go_ret;exact⟨by rw[Hs.o];rfl,X0.o⟩
 have e0:decide ((97:Int)≤c)=true:=Yh (by omega);have e1:decide (c≤122)=false:=Yi (by omega);have e2:decide ((65:Int)≤c)=true:=Yh (by omega);have e3:decide (c≤90)=false:=Yi (by omega);have e4:decide ((0:Int)≤c)=true:=Yh (by omega);have e5:decide (c≤127)=false:=Yi (by omega);have Hr:=Ya hr;have Hs:=Ya (show Zzg T c=if Bk c=true∨Il c=true then 9 else Wk T.scr c by unfold Zzg;rw[Zlk (by omega),Zlk (by omega)]);cases hs:Bk c<;>cases hj:Il c
 all_goals
  have Hs2:=Ya (show(if Bk c=true∨Il c=true then(9:Int)else Wk T.scr c)=_ by rw[hs,hj]);clear hr;go_enter Tryz.func239,Tryz.ntmps239;go_wp2_with (first|(refine Xx rfl ?_)|(go_at_call 125;refine(V8 _ T.scr _ _ (H.o.scr.ext ((by repeat' first|exact Yn _|assumption|apply Ym|apply Yl|apply Yk|(refine Yj ?_ (by assumption)))))).mono ?_;rintro e w1 ⟨rfl,hx1⟩)|(go_at_call 113;refine(Js _ _).mono ?_;rintro e w' ⟨rfl,rfl⟩;rw[hs])|(go_at_call 145;refine(Dp _ _).mono ?_;rintro e w' ⟨rfl,rfl⟩;rw[hj]));go_ret;exact⟨by rw[Hs.o,Hs2.o];rfl,X0.o.trans (by repeat' first|exact Yn _|assumption|apply Ym|apply Yl|apply Yk|(refine Yj ?_ (by assumption)))⟩
def Zmi(w:World)(e:Ending)(w':World):Prop:=∃ v:Int,e=.returned (.int .u64 v)∧Ext w w'
theorem Tz(s:Int)(w:World):Calls Tryz.prog 240 #[.int .i64 s] w (Zmi w):=by
 go_enter Tryz.func240,Tryz.ntmps240;go_wp2_with fail;all_goals
  go_ret;exact⟨_,rfl,Yn _⟩
theorem El{S:Nat→Prop}(T:Tbl)(hf:Few T)(c:Int)(w:World)(h:Xi w S T):Calls Tryz.prog 218 #[Vr T,.int .i64 c] w (Zmi w):=by
 obtain⟨A7,C7,e7,hl7,hc7⟩:=h.ext.shape;have h7:=h.ext.ext ((Yn w).alloc (Wx T));obtain⟨n7,hn7⟩:=gnX (T.ext.length);rw[hn7]at e7 hl7;rw[e7]at h7;have Hn7:=Ya hn7;have E7:=Ya e7;have H7:=Ya h7;unfold maxLen at hc7;clear hn7 e7 h7;have X0:=Ya ((Yn w).alloc (Wx T));have H:=Ya (h.up X0.o);have Hb0:=Ya (Xn w T);clear h;have hel:=Uo hf.ext c;obtain⟨FA,FC,ef,fl,fc⟩:=(Qr (S:=S) (c:=c) H7.o.2).shape;obtain⟨k,hk⟩:=gnX ((Xe T.ext c).length);have hfa:=Qr (S:=S) (c:=c) H7.o.2;rw[ef,hk]at hfa;rw[hk]at ef fl hel;have Hk:=Ya hk;have Hfa:=Ya hfa;clear hk hfa;go_enter Tryz.func218,Tryz.ntmps218;go_wp2_with (first|(refine Xx rfl ?_)|(refine Y4 Hb0.o rfl ?_));refine(Zzf T c _ H.o).mono ?_;rintro e w1 ⟨rfl,hx1⟩;have Hx1:=Ya hx1;clear hx1;by_cases hk0:k=0
 ·subst hk0;go_wp2_with (refine Y4 (Hb0.o.ext Hx1.o) rfl ?_);refine(Oh T c _ (H.o.up Hx1.o)).mono ?_;rintro e w2 ⟨z,rfl,hx2⟩;have Hx2:=Ya (Hx1.o.trans hx2);have HL:=Ya (Wr w2 z 3 _ rfl);have Hnn:=Ya (show([z]:List Int).length=1 from rfl);clear hx2;go_wp2_with fail;obtain⟨A0,hA0⟩:∃ A:Option Addr,some ⟨w2.heap.size,0,none⟩=A:=⟨_,rfl⟩;rw[hA0]at HL⊢;clear hA0;go_loopw [21,6] (fun o u wr=>∃ (i:Nat) (q:Int),i≤1∧o=.int .i64 (i:Int)∧u=.int .u64 q∧Ext (w2.alloc (.cells #[.int .i64 z] 3)) wr) (fun o _ _=>1-(intOf o).toNat);case atStart=>exact⟨0,0,by omega,rfl,rfl,Yn _⟩
  obtain⟨i,q,hi,rfl,rfl,hx⟩:=hrel;have Hx:=Ya hx;clear hx;by_cases hlt:i<1
  ·have hd_i:decide ((i:Int)<(1:Int))=true:=Yh (by omega);have i0_i:(0:Int)≤(i:Int):=(by omega);have i1_i:(i:Int)<(1:Int):=(by omega);obtain⟨x,hs_x⟩:=geX (l:=([z])) (i:=i) (by have:=Hnn.o;omega);obtain⟨g_x,o_x,c_x,hvv,_,_,_,hgl_x,a0_x⟩:=(HL.o.ext Hx.o).get hs_x;simp only[Yg]at hvv;obtain⟨rfl,-,rfl⟩:=hvv;have Hs_x:=Ya hs_x;clear hs_x;go_wp2_with (go_at_call 240;refine(Tz _ _).mono ?_;rintro e w4 ⟨v4,rfl,hx4⟩);all_goals
    first
    | (go_roundw
       case rel=>exact⟨i+1,_,by omega,by go_num,rfl,by first|exact Hx.o|exact Hx.o.trans hx4⟩
       (simp[intOf];omega))
    | (go_ret;exact⟨_,rfl,X0.o.trans ((Hx2.o.alloc _).trans Hx.o)⟩)
  have hd_i:decide ((i:Int)<(1:Int))=false:=Yi (by omega);go_wp2_with fail;go_ret;exact⟨_,rfl,X0.o.trans ((Hx2.o.alloc _).trans Hx.o)⟩
 have hk1:((k:Int)==0)=false:=by simp;omega
 have hk2:(k==0)=false:=by simp;omega
 have HL:=Ya (show Xz w1 S (.slice FA k FC) (Xe T.ext c) from Hfa.o.ext Hx1.o);have Hnn:=Hk;clear hk0;go_wp2_with fail;go_loopw [21,6] (fun o u wr=>∃ (i:Nat) (q:Int),i≤k∧o=.int .i64 (i:Int)∧u=.int .u64 q∧Ext w1 wr) (fun o _ _=>k-(intOf o).toNat);case atStart=>exact⟨0,0,by omega,rfl,rfl,Yn _⟩
 obtain⟨i,q,hi,rfl,rfl,hx⟩:=hrel;have Hx:=Ya hx;clear hx;by_cases hlt:i<k
 ·obtain⟨hd_i,i0_i,i1_i⟩:=LTl i k (by omega);obtain⟨x,hs_x⟩:=geX (l:=((Xe T.ext c))) (i:=i) (by have:=Hnn.o;omega);obtain⟨g_x,o_x,c_x,hvv,_,_,_,hgl_x,a0_x⟩:=(HL.o.ext Hx.o).get hs_x;simp only[Yg]at hvv;obtain⟨rfl,-,rfl⟩:=hvv;have Hs_x:=Ya hs_x;clear hs_x;go_wp2_with (go_at_call 240;refine(Tz _ _).mono ?_;rintro e w4 ⟨v4,rfl,hx4⟩);all_goals
   first
   | (go_roundw
      case rel=>exact⟨i+1,_,by omega,by go_num,rfl,by first|exact Hx.o|exact Hx.o.trans hx4⟩
      (simp[intOf];omega))
   | (go_ret;exact⟨_,rfl,X0.o.trans (Hx1.o.trans Hx.o)⟩)
 have hd_i:=GEl i k (by omega);go_wp2_with fail;go_ret;exact⟨_,rfl,X0.o.trans (Hx1.o.trans Hx.o)⟩
theorem Zzk{S S':Nat→Prop}(T:Tbl)(hf:Few T)(hu:Uq T)(v:Value)(l:List Int)(w:World)(h:Xi w S T)(hl:Xz w S' v l):Calls Tryz.prog 241 #[Vr T,v] w (fun e w'=>∃ q x:Int,e=.returned (.tuple #[.int .u64 q,.int .i64 x])∧Ext w w'):=by
 obtain⟨A,C,rfl,hlCC,hCC⟩:=hl.shape;obtain⟨n,hnn⟩:=gnX ((l).length);have Hnn:=Ya hnn;have Hhl:=Ya hl;unfold maxLen at hCC;rw[hnn]at hlCC⊢;clear hl hnn;have X0:=Ya ((Yn w).alloc (Wx T));have H:=Ya (h.up X0.o);have Hb0:=Ya (Xn w T);clear h;have HL:=Ya (show Xz (w.alloc (Wx T)) S' (.slice A n C) l by have:=Hhl.o.ext X0.o;rwa [Hnn.o]at this);have Hf:=Ya hf;have Hu:=Ya hu;clear hf hu;go_enter Tryz.func241,Tryz.ntmps241;go_wp2_with (first|(refine Xx rfl ?_)|(refine Y4 Hb0.o rfl ?_));refine(Vg T Hf.o Hu.o _ l _ H.o HL.o).mono ?_;rintro e w1 ⟨x,rfl,_,hx1⟩;have Hx1:=Ya hx1;clear hx1;by_cases h0:x=0
 ·subst h0;go_wp2_with fail;go_loopw [18,7] (fun o u wr=>∃ (i:Nat) (q:Int),i≤n∧o=.int .i64 (i:Int)∧u=.int .u64 q∧Ext (w.alloc (Wx T)) wr) (fun o _ _=>n-(intOf o).toNat);case atStart=>exact⟨0,_,by omega,rfl,rfl,Hx1.o⟩
  clear Hx1;obtain⟨i,q,hi,rfl,rfl,hx⟩:=hrel;have Hx:=Ya hx;clear hx;by_cases hlt:i<n
  ·obtain⟨hd_i,i0_i,i1_i⟩:=LTl i n (by omega);obtain⟨x,hs_x⟩:=geX (l:=(l)) (i:=i) (by have:=Hnn.o;omega);obtain⟨g_x,o_x,c_x,hvv,_,_,_,hgl_x,a0_x⟩:=(HL.o.ext Hx.o).get hs_x;simp only[Yg]at hvv;obtain⟨rfl,-,rfl⟩:=hvv;have Hs_x:=Ya hs_x;clear hs_x;go_wp2_with (refine Y4 (Hb0.o.ext Hx.o) rfl ?_);refine(El T Hf.o _ _ (H.o.up Hx.o)).mono ?_;rintro e w2 ⟨z,rfl,hx2⟩;go_wp2_with fail;go_roundw;case rel=>exact⟨i+1,_,by omega,by go_num,rfl,Hx.o.trans hx2⟩
   (simp[intOf];omega)
  have hd_i:=GEl i n (by omega);go_wp2_with fail;go_ret2;exact⟨_,_,rfl,X0.o.trans Hx.o⟩
 have h0b:(!(x==0))=true:=by simp[h0]
 have h0c:(x !=0)=true:=h0b;have h0d:(x==0)=false:=by simp[h0]
 have h0H:=Ya h0;clear h0;go_wp2_with fail;go_ret2;exact⟨_,_,rfl,X0.o.trans Hx1.o⟩
theorem Zw1{S S':Nat→Prop}(T:Tbl)(hf:Few T)(hu:Uq T)(v:Value)(l:List Int)(w:World)(h:Xi w S T)(hl:Xz w S' v l):Calls Tryz.prog 219 #[Vr T,v] w (V3 w):=by
 obtain⟨A,C,rfl,hlCC,hCC⟩:=hl.shape;obtain⟨n,hnn⟩:=gnX ((l).length);have Hnn:=Ya hnn;have Hhl:=Ya hl;unfold maxLen at hCC;rw[hnn]at hlCC⊢;clear hl hnn;have X0:=Ya ((Yn w).alloc (Wx T));have H:=Ya (h.up X0.o);have Hb0:=Ya (Xn w T);clear h;have HL:=Ya (show Xz (w.alloc (Wx T)) S' (.slice A n C) l by have:=Hhl.o.ext X0.o;rwa [Hnn.o]at this);have Hf:=Ya hf;have Hu:=Ya hu;clear hf hu;go_enter Tryz.func219,Tryz.ntmps219;go_wp2_with (first|(refine Xx rfl ?_)|(refine Y4 Hb0.o rfl ?_));refine(Zzk T Hf.o Hu.o _ l _ H.o HL.o).mono ?_;rintro e w1 ⟨q,x,rfl,hx1⟩;go_wp2_with fail;all_goals
  go_ret;exact⟨_,rfl,X0.o.trans hx1⟩
theorem F7{S S':Nat→Prop}(T:Tbl)(hf:Few T)(hu:Uq T)(v:Value)(l:List Int)(z:Int)(w:World)(h:Xi w S T)(hl:Xz w S' v l):Calls Tryz.prog 220 #[Vr T,v,.int .u64 z] w (V3 w):=by
 obtain⟨A,C,rfl,hlCC,hCC⟩:=hl.shape;obtain⟨n,hnn⟩:=gnX ((l).length);have Hnn:=Ya hnn;have Hhl:=Ya hl;unfold maxLen at hCC;rw[hnn]at hlCC⊢;clear hl hnn;have X0:=Ya ((Yn w).alloc (Wx T));have H:=Ya (h.up X0.o);have Hb0:=Ya (Xn w T);clear h;have HL:=Ya (show Xz (w.alloc (Wx T)) S' (.slice A n C) l by have:=Hhl.o.ext X0.o;rwa [Hnn.o]at this);have Hf:=Ya hf;have Hu:=Ya hu;clear hf hu;go_enter Tryz.func220,Tryz.ntmps220;go_wp2_with (first|(refine Xx rfl ?_)|(refine Y4 Hb0.o rfl ?_));refine(Vg T Hf.o Hu.o _ l _ H.o HL.o).mono ?_;rintro e w1 ⟨x,rfl,_,hx1⟩;have Hx1:=Ya hx1;clear hx1;by_cases h0:x=0
 ·subst h0;go_wp2_with fail;go_loopw [15] (fun o wr=>∃ i:Nat,i≤n∧o=.int .i64 (i:Int)∧Ext (w.alloc (Wx T)) wr) (fun o _=>n-(intOf o).toNat);case atStart=>exact⟨0,by omega,rfl,Hx1.o⟩
  clear Hx1;obtain⟨i,hi_i,rfl,hx⟩:=hrel;have Hx:=Ya hx;clear hx;by_cases hlt:i<n
  ·obtain⟨hd_i,i0_i,i1_i⟩:=LTl i n (by omega);obtain⟨x,hs_x⟩:=geX (l:=(l)) (i:=i) (by have:=Hnn.o;omega);obtain⟨g_x,o_x,c_x,hvv,_,_,_,hgl_x,a0_x⟩:=(HL.o.ext Hx.o).get hs_x;simp only[Yg]at hvv;obtain⟨rfl,-,rfl⟩:=hvv;have Hs_x:=Ya hs_x;clear hs_x;go_wp2_with (refine Y4 (Hb0.o.ext Hx.o) rfl ?_);refine(El T Hf.o _ _ (H.o.up Hx.o)).mono ?_;rintro e w2 ⟨q,rfl,hx2⟩;go_wp2_with fail;all_goals
    have hx:=Hx.o
    first
    | (go_roundw
       case rel=>exact⟨i+1,by omega,by go_num,(by repeat' first|exact Yn _|assumption|apply Ym|apply Yl|apply Yk|(refine Yj ?_ (by assumption)))⟩
       (simp[intOf];omega))
    | (go_ret;exact⟨_,rfl,X0.o.trans (by repeat' first|exact Yn _|assumption|apply Ym|apply Yl|apply Yk|(refine Yj ?_ (by assumption)))⟩)
  have hd_i:=GEl i n (by omega);go_wp2_with fail;all_goals
   have hx:=Hx.o
   first
   | (go_roundw
      case rel=>exact⟨i+1,by omega,by go_num,(by repeat' first|exact Yn _|assumption|apply Ym|apply Yl|apply Yk|(refine Yj ?_ (by assumption)))⟩
      (simp[intOf];omega))
   | (go_ret;exact⟨_,rfl,X0.o.trans (by repeat' first|exact Yn _|assumption|apply Ym|apply Yl|apply Yk|(refine Yj ?_ (by assumption)))⟩)
 have h0b:(!(x==0))=true:=by simp[h0]
 have h0c:(x !=0)=true:=h0b;have h0d:(x==0)=false:=by simp[h0]
 have h0H:=Ya h0;clear h0;go_wp2_with fail;go_ret;exact⟨_,rfl,X0.o.trans Hx1.o⟩
def Zvn(n:Nat)(w:World)(e:Ending)(w':World):Prop:=∃ z:Int,e=.returned (.int .i64 z)∧-1≤z∧z<n∧Ext w w'
theorem Zwt{S S':Nat→Prop}(T:Tbl)(hf:Few T)(hu:Uq T)(v:Value)(l:List Int)(j:Nat)(w:World)(h:Xi w S T)(hl:Xz w S' v l)(hj:j<l.length):Calls Tryz.prog 264 #[Vr T,v,.int .i64 (j:Int)] w (Zvn l.length w):=by
 obtain⟨A,C,rfl,hlCC,hCC⟩:=hl.shape;obtain⟨n,hnn⟩:=gnX ((l).length);have Hnn:=Ya hnn;have Hhl:=Ya hl;unfold maxLen at hCC;rw[hnn]at hlCC⊢;clear hl hnn;have X0:=Ya ((Yn w).alloc (Wx T));have H:=Ya (h.up X0.o);have Hb0:=Ya (Xn w T);clear h;have HL:=Ya (show Xz (w.alloc (Wx T)) S' (.slice A n C) l by have:=Hhl.o.ext X0.o;rwa [Hnn.o]at this);have Hf:=Ya hf;have Hu:=Ya hu;clear hf hu;rw[Hnn.o]at hj;have d0:decide ((j:Int)<0)=false:=Yi (by omega);have d1:decide ((n:Int)≤(j:Int))=false:=Yi (by omega);have d1n:¬ n≤j:=by omega
 go_enter Tryz.func264,Tryz.ntmps264;go_wp2_with (first|(refine Xx rfl ?_)|(refine Wn Hb0.o (by go_simp) rfl ?_));refine(Vg T Hf.o Hu.o _ l _ H.o HL.o).mono ?_;rintro e w1 ⟨x,rfl,_,hx1⟩;have Hx1:=Ya hx1;clear hx1;by_cases h0:x=0
 ·subst h0;go_wp2_with fail;go_loopw [8,7] (fun o u wr=>∃ (k:Nat) (z:Int),k≤j∧o=.int .i64 (k:Int)∧u=.int .i64 z∧-1≤z∧z<n∧Ext (w.alloc (Wx T)) wr) (fun o _ _=>j-(intOf o).toNat);case atStart=>exact⟨0,-1,by omega,rfl,rfl,by omega,by omega,Hx1.o⟩
  clear Hx1;obtain⟨k,z,hk,rfl,rfl,hz1,hz2,hx⟩:=hrel;have Hx:=Ya hx;clear hx;by_cases hlt:k<j
  ·have hd:=LTd k j (by omega);have i0:(0:Int)≤(k:Int):=by omega
   have i1:(k:Int)<(n:Int):=by omega
   have hkn:k<n:=by omega
   obtain⟨c,hs_c⟩:=geX (l:=(l)) (i:=k) (by have:=Hnn.o;omega);obtain⟨g_c,o_c,c_c,hvv,_,_,_,hgl_c,a0_c⟩:=(HL.o.ext Hx.o).get hs_c;simp only[Yg]at hvv;obtain⟨rfl,-,rfl⟩:=hvv;have Hs_c:=Ya hs_c;clear hs_c;have m0:=lat a0_c;have HW:=Ya (H.o.up Hx.o);have hC:∀ w',(∃ p:Wf,w'=later wr p.n p.os)→Ja w' w.heap.size T:=fun w' ⟨p,e⟩=>by rw[e];exact(Hb0.o.ext Hx.o).ext (⟨_,_,rfl⟩)
   cases hz:(Wk T.joi c==5)
   all_goals
    have hun:=Yd;go_wp2_with fail;refine Y0 (by kernel_rfl) (by kernel_rfl) ?_;repeat(first|((with_reducible refine Xh ?_ ?_ hC ?_);(focus(go_simp;done));rfl)|((with_reducible refine Yw ?_);intro K hK;go_simp;first|((with_reducible refine hK _ ?_);clear hK K)|(apply Exists.intro;refine⟨fun _=>?_,hK _ ?_⟩;(first|(go_at_call 266;exact Y8 (Vf T _ _ (HW.o.up (⟨_,_,rfl⟩))))|(go_at_call 148;exact Y8 (Xr T _ _ (HW.o.up (⟨_,_,rfl⟩)))));clear hK K)))
    (with_reducible refine Yv ?_)
    intro w2 hy;clear hun;try simp only[Ye]
    have Hx2:=Ya (Hx.o.trans hy);clear hy HW hC m0;go_wp2_with fail;go_roundw;case rel=>first|exact⟨k+1,(k:Int),by omega,by go_num,rfl,by omega,by omega,Hx2.o⟩|exact⟨k+1,z,by omega,by go_num,rfl,hz1,hz2,Hx2.o⟩
    (simp[intOf];omega)
  have hd:=GEl k j (by omega);go_wp2_with fail;go_ret;exact⟨z,rfl,hz1,hz2,X0.o.trans Hx.o⟩
 have h0b:(!(x==0))=true:=by simp[h0]
 have h0c:(x !=0)=true:=h0b;have h0d:(x==0)=false:=by simp[h0]
 have h0H:=Ya h0;clear h0;go_wp2_with fail;go_ret;exact⟨-1,rfl,by omega,by omega,X0.o.trans Hx1.o⟩
theorem Zzj{S S':Nat→Prop}(T:Tbl)(hf:Few T)(hu:Uq T)(v:Value)(l:List Int)(j:Nat)(w:World)(h:Xi w S T)(hl:Xz w S' v l)(hj:j<l.length)(hb:l.length≤100000):Calls Tryz.prog 265 #[Vr T,v,.int .i64 (j:Int)] w (Zvn l.length w):=by
 obtain⟨A,C,rfl,hlCC,hCC⟩:=hl.shape;obtain⟨n,hnn⟩:=gnX ((l).length);have Hnn:=Ya hnn;have Hhl:=Ya hl;unfold maxLen at hCC;rw[hnn]at hlCC⊢;clear hl hnn;have X0:=Ya ((Yn w).alloc (Wx T));have H:=Ya (h.up X0.o);have Hb0:=Ya (Xn w T);clear h;have HL:=Ya (show Xz (w.alloc (Wx T)) S' (.slice A n C) l by have:=Hhl.o.ext X0.o;rwa [Hnn.o]at this);have Hf:=Ya hf;have Hu:=Ya hu;clear hf hu;rw[Hnn.o]at hj hb;have d0:decide ((j:Int)<0)=false:=Yi (by omega);have d1:decide ((n:Int)≤(j:Int))=false:=Yi (by omega);have d1n:¬ n≤j:=by omega
 have r1:=Vu n (by omega) (by omega);go_enter Tryz.func265,Tryz.ntmps265;go_wp2_with (first|(refine Xx rfl ?_)|(refine Wn Hb0.o (by go_simp) rfl ?_));refine(Vg T Hf.o Hu.o _ l _ H.o HL.o).mono ?_;rintro e w1 ⟨x,rfl,_,hx1⟩;have Hx1:=Ya hx1;clear hx1;by_cases h0:x=0
 ·subst h0;go_wp2_with fail;clear r1;go_loopw [8,7] (fun o u wr=>∃ (k:Nat) (z:Int),j≤k∧k<n∧o=.int .i64 (k:Int)∧u=.int .i64 z∧-1≤z∧z<n∧Ext (w.alloc (Wx T)) wr) (fun o _ _=>(intOf o).toNat);case atStart=>exact⟨n-1,-1,by omega,by omega,rfl,rfl,by omega,by omega,Hx1.o⟩
  clear Hx1;obtain⟨k,z,hk,hkn,rfl,rfl,hz1,hz2,hx⟩:=hrel;have Hx:=Ya hx;clear hx;by_cases hlt:j<k
  ·have hd:=LTd j k (by omega);have i0:(0:Int)≤(k:Int):=by omega
   have i1:(k:Int)<(n:Int):=by omega
   have r2:=Vu k (by omega) (by omega);obtain⟨c,hs_c⟩:=geX (l:=(l)) (i:=k) (by have:=Hnn.o;omega);obtain⟨g_c,o_c,c_c,hvv,_,_,_,hgl_c,a0_c⟩:=(HL.o.ext Hx.o).get hs_c;simp only[Yg]at hvv;obtain⟨rfl,-,rfl⟩:=hvv;have Hs_c:=Ya hs_c;clear hs_c;have m0:=lat a0_c;have HW:=Ya (H.o.up Hx.o);have hC:∀ w',(∃ p:Wf,w'=later wr p.n p.os)→Ja w' w.heap.size T:=fun w' ⟨p,e⟩=>by rw[e];exact(Hb0.o.ext Hx.o).ext (⟨_,_,rfl⟩)
   cases hz:(Wk T.joi c==5)
   all_goals
    have hun:=Yd;go_wp2_with fail;refine Y0 (by kernel_rfl) (by kernel_rfl) ?_;repeat(first|((with_reducible refine Xh ?_ ?_ hC ?_);(focus(go_simp;done));rfl)|((with_reducible refine Yw ?_);intro K hK;go_simp;first|((with_reducible refine hK _ ?_);clear hK K)|(apply Exists.intro;refine⟨fun _=>?_,hK _ ?_⟩;(first|(go_at_call 266;exact Y8 (Vf T _ _ (HW.o.up (⟨_,_,rfl⟩))))|(go_at_call 148;exact Y8 (Xr T _ _ (HW.o.up (⟨_,_,rfl⟩)))));clear hK K)))
    (with_reducible refine Yv ?_)
    intro w2 hy;clear hun;try simp only[Ye]
    have Hx2:=Ya (Hx.o.trans hy);clear hy HW hC m0;go_wp2_with fail;go_roundw;case rel=>first|exact⟨k-1,(k:Int),by omega,by omega,by first|rfl|go_num,rfl,by omega,by omega,Hx2.o⟩|exact⟨k-1,z,by omega,by omega,by first|rfl|go_num,rfl,hz1,hz2,Hx2.o⟩
    first|(simp[intOf];done)|(simp[intOf];omega)
  have hd:=GEl j k (by omega);go_wp2_with fail;go_ret;exact⟨z,rfl,hz1,hz2,X0.o.trans Hx.o⟩
 have h0b:(!(x==0))=true:=by simp[h0]
 have h0c:(x !=0)=true:=h0b;have h0d:(x==0)=false:=by simp[h0]
 have h0H:=Ya h0;clear h0;go_wp2_with fail;go_ret;exact⟨-1,rfl,by omega,by omega,X0.o.trans Hx1.o⟩
end Go.Proofs.YtnbclgbicnpmnaaGreat
