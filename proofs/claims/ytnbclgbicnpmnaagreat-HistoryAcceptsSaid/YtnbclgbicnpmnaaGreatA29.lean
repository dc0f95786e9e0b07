/- Lemmas of this claim: RV, RW, RY, RZ. Conditions: as named. -/
import Derived.Test.YtnbclgbicnpmnaaGreatA25
import Derived.Test.YtnbclgbicnpmnaaGreatA28
namespace Go.Proofs.YtnbclgbicnpmnaaGreat
open Go.RowKit Go.Sort
set_option maxHeartbeats 0
set_option maxRecDepth 100000
set_option linter.all false
theorem Zvb{S S':Nat→Prop}(T:Tbl)(hf:Few T)(hu:Uq T)(v:Value)(l:List Int)(w:World)(h:Xl w S T)(hl:Xx w S' v l):Calls Tryz.prog 230 #[Vu T,v] w (Qy w):=by
 obtain⟨A,C,rfl,hlCC,hCC⟩:=hl.shape;obtain⟨n0,hnn0⟩:=gnX ((l).length);have Hnn0:=Y4 hnn0;have Hhl:=Y4 hl;unfold maxLen at hCC;rw[hnn0]at hlCC⊢;clear hl hnn0;have X0:=Y4 ((Yl w).alloc (Xe T));have H:=Y4 (h.up X0.o);have Hb0:=Y4 (Xm w T);clear h;have HL:=Y4 (show Xx (w.alloc (Xe T)) S' (.slice A n0 C) l by have:=Hhl.o.ext X0.o;rwa [Hnn0.o]at this);have Hf:=Y4 hf;have Hu:=Y4 hu;clear hf hu;go_enter Tryz.func230,Tryz.ntmps230;go_wp2_with (first|(refine Xw rfl ?_)|(refine Xz Hb0.o rfl ?_));refine(Zur T Hf.o Hu.o _ l _ H.o HL.o).mono ?_;rintro e w1 ⟨u,d,x,rfl,hd1,_,_,hx1⟩;by_cases h0:x=0
 ·subst h0;go_wp2_with fail;refine(Zu9 u _ d l _ hd1 (HL.o.ext hx1)).mono ?_;rintro e w2 ⟨b,rfl,hx2⟩;go_wp2_with fail;go_ret;exact⟨_,rfl,X0.o.trans (hx1.trans hx2)⟩
 have d2:(x==0)=false:=by simp[h0]
 go_wp2_with fail;go_ret;exact⟨_,rfl,X0.o.trans hx1⟩
def inB(c lo hi:Int):Bool:=decide (lo≤c)&&decide (c≤hi)
theorem Zzz(c lo hi:Int)(w:World):Calls Tryz.prog 268 #[.int .i64 c,.int .i64 lo,.int .i64 hi] w fun e w'=>e=.returned (.bool (inB c lo hi))∧w=w':=by
 cases h1:decide (lo≤c)
 ·go_enter Tryz.func268,Tryz.ntmps268;go_wp2_with fail;go_ret;exact⟨by unfold inB;rw[h1];rfl,rfl⟩
 go_enter Tryz.func268,Tryz.ntmps268;go_wp2_with fail;go_ret;exact⟨by unfold inB;rw[h1];rfl,rfl⟩
theorem Zze{S:Nat→Prop}(v:Value)(l:List Int)(lo hi:Int)(w:World)(h:Xx w S v l):Calls Tryz.prog 269 #[v,.int .i64 lo,.int .i64 hi] w (Qy w):=by
 obtain⟨A,C,rfl,hlCC,hCC⟩:=h.shape;obtain⟨n,hnn⟩:=gnX ((l).length);have Hnn:=Y4 hnn;have Hh:=Y4 h;unfold maxLen at hCC;rw[hnn]at hlCC⊢;clear h hnn;go_enter Tryz.func269,Tryz.ntmps269;go_wp2_with fail;go_loopw [11] (fun o wr=>∃ i:Nat,i≤n∧o=.int .i64 (i:Int)∧Ext w wr) (fun o _=>n-(intOf o).toNat);case atStart=>exact⟨0,by omega,rfl,xE⟩
 obtain⟨i,hi_i,rfl,hx⟩:=hrel;have Hx:=Y4 hx;clear hx;by_cases hlt:i<n
 ·obtain⟨hd_i,i0_i,i1_i⟩:=LTl i n;obtain⟨x,hs_x⟩:=geX (l:=(l)) (i:=i) (by have:=Hnn.o;omega);obtain⟨g_x,o_x,c_x,hvv,_,_,_,hgl_x,a0_x⟩:=(Hh.o.ext Hx.o).get hs_x;simp only[Ye]at hvv;obtain⟨rfl,-,rfl⟩:=hvv;have Hs_x:=Y4 hs_x;clear hs_x;cases hb:inB x lo hi
  ·go_wp2_with (go_at_call 268;refine(Zzz _ _ _ _).mono ?_;rintro e w' ⟨rfl,rfl⟩;rw[hb]);all_goals
    have hx:=Hx.o
    first
    | (go_roundw
       case rel=>exact⟨i+1,by omega,by go_num,xE⟩
       (simp[intOf];omega))
    | (go_ret;exact⟨_,rfl,xE⟩)
  go_wp2_with (go_at_call 268;refine(Zzz _ _ _ _).mono ?_;rintro e w' ⟨rfl,rfl⟩;rw[hb]);all_goals
   have hx:=Hx.o
   first
   | (go_roundw
      case rel=>exact⟨i+1,by omega,by go_num,xE⟩
      (simp[intOf];omega))
   | (go_ret;exact⟨_,rfl,xE⟩)
 have hd_i:=GEl i n;go_wp2_with fail;all_goals
  have hx:=Hx.o
  first
  | (go_roundw
     case rel=>exact⟨i+1,by omega,by go_num,xE⟩
     (simp[intOf];omega))
  | (go_ret;exact⟨_,rfl,xE⟩)
theorem Zqj{S:Nat→Prop}(v:Value)(l:List Int)(i:Int)(w:World)(h:Xx w S v l):Calls Tryz.prog 252 #[v,.int .i64 i] w (Gj w):=by
 obtain⟨A,C,rfl,hlCC,hCC⟩:=h.shape;obtain⟨n,hnn⟩:=gnX ((l).length);have Hnn:=Y4 hnn;have Hh:=Y4 h;unfold maxLen at hCC;rw[hnn]at hlCC⊢;clear h hnn;go_enter Tryz.func252,Tryz.ntmps252;by_cases h0:i<0
 ·have d0:decide (i<0)=true:=Yf h0;go_wp2_with fail;go_ret;exact⟨_,rfl,Yl _⟩
 have d0:decide (i<0)=false:=Yg h0;by_cases h1:(n:Int)≤i
 ·have d1:decide ((n:Int)≤i)=true:=Yf h1;go_wp2_with fail;go_ret;exact⟨_,rfl,Yl _⟩
 obtain⟨j,rfl⟩:∃ j:Nat,i=(j:Int):=⟨i.toNat,by omega⟩;have d1:decide ((n:Int)≤(j:Int))=false:=Yg h1;have i0:(0:Int)≤(j:Int):=by omega
 have i1:(j:Int)<(n:Int):=by omega
 have hlt:j<n:=by omega
 have Hx:=Y4 (Yl w);obtain⟨x,hs_x⟩:=geX (l:=(l)) (i:=j) (by have:=Hnn.o;omega);obtain⟨g_x,o_x,c_x,hvv,_,_,_,hgl_x,a0_x⟩:=(Hh.o.ext Hx.o).get hs_x;simp only[Ye]at hvv;obtain⟨rfl,-,rfl⟩:=hvv;have Hs_x:=Y4 hs_x;clear hs_x;go_wp2_with fail;go_ret;exact⟨_,rfl,Yl _⟩
def Zwx(T:Tbl)(c:Int):List Int:=if Zt7 T c=3 then Rm T c else if Zt7 T c=1∨Zt7 T c=4 then[c]else[]
def Gq(T:Tbl)(l:List Int):List Int:=l.flatMap (Zwx T)
theorem Zzt{T:Tbl}(hf:Few T)(c:Int):(Zwx T c).length≤18:=by
 unfold Zwx;split
 ·unfold Rm;split
  ·simp
  exact K6 hf.map c
 split<;>simp
theorem Zuy{T:Tbl}(hf:Few T)(l:List Int):(Gq T l).length≤l.length*18:=by
 unfold Gq
 induction l with
 | nil=>simp
 | cons c r ih=>rw[Zjr,Zs,Zl];have:=Zzt hf c;omega
def Zpj(T:Tbl)(l:List Int)(w:World)(e:Ending)(w':World):Prop:=∃ (v:Value) (r:List Int) (p x:Int),e=.returned (.tuple #[v,.int .i64 p,.int .i64 x])∧RdE Wi w' (fun k=>w.heap.size≤k) v r∧r.length≤4096∧(x=0→r=Gq T l)∧Ext w w'
theorem Zuz{S S':Nat→Prop}(T:Tbl)(hf:Few T)(hu:Uq T)(v:Value)(l:List Int)(w:World)(h:Xl w S T)(hl:Xx w S' v l):Calls Tryz.prog 209 #[Vu T,v] w (Zpj T l w):=by
 obtain⟨A,C,rfl,hlCC,hCC⟩:=hl.shape;obtain⟨n,hnn⟩:=gnX ((l).length);have Hnn:=Y4 hnn;have Hhl:=Y4 hl;unfold maxLen at hCC;rw[hnn]at hlCC⊢;clear hl hnn;have X0:=Y4 ((Yl w).alloc (Xe T));have H:=Y4 (h.up X0.o);have Hb0:=Y4 (Xm w T);clear h;have HL:=Y4 (show Xx (w.alloc (Xe T)) S' (.slice A n C) l by have:=Hhl.o.ext X0.o;rwa [Hnn.o]at this);have Hf:=Y4 hf;have Hu:=Y4 hu;obtain⟨B,hB⟩:=gnX ((w.alloc (Xe T)).heap.size);have HB:=Y4 hB;clear hf hu hB;go_enter Tryz.func209,Tryz.ntmps209;go_wp2_with (first|(refine Xw rfl ?_)|(refine Xz Hb0.o rfl ?_));refine(Vk T Hf.o Hu.o _ l _ H.o HL.o).mono ?_;rintro e w1 ⟨x,rfl,hacc,hx1⟩;have Hx1:=Y4 hx1;clear hx1;by_cases h0:x=0
 ·subst h0;obtain⟨_,hl4,_⟩:=hacc rfl;rw[Hnn.o]at hl4;clear hacc;go_wp2_with fail;go_loopw [19,8] (fun o u wr=>∃ i:Nat,i≤n∧o=.int .i64 (i:Int)∧Own Wi wr B u (Gq T (l.take i))∧Ext (w.alloc (Xe T)) wr) (fun o _ _=>n-(intOf o).toNat);case atStart=>exact⟨0,by omega,rfl,Own.nil _ _ _,Hx1.o⟩
  clear Hx1;obtain⟨i,hi,rfl,ho,hx⟩:=hrel;obtain⟨p,hp⟩:=gnX (Gq T (l.take i));rw[hp]at ho;have hpl:p.length≤i*18:=by rw[← hp];exact Zm5 (Zuy Hf.o _) (Zlq _ (by rw[Zp];omega))
  have hi18:i*18≤4096*18:=Zlq _ (by omega);obtain⟨A2,C2,rfl,hlC2,hC2⟩:=ho.shape;obtain⟨m,hm⟩:=gnX (p.length);have hoI:Own Wi wr B (.slice A2 m C2) p:=by rw[← hm];exact ho
  rw[hm]at hlC2 hpl⊢;have Hx:=Y4 hx;have Ho:=Y4 hoI;have Hm:=Y4 hm;have Hp:=Y4 hp;have hBw:B≤wr.heap.size:=by rw[← HB.o];exact hx.size
  unfold maxLen at hC2;clear hx ho hoI hm hp;by_cases hlt:i<n
  ·obtain⟨hd_i,i0_i,i1_i⟩:=LTl i n;obtain⟨c,hs_c⟩:=geX (l:=(l)) (i:=i) (by have:=Hnn.o;omega);obtain⟨g_c,o_c,c_c,hvv,_,_,_,hgl_c,a0_c⟩:=(HL.o.ext Hx.o).get hs_c;simp only[Ye]at hvv;obtain⟨rfl,-,rfl⟩:=hvv;have Hs_c:=Y4 hs_c;clear hs_c;have Hnew:=Y4 (show Gq T (l.take (i+1))=p++Zwx T c by rw[Wt Hs_c.o,Gq,List.flatMap_append,← Gq,Hp.o];simp);have hcl:=Zzt Hf.o c;obtain⟨st,hst⟩:=gnX (Zt7 T c);have Hst:=Y4 hst;clear hst;by_cases e0:st=0
   ·subst e0;go_wp2_with (first|(refine Xz (Hb0.o.ext Hx.o) rfl ?_)|(go_at_call 144;refine(Qo T c _ (H.o.up Hx.o)).mono ?_;rintro e w2 ⟨rfl,hx2⟩;rw[Hst.o];have Hx2:=Y4 hx2;clear hx2));go_ret3;exact⟨_,[],_,16,rfl,Xx.nil _ _,Zlx _,fun h=>absurd h (by decide),X0.o.trans (Hx.o.trans Hx2.o)⟩
   have f0:(st==0)=false:=by simp[e0]
   by_cases e3:st=3
   ·subst e3;go_wp2_with (first|(refine Xz (Hb0.o.ext Hx.o) rfl ?_)|(go_at_call 144;refine(Qo T c _ (H.o.up Hx.o)).mono ?_;rintro e w2 ⟨rfl,hx2⟩;rw[Hst.o];have Hx2:=Y4 hx2;clear hx2)|(refine Xz (Hb0.o.ext (Hx.o.trans Hx2.o)) rfl ?_));refine(Zrm T c _ (H.o.up (Hx.o.trans Hx2.o))).mono ?_;rintro e w3 ⟨u,rfl,hu3,hx3⟩;obtain⟨A3,C3,rfl,_,_⟩:=hu3.shape;have Hmc:=Y4 (show Zwx T c=Rm T c by unfold Zwx;rw[Zm4 Hst.o]);rw[Hmc.o]at hcl;obtain⟨k,hk⟩:=gnX ((Rm T c).length);have Hu3:=Y4 (show RdE Wi w3 (fun _=>True) (.slice A3 k C3) (Rm T c) by rw[← hk];exact hu3);rw[hk]at hcl⊢;have Hk:=Y4 hk;have Hx3:=Y4 (Hx2.o.trans hx3);clear hk hu3 hx3;go_wp2_with (at_builtin;refine Xu Wi _ _ _ rfl rfl rfl rfl (Ho.o.ext Hx3.o) rfl Hu3.o (by rw[Hm.o,Hk.o];omega) (by show 8≤1000;omega) (Zm5 hBw Hx3.o.size) ?_;intro A5 n5 c5 w5 hg5;have Hx5:=Y4 (hg5.ext (w.alloc (Xe T)) (Hx.o.trans Hx3.o) (by rw[HB.o];exact Yn _));have Hg5:=Y4 hg5;clear hg5);go_roundw;case rel=>exact⟨i+1,by omega,by go_num,by rw[Hnew.o,Hmc.o];exact Hg5.o.own,Hx5.o⟩
    (simp[intOf];omega)
   have f3:(st==3)=false:=by simp[e3]
   by_cases e1:st=1
   ·subst e1;have Hmc:=Y4 (show Zwx T c=[c] by unfold Zwx;rw[Zm2 (by rw[Hst.o];decide),Zm4 (.inl Hst.o)]);go_wp2_with (first|(refine Xz (Hb0.o.ext Hx.o) rfl ?_)|(go_at_call 144;refine(Qo T c _ (H.o.up Hx.o)).mono ?_;rintro e w2 ⟨rfl,hx2⟩;rw[Hst.o];have Hx2:=Y4 hx2;clear hx2)|(at_builtin;refine Xu Wi _ _ _ rfl rfl rfl rfl (Ho.o.ext (Hx2.o.alloc _)) rfl (Wv w2 c _ _ rfl) (by rw[Hm.o];show m+1≤_;omega) (by show 8≤1000;omega) (by have:=Hx2.o.size;simp;omega) ?_;intro A5 n5 c5 w5 hg5;have Hx5:=Y4 (hg5.ext (w.alloc (Xe T)) ((Hx.o.trans Hx2.o).alloc _) (by rw[HB.o];exact Yn _));have Hg5:=Y4 hg5;clear hg5));go_roundw;case rel=>exact⟨i+1,by omega,by go_num,by rw[Hnew.o,Hmc.o];exact Hg5.o.own,Hx5.o⟩
    (simp[intOf];omega)
   have f1:(st==1)=false:=by simp[e1]
   by_cases e4:st=4
   ·subst e4;have Hmc:=Y4 (show Zwx T c=[c] by unfold Zwx;rw[Zm2 (by rw[Hst.o];decide),Zm4 (.inr Hst.o)]);go_wp2_with (first|(refine Xz (Hb0.o.ext Hx.o) rfl ?_)|(go_at_call 144;refine(Qo T c _ (H.o.up Hx.o)).mono ?_;rintro e w2 ⟨rfl,hx2⟩;rw[Hst.o];have Hx2:=Y4 hx2;clear hx2)|(at_builtin;refine Xu Wi _ _ _ rfl rfl rfl rfl (Ho.o.ext (Hx2.o.alloc _)) rfl (Wv w2 c _ _ rfl) (by rw[Hm.o];show m+1≤_;omega) (by show 8≤1000;omega) (by have:=Hx2.o.size;simp;omega) ?_;intro A5 n5 c5 w5 hg5;have Hx5:=Y4 (hg5.ext (w.alloc (Xe T)) ((Hx.o.trans Hx2.o).alloc _) (by rw[HB.o];exact Yn _));have Hg5:=Y4 hg5;clear hg5));go_roundw;case rel=>exact⟨i+1,by omega,by go_num,by rw[Hnew.o,Hmc.o];exact Hg5.o.own,Hx5.o⟩
    (simp[intOf];omega)
   have f4:(st==4)=false:=by simp[e4]
   have Hmc:=Y4 (show Zwx T c=[] by unfold Zwx;rw[Zm2 (by rw[Hst.o];exact e3),Zm2 (by rw[Hst.o];exact fun h=>h.elim e1 e4)]);clear e0 e3 e1 e4;go_wp2_with (first|(refine Xz (Hb0.o.ext Hx.o) rfl ?_)|(go_at_call 144;refine(Qo T c _ (H.o.up Hx.o)).mono ?_;rintro e w2 ⟨rfl,hx2⟩;rw[Hst.o];have Hx2:=Y4 hx2;clear hx2));go_roundw;case rel=>exact⟨i+1,by omega,by go_num,by rw[Hnew.o,Hmc.o,Ziy];exact(by have:=Ho.o.ext Hx2.o;rw[← Hm.o]at *;exact this),Hx.o.trans Hx2.o⟩
   (simp[intOf];omega)
  have hd_i:=GEl i n;have hpe:p=Gq T l:=by rw[← Hp.o,Zm (by rw[Hnn.o];omega)]
  have Hpe:=Y4 hpe;clear hpe;by_cases hbig:4096<m
  ·have d1:decide ((4096:Int)<(m:Int))=true:=Yf;go_wp2_with fail;go_ret3;exact⟨_,[],0,7,rfl,Xx.nil _ _,Zlx _,fun h=>absurd h (by decide),X0.o.trans Hx.o⟩
  have d1:decide ((4096:Int)<(m:Int))=false:=Yg;go_wp2_with fail;go_ret3;refine⟨_,p,0,0,rfl,?_,by rw[Hm.o];omega,fun _=>Hpe.o,X0.o.trans Hx.o⟩;have:=Ho.o.rd;rw[← Hm.o]at this⊢;exact Rd.mono this fun k hk _=>Zm5 (by have:=X0.o.size;have:=HB.o;omega) hk
 have d2:(!(x==0))=true:=by simp[h0]
 have d3:(x !=0)=true:=d2;have H0:=Y4 h0;clear h0 hacc;go_wp2_with fail;go_ret3;exact⟨_,[],0,x,rfl,Xx.nil _ _,Zlx _,fun h=>absurd h H0.o,X0.o.trans Hx1.o⟩
theorem Zrw{S S':Nat→Prop}(T:Tbl)(v:Value)(l:List Int)(w:World)(h:Xl w S T)(hl:Xx w S' v l):Calls Tryz.prog 267 #[Vu T,v] w (Qy w):=by
 obtain⟨A,C,rfl,hlCC,hCC⟩:=hl.shape;obtain⟨n,hnn⟩:=gnX ((l).length);have Hnn:=Y4 hnn;have Hhl:=Y4 hl;unfold maxLen at hCC;rw[hnn]at hlCC⊢;clear hl hnn;have X0:=Y4 ((Yl w).alloc (Xe T));have H:=Y4 (h.up X0.o);have Hb0:=Y4 (Xm w T);clear h;have HL:=Y4 (show Xx (w.alloc (Xe T)) S' (.slice A n C) l by have:=Hhl.o.ext X0.o;rwa [Hnn.o]at this);go_enter Tryz.func267,Tryz.ntmps267;go_wp2_with (refine Xw rfl ?_);go_loopw [10] (fun o wr=>∃ i:Nat,i≤n∧o=.int .i64 (i:Int)∧Ext (w.alloc (Xe T)) wr) (fun o _=>n-(intOf o).toNat);case atStart=>exact⟨0,by omega,rfl,Yl _⟩
 obtain⟨i,hi_i,rfl,hx⟩:=hrel;have Hx:=Y4 hx;clear hx;by_cases hlt:i<n
 ·obtain⟨hd_i,i0_i,i1_i⟩:=LTl i n;obtain⟨x,hs_x⟩:=geX (l:=(l)) (i:=i) (by have:=Hnn.o;omega);obtain⟨g_x,o_x,c_x,hvv,_,_,_,hgl_x,a0_x⟩:=(HL.o.ext Hx.o).get hs_x;simp only[Ye]at hvv;obtain⟨rfl,-,rfl⟩:=hvv;have Hs_x:=Y4 hs_x;clear hs_x;go_wp2_with (refine Xz (Hb0.o.ext Hx.o) rfl ?_);refine(Nc T _ _ (H.o.up Hx.o)).mono ?_;rintro e w1 ⟨v1,rfl,hx1⟩;go_wp2_with fail;all_goals
   have hx:=Hx.o
   first
   | (go_roundw
      case rel=>exact⟨i+1,by omega,by go_num,xE⟩
      (simp[intOf];omega))
   | (go_ret;exact⟨_,rfl,X0.o.trans xE⟩)
 have hd_i:=GEl i n;go_wp2_with fail;all_goals
  have hx:=Hx.o
  first
  | (go_roundw
     case rel=>exact⟨i+1,by omega,by go_num,xE⟩
     (simp[intOf];omega))
  | (go_ret;exact⟨_,rfl,X0.o.trans xE⟩)
theorem last_any{S S':Nat→Prop}(T:Tbl)(v:Value)(l:List Int)(w:World)(h:Xl w S T)(hl:Xx w S' v l):Calls Tryz.prog 256 #[Vu T,v] w (Gj w):=by
 obtain⟨A,C,rfl,hlCC,hCC⟩:=hl.shape;obtain⟨n,hnn⟩:=gnX ((l).length);have Hnn:=Y4 hnn;have Hhl:=Y4 hl;unfold maxLen at hCC;rw[hnn]at hlCC⊢;clear hl hnn;have X0:=Y4 ((Yl w).alloc (Xe T));have H:=Y4 (h.up X0.o);have Hb0:=Y4 (Xm w T);clear h;have HL:=Y4 (show Xx (w.alloc (Xe T)) S' (.slice A n C) l by have:=Hhl.o.ext X0.o;rwa [Hnn.o]at this);go_enter Tryz.func256,Tryz.ntmps256;go_wp2_with (refine Xw rfl ?_);go_loopw [11,5] (fun o k wr=>∃ (i:Nat) (z:Int),i≤n∧o=.int .i64 (i:Int)∧k=.int .i64 z∧Ext (w.alloc (Xe T)) wr) (fun o _ _=>n-(intOf o).toNat);case atStart=>exact⟨0,-1,by omega,rfl,rfl,Yl _⟩
 obtain⟨i,z,hi,rfl,rfl,hx⟩:=hrel;have Hx:=Y4 hx;clear hx;by_cases hlt:i<n
 ·obtain⟨hd_i,i0_i,i1_i⟩:=LTl i n;obtain⟨x,hs_x⟩:=geX (l:=(l)) (i:=i) (by have:=Hnn.o;omega);obtain⟨g_x,o_x,c_x,hvv,_,_,_,hgl_x,a0_x⟩:=(HL.o.ext Hx.o).get hs_x;simp only[Ye]at hvv;obtain⟨rfl,-,rfl⟩:=hvv;have Hs_x:=Y4 hs_x;clear hs_x;go_wp2_with (refine Xz (Hb0.o.ext Hx.o) rfl ?_);refine(Ou T _ _ (H.o.up Hx.o)).mono ?_;rintro e w1 ⟨v1,rfl,hx1⟩;go_wp2_with fail;all_goals
   go_roundw;case rel=>exact⟨i+1,_,by omega,by go_num,rfl,Hx.o.trans hx1⟩
   (simp[intOf];omega)
 have hd_i:=GEl i n;go_wp2_with fail;go_ret;exact⟨z,rfl,X0.o.trans Hx.o⟩
theorem K3{S S' S'':Nat→Prop}(T:Tbl)(v:Value)(l:List Int)(u:Value)(cl:List Int)(w:World)(h:Xl w S T)(hl:Xx w S' v l)(hc:Xx w S'' u cl):Calls Tryz.prog 255 #[Vu T,v,u] w (Qy w):=by
 obtain⟨A,C,rfl,hlCC,hCC⟩:=hl.shape;obtain⟨n,hnn⟩:=gnX ((l).length);have Hnn:=Y4 hnn;have Hhl:=Y4 hl;unfold maxLen at hCC;rw[hnn]at hlCC⊢;clear hl hnn;obtain⟨D,E,rfl,hlCE,hCE⟩:=hc.shape;obtain⟨k,hnk⟩:=gnX ((cl).length);have Hnk:=Y4 hnk;have Hhc:=Y4 hc;unfold maxLen at hCE;rw[hnk]at hlCE⊢;clear hc hnk;have X0:=Y4 ((Yl w).alloc (Xe T));have H:=Y4 (h.up X0.o);have Hb0:=Y4 (Xm w T);clear h;have HL:=Y4 (show Xx (w.alloc (Xe T)) S' (.slice A n C) l by have:=Hhl.o.ext X0.o;rwa [Hnn.o]at this);have HC:=Y4 (show Xx (w.alloc (Xe T)) S'' (.slice D k E) cl by have:=Hhc.o.ext X0.o;rwa [Hnk.o]at this);go_enter Tryz.func255,Tryz.ntmps255;go_wp2_with (refine Xw rfl ?_);go_loopw [13] (fun o wr=>∃ i:Nat,i≤n∧o=.int .i64 (i:Int)∧Ext (w.alloc (Xe T)) wr) (fun o _=>n-(intOf o).toNat);case atStart=>exact⟨0,by omega,rfl,Yl _⟩
 obtain⟨i,hi_i,rfl,hx⟩:=hrel;have Hx:=Y4 hx;clear hx;by_cases hlt:i<n
 ·obtain⟨hd_i,i0_i,i1_i⟩:=LTl i n;obtain⟨x,hs_x⟩:=geX (l:=(l)) (i:=i) (by have:=Hnn.o;omega);obtain⟨g_x,o_x,c_x,hvv,_,_,_,hgl_x,a0_x⟩:=(HL.o.ext Hx.o).get hs_x;simp only[Ye]at hvv;obtain⟨rfl,-,rfl⟩:=hvv;have Hs_x:=Y4 hs_x;clear hs_x;go_wp2_with fail;have Hlt:=Y4 hlt;have Hx1:=Y4 Hx.o;clear Hx hlt a0_x hgl_x;go_loopw [19] (fun o wr=>∃ i:Nat,i≤k∧o=.int .i64 (i:Int)∧Ext (w.alloc (Xe T)) wr) (fun o _=>k-(intOf o).toNat);case atStart=>exact⟨0,by omega,rfl,Hx1.o⟩
  clear Hx1;obtain⟨j,hi_j,rfl,hx⟩:=hrel;have Hx:=Y4 hx;clear hx;by_cases hlt:j<k
  ·obtain⟨hd_j,i0_j,i1_j⟩:=LTl j k;obtain⟨y,hs_y⟩:=geX (l:=(cl)) (i:=j) (by have:=Hnk.o;omega);obtain⟨g_y,o_y,c_y,hvv,_,_,_,hgl_y,a0_y⟩:=(HC.o.ext Hx.o).get hs_y;simp only[Ye]at hvv;obtain⟨rfl,-,rfl⟩:=hvv;have Hs_y:=Y4 hs_y;clear hs_y;go_wp2_with (refine Xz (Hb0.o.ext Hx.o) rfl ?_);refine(Ou T _ _ (H.o.up Hx.o)).mono ?_;rintro e w1 ⟨v1,rfl,hx1⟩;go_wp2_with fail;all_goals
    have hx:=Hx.o
    first
    | (go_roundw
       case rel=>exact⟨j+1,by omega,by go_num,xE⟩
       (simp[intOf];omega))
    | (go_ret;exact⟨_,rfl,X0.o.trans xE⟩)
  have hd_j:=GEl j k;have hlo:=Hlt.o;go_wp2_with fail;go_roundw;case rel=>exact⟨i+1,by omega,by go_num,Hx.o⟩
  (simp[intOf];omega)
 have hd_i:=GEl i n;go_wp2_with fail;all_goals
  have hx:=Hx.o
  first
  | (go_roundw
     case rel=>exact⟨i+1,by omega,by go_num,xE⟩
     (simp[intOf];omega))
  | (go_ret;exact⟨_,rfl,X0.o.trans xE⟩)
theorem Zo6{S S':Nat→Prop}(T:Tbl)(hf:Few T)(hu:Uq T)(v:Value)(l:List Int)(w:World)(h:Xl w S T)(hl:Xx w S' v l):Calls Tryz.prog 235 #[Vu T,v] w (Qy w):=by
 obtain⟨A,C,rfl,hlCC,hCC⟩:=hl.shape;obtain⟨n,hnn⟩:=gnX ((l).length);have Hnn:=Y4 hnn;have Hhl:=Y4 hl;unfold maxLen at hCC;rw[hnn]at hlCC⊢;clear hl hnn;have X0:=Y4 ((Yl w).alloc (Xe T));have H:=Y4 (h.up X0.o);have Hb0:=Y4 (Xm w T);clear h;have HL:=Y4 (show Xx (w.alloc (Xe T)) S' (.slice A n C) l by have:=Hhl.o.ext X0.o;rwa [Hnn.o]at this);have Hf:=Y4 hf;have Hu:=Y4 hu;clear hf hu;go_enter Tryz.func235,Tryz.ntmps235;go_wp2_with (first|(refine Xw rfl ?_)|(refine Xz Hb0.o rfl ?_));refine(Vk T Hf.o Hu.o _ l _ H.o HL.o).mono ?_;rintro e w0 ⟨x,rfl,_,hx0⟩;by_cases h0:x=0
 ·subst h0;go_wp2_with (first|(refine Wr (Hb0.o.ext hx0) (by go_simp) rfl ?_)|(go_at_call 255;refine(K3 T _ l _ [1,2,3] _ (H.o.up xE) (HL.o.ext xE) (Wp _ _ [1,2,3] 3 rfl _ rfl (by omega))).mono ?_;rintro e w1 ⟨v1,rfl,hx1⟩));go_ret;exact⟨_,rfl,X0.o.trans xE⟩
 have h0b:(!(x==0))=true:=by simp[h0]
 have h0c:(x !=0)=true:=h0b;have h0d:(x==0)=false:=by simp[h0]
 have h0H:=Y4 h0;clear h0;go_wp2_with fail;go_ret;exact⟨_,rfl,X0.o.trans hx0⟩
theorem Zr6{S S':Nat→Prop}(T:Tbl)(hf:Few T)(hu:Uq T)(v:Value)(l:List Int)(w:World)(h:Xl w S T)(hl:Xx w S' v l):Calls Tryz.prog 236 #[Vu T,v] w (Aa w):=by
 obtain⟨A,C,rfl,hlCC,hCC⟩:=hl.shape;obtain⟨n,hnn⟩:=gnX ((l).length);have Hnn:=Y4 hnn;have Hhl:=Y4 hl;unfold maxLen at hCC;rw[hnn]at hlCC⊢;clear hl hnn;have X0:=Y4 ((Yl w).alloc (Xe T));have H:=Y4 (h.up X0.o);have Hb0:=Y4 (Xm w T);clear h;have HL:=Y4 (show Xx (w.alloc (Xe T)) S' (.slice A n C) l by have:=Hhl.o.ext X0.o;rwa [Hnn.o]at this);have Hf:=Y4 hf;have Hu:=Y4 hu;clear hf hu;go_enter Tryz.func236,Tryz.ntmps236;go_wp2_with (first|(refine Xw rfl ?_)|(refine Xz Hb0.o rfl ?_));refine(Vk T Hf.o Hu.o _ l _ H.o HL.o).mono ?_;rintro e w0 ⟨x,rfl,_,hx0⟩;by_cases h0:x=0
 ·subst h0;by_cases hn0:n=0
  ·have hn1:((n:Int)==0)=true:=by simp[hn0]
   have hn2:(n==0)=true:=by simp[hn0]
   go_wp2_with fail;go_ret2;exact⟨_,_,rfl,X0.o.trans hx0⟩
  have hn1:((n:Int)==0)=false:=by simp;omega
  have hn2:(n==0)=false:=by simp;omega
  have hn3:0<n:=by omega
  have i0:(0:Int)<(n:Int):=by omega
  go_wp2_with (refine Xz (Hb0.o.ext hx0) rfl ?_);refine(last_any T _ l _ (H.o.up hx0) (HL.o.ext hx0)).mono ?_;rintro e w2 ⟨z,rfl,hx2⟩;have Hx:=Y4 (hx0.trans hx2);have hlt:0<n:=hn3;obtain⟨c,hs_c⟩:=geX (l:=(l)) (i:=0) (by have:=Hnn.o;omega);obtain⟨g_c,o_c,c_c,hvv,_,_,_,hgl_c,a0_c⟩:=(HL.o.ext Hx.o).get hs_c;simp only[Ye]at hvv;obtain⟨rfl,-,rfl⟩:=hvv;have Hs_c:=Y4 hs_c;clear hs_c;clear hx0 hx2;rw[Zl3]at a0_c;have z0:(w2).cell? ⟨w.heap.size,0,none⟩=some T.catV:=(Hb0.o.ext Hx.o).at_ 0 (by omega);have z1:(w2).cell? ⟨w.heap.size,1,none⟩=some T.clsV:=(Hb0.o.ext Hx.o).at_ 1 (by omega);have z2:(w2).cell? ⟨w.heap.size,2,none⟩=some T.joiV:=(Hb0.o.ext Hx.o).at_ 2 (by omega);have z3:(w2).cell? ⟨w.heap.size,3,none⟩=some T.bidV:=(Hb0.o.ext Hx.o).at_ 3 (by omega);have z4:(w2).cell? ⟨w.heap.size,4,none⟩=some T.scrV:=(Hb0.o.ext Hx.o).at_ 4 (by omega);have z5:(w2).cell? ⟨w.heap.size,5,none⟩=some T.staV:=(Hb0.o.ext Hx.o).at_ 5 (by omega);have z6:(w2).cell? ⟨w.heap.size,6,none⟩=some T.ignV:=(Hb0.o.ext Hx.o).at_ 6 (by omega);have z7:(w2).cell? ⟨w.heap.size,7,none⟩=some T.extV:=(Hb0.o.ext Hx.o).at_ 7 (by omega);have z8:(w2).cell? ⟨w.heap.size,8,none⟩=some T.mapV:=(Hb0.o.ext Hx.o).at_ 8 (by omega);have z9:(w2).cell? ⟨w.heap.size,9,none⟩=some T.decV:=(Hb0.o.ext Hx.o).at_ 9 (by omega);have z10:(w2).cell? ⟨w.heap.size,10,none⟩=some T.excV:=(Hb0.o.ext Hx.o).at_ 10 (by omega);have z11:(w2).cell? ⟨w.heap.size,11,none⟩=some T.proV:=(Hb0.o.ext Hx.o).at_ 11 (by omega);go_wp2_with fail;go_cut [26] from 22 to 26 (fun o wx=>∃ b:Int,o=.int .i64 b∧Ext w2 wx)
  case first =>
   rename_i J1 K1 hJ hM;go_region_with (go_at_call 257;refine(Ou T _ _ (H.o.up (have hx:=Hx.o;xE))).mono ?_;rintro e w3 ⟨b,rfl,hx3⟩);all_goals
    go_simp;refine hM _ _ (hJ _ _ ?_);(repeat apply Exists.intro)
    exact⟨⟨b,rfl,by first|exact hx3|exact(Yl _).drew.trans hx3|exact((Yl _).drewN _).trans hx3⟩,rfl⟩
  obtain⟨b,rfl,hxb⟩:=hcut;have hx:=Hx.o.trans hxb;clear z0 z1 z2 z3 z4 z5 z6 z7 z8 z9 z10 z11 a0_c hxb;by_cases b1:b=1
  ·subst b1;go_wp2_with (refine Xz (Hb0.o.ext hx) rfl ?_);refine(K3 T _ l _ [0,11] _ (H.o.up xE) (HL.o.ext xE) (Wp _ _ [0,11] 2 rfl _ rfl (by omega))).mono ?_;rintro e w4 ⟨b4,rfl,hx4⟩;have hx':Ext (w.alloc (Xe T)) w4:=xE;cases b4 with
   | true =>
    go_wp2_with fail;go_ret2;exact⟨_,_,rfl,X0.o.trans hx'⟩
   | false =>
    clear hx4;go_upto_region 10 with fail;go_cut [35] from 36 to 49 (fun o wx=>∃ q:Bool,o=.bool q∧wx=w4)
    case first =>
     cases a1:(z !=1)<;>cases a2:(z !=2)<;>cases a4:(z !=4)<;>cases a3:(z !=3)
     all_goals
      go_wp2_with fail;go_meet;exact⟨_,rfl,rfl⟩
    obtain⟨q,rfl,rfl⟩:=hcut;cases q with
    | true =>
     go_wp2_with fail;go_ret2;exact⟨_,_,rfl,X0.o.trans hx'⟩
    | false =>
     go_wp2_with (refine Xz (Hb0.o.ext hx') rfl ?_);clear hx;refine(K3 T _ l _ [4] _ (H.o.up xE) (HL.o.ext xE) (Wp _ _ [4] 1 rfl _ rfl (by omega))).mono ?_;rintro e w5 ⟨b5,rfl,hx5⟩;have hx'':Ext (w.alloc (Xe T)) w5:=xE;clear hx' hx5;cases b5 with
     | false =>
      go_wp2_with fail;go_ret2;exact⟨_,_,rfl,X0.o.trans hx''⟩
     | true =>
      go_wp2_with (refine Wr (Hb0.o.ext hx'') (by go_simp) rfl ?_);refine(K3 T _ l _ [3] _ (H.o.up xE) (HL.o.ext xE) (Wp _ _ [3] 1 rfl _ rfl (by omega))).mono ?_;rintro e w6 ⟨b6,rfl,hx6⟩;have hx3':Ext (w.alloc (Xe T)) w6:=xE;clear hx'' hx6;go_wp2_with fail;all_goals
       go_ret2;exact⟨_,_,rfl,X0.o.trans hx3'⟩
  have b1b:(b==1)=false:=by simp[b1]
  by_cases b2:b=2
  ·subst b2;go_wp2_with (refine Xz (Hb0.o.ext hx) rfl ?_);refine(K3 T _ l _ [0,11] _ (H.o.up xE) (HL.o.ext xE) (Wp _ _ [0,11] 2 rfl _ rfl (by omega))).mono ?_;rintro e w4 ⟨b4,rfl,hx4⟩;have hx':Ext (w.alloc (Xe T)) w4:=xE;cases b4 with
   | true =>
    go_wp2_with fail;go_ret2;exact⟨_,_,rfl,X0.o.trans hx'⟩
   | false =>
    clear hx4;go_upto_region 10 with fail;go_cut [35] from 36 to 49 (fun o wx=>∃ q:Bool,o=.bool q∧wx=w4)
    case first =>
     cases a1:(z !=1)<;>cases a2:(z !=2)<;>cases a4:(z !=4)<;>cases a3:(z !=3)
     all_goals
      go_wp2_with fail;go_meet;exact⟨_,rfl,rfl⟩
    obtain⟨q,rfl,rfl⟩:=hcut;cases q with
    | true =>
     go_wp2_with fail;go_ret2;exact⟨_,_,rfl,X0.o.trans hx'⟩
    | false =>
     go_wp2_with (refine Xz (Hb0.o.ext hx') rfl ?_);clear hx;refine(K3 T _ l _ [4] _ (H.o.up xE) (HL.o.ext xE) (Wp _ _ [4] 1 rfl _ rfl (by omega))).mono ?_;rintro e w5 ⟨b5,rfl,hx5⟩;have hx'':Ext (w.alloc (Xe T)) w5:=xE;clear hx' hx5;cases b5 with
     | false =>
      go_wp2_with fail;go_ret2;exact⟨_,_,rfl,X0.o.trans hx''⟩
     | true =>
      go_wp2_with (refine Wr (Hb0.o.ext hx'') (by go_simp) rfl ?_);refine(K3 T _ l _ [3] _ (H.o.up xE) (HL.o.ext xE) (Wp _ _ [3] 1 rfl _ rfl (by omega))).mono ?_;rintro e w6 ⟨b6,rfl,hx6⟩;have hx3':Ext (w.alloc (Xe T)) w6:=xE;clear hx'' hx6;go_wp2_with fail;all_goals
       go_ret2;exact⟨_,_,rfl,X0.o.trans hx3'⟩
  have b2b:(b==2)=false:=by simp[b2]
  by_cases b3:b=0
  ·subst b3;go_wp2_with (refine Xz (Hb0.o.ext hx) rfl ?_);refine(K3 T _ l _ [1,2,3,11] _ (H.o.up xE) (HL.o.ext xE) (Wp _ _ [1,2,3,11] 4 rfl _ rfl (by omega))).mono ?_;rintro e w4 ⟨b4,rfl,hx4⟩;have hx':Ext (w.alloc (Xe T)) w4:=xE;clear hx4 hx;go_wp2_with fail;all_goals
    go_ret2;exact⟨_,_,rfl,X0.o.trans hx'⟩
  have b3b:(b==0)=false:=by simp[b3]
  go_wp2_with fail;go_ret2;exact⟨_,_,rfl,X0.o.trans hx⟩
 have h0b:(!(x==0))=true:=by simp[h0]
 have h0c:(x !=0)=true:=h0b;have h0d:(x==0)=false:=by simp[h0]
 have h0H:=Y4 h0;clear h0;go_wp2_with fail;go_ret2;exact⟨_,_,rfl,X0.o.trans hx0⟩
theorem Tg{S:Nat→Prop}(v:Value)(l:List Int)(w:World)(h:Xx w S v l):Calls Tryz.prog 231 #[v] w (Qy w):=by
 obtain⟨A,C,rfl,hlCC,hCC⟩:=h.shape;obtain⟨n,hnn⟩:=gnX ((l).length);have Hnn:=Y4 hnn;have Hh:=Y4 h;unfold maxLen at hCC;rw[hnn]at hlCC⊢;clear h hnn;have HI:=Y4 (show Xx w S (.slice A n C) l by have:=Hh.o;rwa [Hnn.o]at this);go_enter Tryz.func231,Tryz.ntmps231;go_wp2_with (go_at_call 252;refine(Zqj _ l _ _ (HI.o.ext xE)).mono ?_;rintro e w1 ⟨v1,rfl,hx1⟩);all_goals
  go_ret;exact⟨_,rfl,xE⟩
theorem Zyi{S:Nat→Prop}(T:Tbl)(hf:Few T)(hu:Uq T)(v:Value)(ls:List (List Int))(w:World)(h:Xl w S T)(hl:Zyy w v ls):Calls Tryz.prog 216 #[Vu T,v] w (Aa w):=by
 obtain⟨A,C,rfl,hlC,hC⟩:=hl.shape;obtain⟨n,hnn⟩:=gnX (ls.length);have Hh:=Y4 hl;rw[hnn]at hlC⊢;have Hnn:=Y4 hnn;unfold maxLen at hC;clear hl hnn;have X0:=Y4 ((Yl w).alloc (Xe T));have H:=Y4 (h.up X0.o);have Hb0:=Y4 (Xm w T);clear h;have Hf:=Y4 hf;have Hu:=Y4 hu;clear hf hu;go_enter Tryz.func216,Tryz.ntmps216;go_wp2_with (refine Xw rfl ?_);go_loopw [16,6] (fun o b wr=>∃ (i:Nat) (q:Bool),i≤n∧o=.int .i64 (i:Int)∧b=.bool q∧Ext (w.alloc (Xe T)) wr) (fun o _ _=>n-(intOf o).toNat);case atStart=>exact⟨0,false,by omega,rfl,rfl,Yl _⟩
 obtain⟨i,q,hi,rfl,rfl,hx⟩:=hrel;have Hx:=Y4 hx;clear hx;by_cases hlt:i<n
 ·obtain⟨hd_i,i0_i,i1_i⟩:=LTl i n;obtain⟨x,hx0⟩:=geX (l:=ls) (i:=i) (by rw[Hnn.o];exact hlt);obtain⟨g,o,c,u,hv,_,_,hg,c0,hxu⟩:=(Hh.o.ext X0.o).get hx0;simp only[Ye]at hv;obtain⟨rfl,-,rfl⟩:=hv;replace c0:=(Hx.o.cell (p:=⟨g,o+i,none⟩) hg).trans c0;have Hxu:=Y4 hxu;have Hx0:=Y4 hx0;clear hxu hx0;go_wp2_with (refine Xz (Hb0.o.ext Hx.o) rfl ?_);refine(Vk T Hf.o Hu.o _ x _ (H.o.up Hx.o) (Hxu.o.ext Hx.o)).mono ?_;rintro e w1 ⟨y,rfl,_,hx1⟩;have Hx1:=Y4 (Hx.o.trans hx1);clear hx1;by_cases h0:y=0
  ·subst h0;cases q with
   | true =>
    go_wp2_with fail;go_roundw;case rel=>exact⟨i+1,true,by omega,by go_num,rfl,Hx1.o⟩
    (simp[intOf];omega)
   | false =>
    go_wp2_with (refine Wr (Hb0.o.ext Hx1.o) (by go_simp) rfl ?_);refine(Zo6 T Hf.o Hu.o _ x _ (H.o.up Hx1.o) (Hxu.o.ext Hx1.o)).mono ?_;rintro e w2 ⟨q2,rfl,hx2⟩;go_wp2_with fail;go_roundw;case rel=>exact⟨i+1,q2,by omega,by go_num,rfl,Hx1.o.trans hx2⟩
    (simp[intOf];omega)
  have h0b:(!(y==0))=true:=by simp[h0]
  have h0c:(y !=0)=true:=h0b;have h0d:(y==0)=false:=by simp[h0]
  have h0H:=Y4 h0;clear h0;go_wp2_with fail;go_ret2;exact⟨_,_,rfl,X0.o.trans Hx1.o⟩
 have hd_i:=GEl i n;go_wp2_with fail;have Hx1:=Y4 Hx.o;clear Hx hlt hi hd_i;go_loopw [37] (fun o wr=>∃ i:Nat,i≤n∧o=.int .i64 (i:Int)∧Ext (w.alloc (Xe T)) wr) (fun o _=>n-(intOf o).toNat);case atStart=>exact⟨0,by omega,rfl,Hx1.o⟩
 clear Hx1;obtain⟨i,hi_i,rfl,hx⟩:=hrel;have Hx:=Y4 hx;clear hx;by_cases hlt:i<n
 ·obtain⟨hd_i,i0_i,i1_i⟩:=LTl i n;obtain⟨x,hx0⟩:=geX (l:=ls) (i:=i) (by rw[Hnn.o];exact hlt);obtain⟨g,o,c,u,hv,_,_,hg,c0,hxu⟩:=(Hh.o.ext X0.o).get hx0;simp only[Ye]at hv;obtain⟨rfl,-,rfl⟩:=hv;replace c0:=(Hx.o.cell (p:=⟨g,o+i,none⟩) hg).trans c0;have Hxu:=Y4 hxu;have Hx0:=Y4 hx0;clear hxu hx0;go_wp2_with (refine Xz (Hb0.o.ext Hx.o) rfl ?_);refine(Zr6 T Hf.o Hu.o _ x _ (H.o.up Hx.o) (Hxu.o.ext Hx.o)).mono ?_;rintro e w1 ⟨y,z,rfl,hx1⟩;cases q
  ·go_wp2_with fail;go_roundw;case rel=>exact⟨i+1,by omega,by go_num,Hx.o.trans hx1⟩
   (simp[intOf];omega)
  go_wp2_with fail;all_goals
   first
   | (go_roundw
      case rel=>exact⟨i+1,by omega,by go_num,Hx.o.trans hx1⟩
      (simp[intOf];omega))
   | (go_ret2;exact⟨_,_,rfl,X0.o.trans (Hx.o.trans hx1)⟩)
 have hd_i:=GEl i n;go_wp2_with fail;go_ret2;exact⟨_,_,rfl,X0.o.trans Hx.o⟩
end Go.Proofs.YtnbclgbicnpmnaaGreat
