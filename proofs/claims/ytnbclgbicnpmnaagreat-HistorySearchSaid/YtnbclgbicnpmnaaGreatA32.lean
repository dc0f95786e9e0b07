/- Lemmas of this claim: Sa, P7, Sb. Conditions: as named. -/
import Derived.Test.YtnbclgbicnpmnaaGreatA08
import Derived.Test.YtnbclgbicnpmnaaGreatA28
import Derived.Test.YtnbclgbicnpmnaaGreatA31
namespace Go.Proofs.YtnbclgbicnpmnaaGreat
open Go.RowKit Go.Sort
set_option maxHeartbeats 0
set_option maxRecDepth 100000
set_option linter.all false
def Zmo(w:World)(e:Ending)(w':World):Prop:=∃ v:Int,e=.returned (.int .u64 v)∧Ext w w'
theorem Ss(s:Int)(w:World):Calls Tryz.prog 240 #[.int .i64 s] w (Zmo w):=by
 go_enter Tryz.func240,Tryz.ntmps240;go_wp2_with fail;all_goals
  go_ret;exact⟨_,rfl,Yn _⟩
theorem Ex{S:Nat→Prop}(T:Tbl)(hf:Few T)(c:Int)(w:World)(h:Xn w S T):Calls Tryz.prog 218 #[Vt T,.int .i64 c] w (Zmo w):=by
 obtain⟨A7,C7,e7,hl7,hc7⟩:=h.ext.shape;have h7:=h.ext.ext ((Yn w).alloc (Xe T));obtain⟨n7,hn7⟩:=gnX (T.ext.length);rw[hn7]at e7 hl7;rw[e7]at h7;have Hn7:=Ya hn7;have E7:=Ya e7;have H7:=Ya h7;unfold maxLen at hc7;clear hn7 e7 h7;have X0:=Ya ((Yn w).alloc (Xe T));have H:=Ya (h.up X0.o);have Hb0:=Ya (Xo w T);clear h;have hel:=Uz hf.ext c;obtain⟨FA,FC,ef,fl,fc⟩:=(Qt (S:=S) (c:=c) H7.o.2).shape;obtain⟨k,hk⟩:=gnX ((Xg T.ext c).length);have hfa:=Qt (S:=S) (c:=c) H7.o.2;rw[ef,hk]at hfa;rw[hk]at ef fl hel;have Hk:=Ya hk;have Hfa:=Ya hfa;clear hk hfa;go_enter Tryz.func218,Tryz.ntmps218;go_wp2_with (first|(refine Xx rfl ?_)|(refine Y4 Hb0.o rfl ?_));refine(Zzs T c _ H.o).mono ?_;rintro e w1 ⟨rfl,hx1⟩;have Hx1:=Ya hx1;clear hx1;by_cases hk0:k=0
 ·subst hk0;go_wp2_with (refine Y4 (Hb0.o.ext Hx1.o) rfl ?_);refine(Ov T c _ (H.o.up Hx1.o)).mono ?_;rintro e w2 ⟨z,rfl,hx2⟩;have Hx2:=Ya (Hx1.o.trans hx2);have HL:=Ya (Ww w2 z 3 _ rfl);have Hnn:=Ya (show([z]:List Int).length=1 from rfl);clear hx2;go_wp2_with fail;obtain⟨A0,hA0⟩:∃ A:Option Addr,some ⟨w2.heap.size,0,none⟩=A:=⟨_,rfl⟩;rw[hA0]at HL⊢;clear hA0;go_loopw [21,6] (fun o u wr=>∃ (i:Nat) (q:Int),i≤1∧o=.int .i64 (i:Int)∧u=.int .u64 q∧Ext (w2.alloc (.cells #[.int .i64 z] 3)) wr) (fun o _ _=>1-(intOf o).toNat);case atStart=>exact⟨0,0,by omega,rfl,rfl,Yn _⟩
  obtain⟨i,q,hi,rfl,rfl,hx⟩:=hrel;have Hx:=Ya hx;clear hx;by_cases hlt:i<1
  ·have hd_i:decide ((i:Int)<(1:Int))=true:=Yh;have i0_i:(0:Int)≤(i:Int):=by omega
   have i1_i:(i:Int)<(1:Int):=by omega
   obtain⟨x,hs_x⟩:=geX (l:=([z])) (i:=i) (by have:=Hnn.o;omega);obtain⟨g_x,o_x,c_x,hvv,_,_,_,hgl_x,a0_x⟩:=(HL.o.ext Hx.o).get hs_x;simp only[Yg]at hvv;obtain⟨rfl,-,rfl⟩:=hvv;have Hs_x:=Ya hs_x;clear hs_x;go_wp2_with (go_at_call 240;refine(Ss _ _).mono ?_;rintro e w4 ⟨v4,rfl,hx4⟩);all_goals
    first
    | (go_roundw
       case rel=>exact⟨i+1,_,by omega,by go_num,rfl,by first|exact Hx.o|exact Hx.o.trans hx4⟩
       (simp[intOf];omega))
    | (go_ret;exact⟨_,rfl,X0.o.trans ((Hx2.o.alloc _).trans Hx.o)⟩)
  have hd_i:decide ((i:Int)<(1:Int))=false:=Yi;go_wp2_with fail;go_ret;exact⟨_,rfl,X0.o.trans ((Hx2.o.alloc _).trans Hx.o)⟩
 have hk1:((k:Int)==0)=false:=by simp;omega
 have hk2:(k==0)=false:=by simp;omega
 have HL:=Ya (show Xy w1 S (.slice FA k FC) (Xg T.ext c) from Hfa.o.ext Hx1.o);have Hnn:=Hk;clear hk0;go_wp2_with fail;go_loopw [21,6] (fun o u wr=>∃ (i:Nat) (q:Int),i≤k∧o=.int .i64 (i:Int)∧u=.int .u64 q∧Ext w1 wr) (fun o _ _=>k-(intOf o).toNat);case atStart=>exact⟨0,0,by omega,rfl,rfl,Yn _⟩
 obtain⟨i,q,hi,rfl,rfl,hx⟩:=hrel;have Hx:=Ya hx;clear hx;by_cases hlt:i<k
 ·obtain⟨hd_i,i0_i,i1_i⟩:=LTl i k;obtain⟨x,hs_x⟩:=geX (l:=((Xg T.ext c))) (i:=i) (by have:=Hnn.o;omega);obtain⟨g_x,o_x,c_x,hvv,_,_,_,hgl_x,a0_x⟩:=(HL.o.ext Hx.o).get hs_x;simp only[Yg]at hvv;obtain⟨rfl,-,rfl⟩:=hvv;have Hs_x:=Ya hs_x;clear hs_x;go_wp2_with (go_at_call 240;refine(Ss _ _).mono ?_;rintro e w4 ⟨v4,rfl,hx4⟩);all_goals
   first
   | (go_roundw
      case rel=>exact⟨i+1,_,by omega,by go_num,rfl,by first|exact Hx.o|exact Hx.o.trans hx4⟩
      (simp[intOf];omega))
   | (go_ret;exact⟨_,rfl,X0.o.trans (Hx1.o.trans Hx.o)⟩)
 have hd_i:=GEl i k;go_wp2_with fail;go_ret;exact⟨_,rfl,X0.o.trans (Hx1.o.trans Hx.o)⟩
theorem Zzw{S S':Nat→Prop}(T:Tbl)(hf:Few T)(hu:Uq T)(v:Value)(l:List Int)(w:World)(h:Xn w S T)(hl:Xy w S' v l):Calls Tryz.prog 241 #[Vt T,v] w (fun e w'=>∃ q x:Int,e=.returned (.tuple #[.int .u64 q,.int .i64 x])∧Ext w w'):=by
 obtain⟨A,C,rfl,hlCC,hCC⟩:=hl.shape;obtain⟨n,hnn⟩:=gnX ((l).length);have Hnn:=Ya hnn;have Hhl:=Ya hl;unfold maxLen at hCC;rw[hnn]at hlCC⊢;clear hl hnn;have X0:=Ya ((Yn w).alloc (Xe T));have H:=Ya (h.up X0.o);have Hb0:=Ya (Xo w T);clear h;have HL:=Ya (show Xy (w.alloc (Xe T)) S' (.slice A n C) l by have:=Hhl.o.ext X0.o;rwa [Hnn.o]at this);have Hf:=Ya hf;have Hu:=Ya hu;clear hf hu;go_enter Tryz.func241,Tryz.ntmps241;go_wp2_with (first|(refine Xx rfl ?_)|(refine Y4 Hb0.o rfl ?_));refine(Vj T Hf.o Hu.o _ l _ H.o HL.o).mono ?_;rintro e w1 ⟨x,rfl,_,hx1⟩;have Hx1:=Ya hx1;clear hx1;by_cases h0:x=0
 ·subst h0;go_wp2_with fail;go_loopw [18,7] (fun o u wr=>∃ (i:Nat) (q:Int),i≤n∧o=.int .i64 (i:Int)∧u=.int .u64 q∧Ext (w.alloc (Xe T)) wr) (fun o _ _=>n-(intOf o).toNat);case atStart=>exact⟨0,_,by omega,rfl,rfl,Hx1.o⟩
  clear Hx1;obtain⟨i,q,hi,rfl,rfl,hx⟩:=hrel;have Hx:=Ya hx;clear hx;by_cases hlt:i<n
  ·obtain⟨hd_i,i0_i,i1_i⟩:=LTl i n;obtain⟨x,hs_x⟩:=geX (l:=(l)) (i:=i) (by have:=Hnn.o;omega);obtain⟨g_x,o_x,c_x,hvv,_,_,_,hgl_x,a0_x⟩:=(HL.o.ext Hx.o).get hs_x;simp only[Yg]at hvv;obtain⟨rfl,-,rfl⟩:=hvv;have Hs_x:=Ya hs_x;clear hs_x;go_wp2_with (refine Y4 (Hb0.o.ext Hx.o) rfl ?_);refine(Ex T Hf.o _ _ (H.o.up Hx.o)).mono ?_;rintro e w2 ⟨z,rfl,hx2⟩;go_wp2_with fail;go_roundw;case rel=>exact⟨i+1,_,by omega,by go_num,rfl,Hx.o.trans hx2⟩
   (simp[intOf];omega)
  have hd_i:=GEl i n;go_wp2_with fail;go_ret2;exact⟨_,_,rfl,X0.o.trans Hx.o⟩
 have h0b:(!(x==0))=true:=by simp[h0]
 have h0c:(x !=0)=true:=h0b;have h0d:(x==0)=false:=by simp[h0]
 have h0H:=Ya h0;clear h0;go_wp2_with fail;go_ret2;exact⟨_,_,rfl,X0.o.trans Hx1.o⟩
theorem Zwj{S S':Nat→Prop}(T:Tbl)(hf:Few T)(hu:Uq T)(v:Value)(l:List Int)(w:World)(h:Xn w S T)(hl:Xy w S' v l):Calls Tryz.prog 219 #[Vt T,v] w (V0 w):=by
 obtain⟨A,C,rfl,hlCC,hCC⟩:=hl.shape;obtain⟨n,hnn⟩:=gnX ((l).length);have Hnn:=Ya hnn;have Hhl:=Ya hl;unfold maxLen at hCC;rw[hnn]at hlCC⊢;clear hl hnn;have X0:=Ya ((Yn w).alloc (Xe T));have H:=Ya (h.up X0.o);have Hb0:=Ya (Xo w T);clear h;have HL:=Ya (show Xy (w.alloc (Xe T)) S' (.slice A n C) l by have:=Hhl.o.ext X0.o;rwa [Hnn.o]at this);have Hf:=Ya hf;have Hu:=Ya hu;clear hf hu;go_enter Tryz.func219,Tryz.ntmps219;go_wp2_with (first|(refine Xx rfl ?_)|(refine Y4 Hb0.o rfl ?_));refine(Zzw T Hf.o Hu.o _ l _ H.o HL.o).mono ?_;rintro e w1 ⟨q,x,rfl,hx1⟩;go_wp2_with fail;all_goals
  go_ret;exact⟨_,rfl,X0.o.trans hx1⟩
theorem Fk{S S':Nat→Prop}(T:Tbl)(hf:Few T)(hu:Uq T)(v:Value)(l:List Int)(z:Int)(w:World)(h:Xn w S T)(hl:Xy w S' v l):Calls Tryz.prog 220 #[Vt T,v,.int .u64 z] w (V0 w):=by
 obtain⟨A,C,rfl,hlCC,hCC⟩:=hl.shape;obtain⟨n,hnn⟩:=gnX ((l).length);have Hnn:=Ya hnn;have Hhl:=Ya hl;unfold maxLen at hCC;rw[hnn]at hlCC⊢;clear hl hnn;have X0:=Ya ((Yn w).alloc (Xe T));have H:=Ya (h.up X0.o);have Hb0:=Ya (Xo w T);clear h;have HL:=Ya (show Xy (w.alloc (Xe T)) S' (.slice A n C) l by have:=Hhl.o.ext X0.o;rwa [Hnn.o]at this);have Hf:=Ya hf;have Hu:=Ya hu;clear hf hu;go_enter Tryz.func220,Tryz.ntmps220;go_wp2_with (first|(refine Xx rfl ?_)|(refine Y4 Hb0.o rfl ?_));refine(Vj T Hf.o Hu.o _ l _ H.o HL.o).mono ?_;rintro e w1 ⟨x,rfl,_,hx1⟩;have Hx1:=Ya hx1;clear hx1;by_cases h0:x=0
 ·subst h0;go_wp2_with fail;go_loopw [15] (fun o wr=>∃ i:Nat,i≤n∧o=.int .i64 (i:Int)∧Ext (w.alloc (Xe T)) wr) (fun o _=>n-(intOf o).toNat);case atStart=>exact⟨0,by omega,rfl,Hx1.o⟩
  clear Hx1;obtain⟨i,hi_i,rfl,hx⟩:=hrel;have Hx:=Ya hx;clear hx;by_cases hlt:i<n
  ·obtain⟨hd_i,i0_i,i1_i⟩:=LTl i n;obtain⟨x,hs_x⟩:=geX (l:=(l)) (i:=i) (by have:=Hnn.o;omega);obtain⟨g_x,o_x,c_x,hvv,_,_,_,hgl_x,a0_x⟩:=(HL.o.ext Hx.o).get hs_x;simp only[Yg]at hvv;obtain⟨rfl,-,rfl⟩:=hvv;have Hs_x:=Ya hs_x;clear hs_x;go_wp2_with (refine Y4 (Hb0.o.ext Hx.o) rfl ?_);refine(Ex T Hf.o _ _ (H.o.up Hx.o)).mono ?_;rintro e w2 ⟨q,rfl,hx2⟩;go_wp2_with fail;all_goals
    have hx:=Hx.o
    first
    | (go_roundw
       case rel=>exact⟨i+1,by omega,by go_num,xE⟩
       (simp[intOf];omega))
    | (go_ret;exact⟨_,rfl,X0.o.trans xE⟩)
  have hd_i:=GEl i n;go_wp2_with fail;all_goals
   have hx:=Hx.o
   first
   | (go_roundw
      case rel=>exact⟨i+1,by omega,by go_num,xE⟩
      (simp[intOf];omega))
   | (go_ret;exact⟨_,rfl,X0.o.trans xE⟩)
 have h0b:(!(x==0))=true:=by simp[h0]
 have h0c:(x !=0)=true:=h0b;have h0d:(x==0)=false:=by simp[h0]
 have h0H:=Ya h0;clear h0;go_wp2_with fail;go_ret;exact⟨_,rfl,X0.o.trans Hx1.o⟩
theorem Zww(s:ByteArray)(n:Nat)(hs:s.size=n)(hbig:n≤100000)(w:World):Calls Tryz.prog 214 #[.string s] w (Bq 2048 w):=by
 have Hn:=Ya hs;obtain⟨B,hB⟩:=gnX (w.heap.size);have HB:=Ya hB;clear hB;go_enter Tryz.func214,Tryz.ntmps214;cases he:s.toList.isEmpty
 rotate_left
 ·go_wp2_with fail;go_ret2;exact Wz _ (Yn _)
 go_wp2_with fail;clear he;go_loopw [5,4] (fun o v wr=>∃ (k:Nat) (l:List Int),k≤n∧o=.int .i64 (k:Int)∧Own Wk wr B v l∧l.length=k∧Ext w wr) (fun o _ _=>n-(intOf o).toNat);case atStart=>exact⟨0,[],by omega,rfl,Own.nil _ _ _,rfl,Yn _⟩
 obtain⟨k,l,hk,rfl,ho,hl,hx⟩:=hrel;obtain⟨A,C,rfl,hlC,hC⟩:=ho.shape;rw[hl]at hlC⊢;have Hx:=Ya hx;have Ho:=Ya ho;have Hl:=Ya hl;have hBw:B≤wr.heap.size:=by rw[← HB.o];exact hx.size
 unfold maxLen at hC;clear hx ho hl;by_cases hlt:k<n
 ·have hd:=LTd k n;have hlt':k<s.size:=by rw[Hn.o];omega
  have k0:(0:Int)≤(k:Int):=by omega
  obtain⟨c,hc⟩:∃ b:Nat,(s[k]'hlt').toNat=b:=⟨_,rfl⟩;by_cases hc7:127<c
  ·have d1:decide ((127:Int)<(c:Int))=true:=Yh;go_wp2_with fail;go_ret2;exact Wz _ Hx.o
  have d1:decide ((127:Int)<(c:Int))=false:=Yi;have r0:IntKind.i64.wrap (c:Int)=(c:Int):=Yr _ (by omega);go_wp2_with (at_builtin;refine Xu Wk _ _ _ rfl rfl rfl rfl (by rw[← Hl.o];exact Ho.o.ext ((Yn _).alloc _)) rfl (Ww wr (c:Int) _ _ rfl) (by rw[Hl.o];simp;omega) (by show 8≤1000;omega) (by simp;omega) ?_;intro A3 n3 c3 w3 hg);have Hg:=Ya hg;clear hg;go_wp2_with fail;go_roundw;case rel=>exact⟨k+1,_,by omega,by go_num,Hg.o.own,by rw[Zs,Hl.o];rfl,Hg.o.ext w (Hx.o.alloc _) (by rw[HB.o];exact Yp _)⟩
  (simp[intOf];omega)
 have hd:=GEl k n;obtain rfl:k=n:=by omega
 by_cases h63:k≤63
 ·have d1:decide ((63:Int)<(k:Int))=false:=Yi;have Hno:=Ya (show RdE Wk wr (fun i=>w.heap.size≤i) (.slice A k C) l by have:=Ho.o.rd;rwa [Hl.o,← HB.o]at this);go_wp2_with fail;refine(Zpk s _ (by omega)).mono ?_;rintro e w1 ⟨b,rfl,hb4,hx1⟩;have Hx1:=Ya (Hx.o.trans hx1);cases b with
  | false =>
   go_wp2_with fail;go_ret2;exact⟨_,l,0,rfl,Hno.o.ext hx1,by rw[Hl.o];omega,Hx1.o⟩
  | true =>
   have h4:=hb4 rfl;rw[Hn.o]at h4;have q1:(4:Int)≤(k:Int):=by omega
   clear hb4 hx1;go_wp2_with fail;refine(Lu _ _ (by simp;omega)).mono ?_;rintro e w2 ⟨t,rfl,ht,hx2⟩;have Hx2:=Ya (Hx1.o.trans hx2);clear hx2;go_wp2_with fail;refine(Zre t _ rfl _).mono ?_;rintro e w3 ⟨v,l3,x,rfl,hv3,hl3,hx3⟩;have Hx3:=Ya (Hx2.o.trans hx3);have Hv3:=Ya (Rd.mono hv3 fun i hi _=>Zlo Hx2.o.size hi);have Hl3:=Ya hl3;clear hx3 hl3;by_cases hx0:x=0
   ·subst hx0;go_wp2_with fail;refine(Sq v l3 _ hv3 (by have:=Hl3.o;omega)).mono ?_;rintro e w4 ⟨u,y,rfl,hu,_,hx4⟩;have Hx4:=Ya hx4;clear hx4;cases ha:Zpp l3
    ·by_cases hy0:y=0
     ·subst hy0;go_wp2_with (first|(go_at_call 212;refine(Gj v l3 _ (hv3.ext Hx4.o)).mono ?_;rintro e w5 ⟨rfl,hx5⟩;rw[ha])|(go_at_call 228;refine(Lu _ _ (by omega)).mono ?_;rintro e w6 ⟨t6,rfl,ht6,hx6⟩));all_goals
       go_ret2
       first
       | exact Wz _ (Hx3.o.trans (Hx4.o.trans (hx5.trans hx6)))
       | exact⟨v,l3,0,rfl,Rd.ext Hv3.o (Hx4.o.trans (hx5.trans hx6)),Hl3.o,Hx3.o.trans (Hx4.o.trans (hx5.trans hx6))⟩
     have d2:(!(y==0))=true:=by simp[hy0]
     have d3:(y !=0)=true:=d2;clear hy0;go_wp2_with (go_at_call 212;refine(Gj v l3 _ (hv3.ext Hx4.o)).mono ?_;rintro e w5 ⟨rfl,hx5⟩;rw[ha]);go_ret2;exact Wz _ (Hx3.o.trans (Hx4.o.trans hx5))
    go_wp2_with (go_at_call 212;refine(Gj v l3 _ (hv3.ext Hx4.o)).mono ?_;rintro e w5 ⟨rfl,hx5⟩;rw[ha]);go_ret2;exact Wz _ (Hx3.o.trans (Hx4.o.trans hx5))
   have d2:(!(x==0))=true:=by simp[hx0]
   have d3:(x !=0)=true:=d2;clear hx0;go_wp2_with fail;go_ret2;exact Wz _ Hx3.o
 have d1:decide ((63:Int)<(k:Int))=true:=Yh;go_wp2_with fail;go_ret2;exact Wz _ Hx.o
theorem Zu3{S S':Nat→Prop}(T:Tbl)(hf:Few T)(hu:Uq T)(v:Value)(l:List Int)(w:World)(h:Xn w S T)(hl:Xy w S' v l):Calls Tryz.prog 242 #[Vt T,v] w (Bq 4096 w):=by
 obtain⟨A11,C11,e11,hl11,hc11⟩:=h.pro.shape;have h11:=h.pro.ext ((Yn w).alloc (Xe T));obtain⟨n11,hn11⟩:=gnX (T.pro.length);rw[hn11]at e11 hl11;rw[e11]at h11;have Hn11:=Ya hn11;have E11:=Ya e11;have H11:=Ya h11;unfold maxLen at hc11;clear hn11 e11 h11;obtain⟨A,C,rfl,hlCC,hCC⟩:=hl.shape;obtain⟨n,hnn⟩:=gnX ((l).length);have Hnn:=Ya hnn;have Hhl:=Ya hl;unfold maxLen at hCC;rw[hnn]at hlCC⊢;clear hl hnn;have X0:=Ya ((Yn w).alloc (Xe T));have H:=Ya (h.up X0.o);have Hb0:=Ya (Xo w T);clear h;have HL:=Ya (show Xy (w.alloc (Xe T)) S' (.slice A n C) l by have:=Hhl.o.ext X0.o;rwa [Hnn.o]at this);have Hf:=Ya hf;have Hu:=Ya hu;clear hf hu;obtain⟨B,hB⟩:=gnX ((w.alloc (Xe T)).heap.size);have HB:=Ya hB;clear hB;go_enter Tryz.func242,Tryz.ntmps242;go_wp2_with (first|(refine Xx rfl ?_)|(refine Y4 Hb0.o rfl ?_));refine(Vj T Hf.o Hu.o _ l _ H.o HL.o).mono ?_;rintro e w1 ⟨x,rfl,hacc,hx1⟩;have Hx1:=Ya hx1;clear hx1;by_cases h0:x=0
 ·subst h0;obtain⟨_,hl4,_⟩:=hacc rfl;rw[Hnn.o]at hl4;clear hacc;go_wp2_with fail;go_loopw [19,7] (fun o u wr=>∃ (i:Nat) (p:List Int),i≤n∧o=.int .i64 (i:Int)∧Own Wk wr B u p∧p.length≤i*18∧Ext (w.alloc (Xe T)) wr) (fun o _ _=>n-(intOf o).toNat);case atStart=>exact⟨0,[],by omega,rfl,Own.nil _ _ _,by simp,Hx1.o⟩
  clear Hx1;obtain⟨i,p,hi,rfl,ho,hpl,hx⟩:=hrel;have hi18:i*18≤4096*18:=Zla _ (by omega);obtain⟨A2,C2,rfl,hlC2,hC2⟩:=ho.shape;obtain⟨m,hm⟩:=gnX (p.length);have hoI:Own Wk wr B (.slice A2 m C2) p:=by rw[← hm];exact ho
  rw[hm]at hlC2 hpl⊢;have Hx:=Ya hx;have Ho:=Ya hoI;have Hm:=Ya hm;have hBw:B≤wr.heap.size:=by rw[← HB.o];exact hx.size
  have hj18:(i+1)*18=i*18+18:=by omega
  have Hj:=Ya hj18;unfold maxLen at hC2;clear hx ho hoI hm hj18;by_cases hlt:i<n
  ·obtain⟨hd_i,i0_i,i1_i⟩:=LTl i n;obtain⟨c,hs_c⟩:=geX (l:=(l)) (i:=i) (by have:=Hnn.o;omega);obtain⟨g_c,o_c,c_c,hvv,_,_,_,hgl_c,a0_c⟩:=(HL.o.ext Hx.o).get hs_c;simp only[Yg]at hvv;obtain⟨rfl,-,rfl⟩:=hvv;have Hs_c:=Ya hs_c;clear hs_c;have hel:=Uz Hf.o.pro c;obtain⟨FA,FC,ef,fl,fc⟩:=(Qt (S:=S) (c:=c) H11.o.2).shape;obtain⟨k,hk⟩:=gnX ((Xg T.pro c).length);have hfa:=Qt (S:=S) (c:=c) H11.o.2;rw[ef,hk]at hfa;rw[hk]at ef fl hel;have Hk:=Ya hk;have Hfa:=Ya hfa;clear hk hfa;go_wp2_with (refine Y4 (Hb0.o.ext Hx.o) rfl ?_);refine(Zth T c _ (H.o.up Hx.o)).mono ?_;rintro e w2 ⟨rfl,hx2⟩;have Hx2:=Ya (Hx.o.trans hx2);have Ho2:=Ya (Ho.o.ext hx2);have hs2:=hx2.size;clear hx2;go_wp2_with (refine Y4 (Hb0.o.ext Hx2.o) rfl ?_);refine(V1 T c _ (H.o.up Hx2.o)).mono ?_;rintro e w3 ⟨rfl,hx3⟩;have Hx3:=Ya (Hx2.o.trans hx3);have Ho3:=Ya (Ho2.o.ext hx3);have hs3:=hx3.size;clear hx3;cases hq:(Wp T.ign c==1)
   ·by_cases hk0:0<k
    ·have d1:decide ((0:Int)<(k:Int))=true:=Yh;have d2:decide (0<k)=true:=Yh hk0;go_wp2_with (at_builtin;refine Xu Wk _ _ _ rfl rfl rfl rfl Ho3.o rfl (Hfa.o.ext Hx3.o) (by rw[Hm.o,Hk.o];omega) (by show 8≤1000;omega) (by omega) ?_;intro A5 n5 c5 w5 hg5;have Hx5:=Ya (hg5.ext (w.alloc (Xe T)) Hx3.o (by rw[HB.o];exact Yp _));have Hg5:=Ya hg5;clear hg5);go_roundw;case rel=>exact⟨i+1,_,by omega,by go_num,Hg5.o.own,by rw[Zs,Hm.o,Hk.o,Hj.o];omega,Hx5.o⟩
     (simp[intOf];omega)
    have d1:decide ((0:Int)<(k:Int))=false:=Yi;have d2:decide (0<k)=false:=Yi hk0;go_wp2_with (at_builtin;refine Xu Wk _ _ _ rfl rfl rfl rfl (Ho3.o.ext ((Yn _).alloc _)) rfl (Ww w3 c _ _ rfl) (by rw[Hm.o];show m+1≤_;omega) (by show 8≤1000;omega) (by simp;omega) ?_;intro A5 n5 c5 w5 hg5;have Hx5:=Ya (hg5.ext (w.alloc (Xe T)) (Hx3.o.alloc _) (by rw[HB.o];exact Yp _));have Hg5:=Ya hg5;clear hg5);go_roundw;case rel=>exact⟨i+1,_,by omega,by go_num,Hg5.o.own,by rw[Zs,Hm.o,Hj.o];show m+1≤_;omega,Hx5.o⟩
    (simp[intOf];omega)
   go_wp2_with fail;go_roundw;case rel=>exact⟨i+1,p,by omega,by go_num,Ho3.o,by rw[Hm.o,Hj.o];omega,Hx3.o⟩
   (simp[intOf];omega)
  have hd_i:=GEl i n;by_cases hbig:4096<m
  ·have d1:decide ((4096:Int)<(m:Int))=true:=Yh;go_wp2_with fail;go_ret2;exact Wz _ (X0.o.trans Hx.o)
  have d1:decide ((4096:Int)<(m:Int))=false:=Yi;go_wp2_with fail;go_ret2;refine⟨_,p,0,rfl,?_,by rw[Hm.o];omega,X0.o.trans Hx.o⟩;have:=Ho.o.rd;rw[← Hm.o]at this⊢;exact Rd.mono this fun k hk _=>Zlo (by have:=X0.o.size;have:=HB.o;omega) hk
 have h0b:(!(x==0))=true:=by simp[h0]
 have h0c:(x !=0)=true:=h0b;have h0d:(x==0)=false:=by simp[h0]
 have h0H:=Ya h0;clear h0;go_wp2_with fail;go_ret2;exact Wz _ (X0.o.trans Hx1.o)
theorem Zmg{S S':Nat→Prop}(T:Tbl)(hf:Few T)(hu:Uq T)(v:Value)(l:List Int)(w:World)(h:Xn w S T)(hl:Xy w S' v l):Calls Tryz.prog 221 #[Vt T,v] w (Bq 4096 w):=by
 obtain⟨A,C,rfl,hlCC,hCC⟩:=hl.shape;obtain⟨n,hnn⟩:=gnX ((l).length);have Hnn:=Ya hnn;have Hhl:=Ya hl;unfold maxLen at hCC;rw[hnn]at hlCC⊢;clear hl hnn;have X0:=Ya ((Yn w).alloc (Xe T));have H:=Ya (h.up X0.o);have Hb0:=Ya (Xo w T);clear h;have HL:=Ya (show Xy (w.alloc (Xe T)) S' (.slice A n C) l by have:=Hhl.o.ext X0.o;rwa [Hnn.o]at this);have Hf:=Ya hf;have Hu:=Ya hu;clear hf hu;go_enter Tryz.func221,Tryz.ntmps221;go_wp2_with (first|(refine Xx rfl ?_)|(refine Y4 Hb0.o rfl ?_));refine(Ch T Hf.o Hu.o _ l _ H.o HL.o).mono ?_;rintro e w1 ⟨u1,l1,x,rfl,hl1,_,_,hx1⟩;have Hx1:=Ya hx1;clear hx1;by_cases h0:x=0
 ·subst h0;go_wp2_with (refine Y4 (Hb0.o.ext Hx1.o) rfl ?_);refine(Zu3 T Hf.o Hu.o u1 l1 _ (H.o.up Hx1.o) hl1).mono ?_;rintro e w2 ⟨u2,l2,x2,rfl,hl2,_,hx2⟩;have Hx2:=Ya (Hx1.o.trans hx2);clear hx2;by_cases h2:x2=0
  ·subst h2;go_wp2_with (refine Y4 (Hb0.o.ext Hx2.o) rfl ?_);refine(Ch T Hf.o Hu.o u2 l2 _ (H.o.up Hx2.o) hl2).mono ?_;rintro e w3 ⟨u3,l3,x3,rfl,hl3,hn3,_,hx3⟩;go_wp2_with fail;go_ret2;exact⟨u3,l3,x3,rfl,Rd.mono hl3 fun k hk _=>Zlo (X0.o.trans Hx2.o).size hk,hn3,X0.o.trans (Hx2.o.trans hx3)⟩
  have h2b:(!(x2==0))=true:=by simp[h2]
  have h2c:(x2 !=0)=true:=h2b;have h2d:(x2==0)=false:=by simp[h2]
  have h2H:=Ya h2;clear h2;go_wp2_with fail;go_ret2;exact Wz _ (X0.o.trans Hx2.o)
 have h0b:(!(x==0))=true:=by simp[h0]
 have h0c:(x !=0)=true:=h0b;have h0d:(x==0)=false:=by simp[h0]
 have h0H:=Ya h0;clear h0;go_wp2_with fail;go_ret2;exact Wz _ (X0.o.trans Hx1.o)
def Zmn(N:Nat)(w:World)(e:Ending)(w':World):Prop:=∃ (s:ByteArray) (y:Int),e=.returned (.tuple #[.string s,.int .i64 y])∧s.size≤N∧Ext w w'
theorem Zo5{S S':Nat→Prop}(T:Tbl)(hf:Few T)(hu:Uq T)(v:Value)(l:List Int)(w:World)(h:Xn w S T)(hl:Xy w S' v l):Calls Tryz.prog 202 #[Vt T,v] w (Zmn 16384 w):=by
 obtain⟨A,C,rfl,hlCC,hCC⟩:=hl.shape;obtain⟨n,hnn⟩:=gnX ((l).length);have Hnn:=Ya hnn;have Hhl:=Ya hl;unfold maxLen at hCC;rw[hnn]at hlCC⊢;clear hl hnn;have X0:=Ya ((Yn w).alloc (Xe T));have H:=Ya (h.up X0.o);have Hb0:=Ya (Xo w T);clear h;have HL:=Ya (show Xy (w.alloc (Xe T)) S' (.slice A n C) l by have:=Hhl.o.ext X0.o;rwa [Hnn.o]at this);have Hf:=Ya hf;have Hu:=Ya hu;clear hf hu;go_enter Tryz.func202,Tryz.ntmps202;go_wp2_with (first|(refine Xx rfl ?_)|(refine Y4 Hb0.o rfl ?_));refine(Zmg T Hf.o Hu.o _ l _ H.o HL.o).mono ?_;rintro e w1 ⟨u1,l1,x,rfl,hl1,hn1,hx1⟩;have Hx1:=Ya hx1;clear hx1;by_cases h0:x=0
 ·subst h0;go_wp2_with fail;refine(Ef u1 l1 _ hl1).mono ?_;rintro e w2 ⟨t,y,rfl,ht,hx2⟩;go_wp2_with fail;go_ret2;exact⟨t,y,rfl,by omega,X0.o.trans (Hx1.o.trans hx2)⟩
 have h0b:(!(x==0))=true:=by simp[h0]
 have h0c:(x !=0)=true:=h0b;have h0d:(x==0)=false:=by simp[h0]
 have h0H:=Ya h0;clear h0;go_wp2_with fail;go_ret2;exact⟨_,x,rfl,by show 0≤_;omega,X0.o.trans Hx1.o⟩
end Go.Proofs.YtnbclgbicnpmnaaGreat
