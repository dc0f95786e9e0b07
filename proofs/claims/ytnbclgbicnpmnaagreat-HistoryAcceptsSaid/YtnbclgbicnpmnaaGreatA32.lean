/- Lemmas of this claim: Sa, P7, Sb. Conditions: as named. -/
import Derived.Test.YtnbclgbicnpmnaaGreatA09
import Derived.Test.YtnbclgbicnpmnaaGreatA27
import Derived.Test.YtnbclgbicnpmnaaGreatA31
namespace Go.Proofs.YtnbclgbicnpmnaaGreat
open Go.RowKit Go.Sort
set_option maxHeartbeats 0
set_option maxRecDepth 100000
set_option linter.all false
def Znc(w:World)(e:Ending)(w':World):Prop:=∃ v:Int,e=.returned (.int .u64 v)∧Ext w w'
theorem Rv(s:Int)(w:World):Calls Tryz.prog 240 #[.int .i64 s] w (Znc w):=by
 go_enter Tryz.func240,Tryz.ntmps240;go_wp2_with fail;all_goals
  go_ret;exact⟨_,rfl,Yl _⟩
theorem Ew{S:Nat→Prop}(T:Tbl)(hf:Few T)(c:Int)(w:World)(h:Xl w S T):Calls Tryz.prog 218 #[Vu T,.int .i64 c] w (Znc w):=by
 obtain⟨A7,C7,e7,hl7,hc7⟩:=h.ext.shape;have h7:=h.ext.ext ((Yl w).alloc (Xe T));obtain⟨n7,hn7⟩:=gnX (T.ext.length);rw[hn7]at e7 hl7;rw[e7]at h7;have Hn7:=Y4 hn7;have E7:=Y4 e7;have H7:=Y4 h7;unfold maxLen at hc7;clear hn7 e7 h7;have X0:=Y4 ((Yl w).alloc (Xe T));have H:=Y4 (h.up X0.o);have Hb0:=Y4 (Xm w T);clear h;have hel:=K6 hf.ext c;obtain⟨FA,FC,ef,fl,fc⟩:=(Qv (S:=S) (c:=c) H7.o.2).shape;obtain⟨k,hk⟩:=gnX ((Xg T.ext c).length);have hfa:=Qv (S:=S) (c:=c) H7.o.2;rw[ef,hk]at hfa;rw[hk]at ef fl hel;have Hk:=Y4 hk;have Hfa:=Y4 hfa;clear hk hfa;go_enter Tryz.func218,Tryz.ntmps218;go_wp2_with (first|(refine Xw rfl ?_)|(refine Xz Hb0.o rfl ?_));refine(Id T c _ H.o).mono ?_;rintro e w1 ⟨rfl,hx1⟩;have Hx1:=Y4 hx1;clear hx1;by_cases hk0:k=0
 ·subst hk0;go_wp2_with (refine Xz (Hb0.o.ext Hx1.o) rfl ?_);refine(Nc T c _ (H.o.up Hx1.o)).mono ?_;rintro e w2 ⟨z,rfl,hx2⟩;have Hx2:=Y4 (Hx1.o.trans hx2);have HL:=Y4 (Wv w2 z 3 _ rfl);have Hnn:=Y4 (show([z]:List Int).length=1 from rfl);clear hx2;go_wp2_with fail;obtain⟨A0,hA0⟩:∃ A:Option Addr,some ⟨w2.heap.size,0,none⟩=A:=⟨_,rfl⟩;rw[hA0]at HL⊢;clear hA0;go_loopw [21,6] (fun o u wr=>∃ (i:Nat) (q:Int),i≤1∧o=.int .i64 (i:Int)∧u=.int .u64 q∧Ext (w2.alloc (.cells #[.int .i64 z] 3)) wr) (fun o _ _=>1-(intOf o).toNat);case atStart=>exact⟨0,0,by omega,rfl,rfl,Yl _⟩
  obtain⟨i,q,hi,rfl,rfl,hx⟩:=hrel;have Hx:=Y4 hx;clear hx;by_cases hlt:i<1
  ·have hd_i:decide ((i:Int)<(1:Int))=true:=Yf;have i0_i:(0:Int)≤(i:Int):=by omega
   have i1_i:(i:Int)<(1:Int):=by omega
   obtain⟨x,hs_x⟩:=geX (l:=([z])) (i:=i) (by have:=Hnn.o;omega);obtain⟨g_x,o_x,c_x,hvv,_,_,_,hgl_x,a0_x⟩:=(HL.o.ext Hx.o).get hs_x;simp only[Ye]at hvv;obtain⟨rfl,-,rfl⟩:=hvv;have Hs_x:=Y4 hs_x;clear hs_x;go_wp2_with (go_at_call 240;refine(Rv _ _).mono ?_;rintro e w4 ⟨v4,rfl,hx4⟩);all_goals
    first
    | (go_roundw
       case rel=>exact⟨i+1,_,by omega,by go_num,rfl,by first|exact Hx.o|exact Hx.o.trans hx4⟩
       (simp[intOf];omega))
    | (go_ret;exact⟨_,rfl,X0.o.trans ((Hx2.o.alloc _).trans Hx.o)⟩)
  have hd_i:decide ((i:Int)<(1:Int))=false:=Yg;go_wp2_with fail;go_ret;exact⟨_,rfl,X0.o.trans ((Hx2.o.alloc _).trans Hx.o)⟩
 have hk1:((k:Int)==0)=false:=by simp;omega
 have hk2:(k==0)=false:=by simp;omega
 have HL:=Y4 (show Xx w1 S (.slice FA k FC) (Xg T.ext c) from Hfa.o.ext Hx1.o);have Hnn:=Hk;clear hk0;go_wp2_with fail;go_loopw [21,6] (fun o u wr=>∃ (i:Nat) (q:Int),i≤k∧o=.int .i64 (i:Int)∧u=.int .u64 q∧Ext w1 wr) (fun o _ _=>k-(intOf o).toNat);case atStart=>exact⟨0,0,by omega,rfl,rfl,Yl _⟩
 obtain⟨i,q,hi,rfl,rfl,hx⟩:=hrel;have Hx:=Y4 hx;clear hx;by_cases hlt:i<k
 ·obtain⟨hd_i,i0_i,i1_i⟩:=LTl i k;obtain⟨x,hs_x⟩:=geX (l:=((Xg T.ext c))) (i:=i) (by have:=Hnn.o;omega);obtain⟨g_x,o_x,c_x,hvv,_,_,_,hgl_x,a0_x⟩:=(HL.o.ext Hx.o).get hs_x;simp only[Ye]at hvv;obtain⟨rfl,-,rfl⟩:=hvv;have Hs_x:=Y4 hs_x;clear hs_x;go_wp2_with (go_at_call 240;refine(Rv _ _).mono ?_;rintro e w4 ⟨v4,rfl,hx4⟩);all_goals
   first
   | (go_roundw
      case rel=>exact⟨i+1,_,by omega,by go_num,rfl,by first|exact Hx.o|exact Hx.o.trans hx4⟩
      (simp[intOf];omega))
   | (go_ret;exact⟨_,rfl,X0.o.trans (Hx1.o.trans Hx.o)⟩)
 have hd_i:=GEl i k;go_wp2_with fail;go_ret;exact⟨_,rfl,X0.o.trans (Hx1.o.trans Hx.o)⟩
theorem Ih{S S':Nat→Prop}(T:Tbl)(hf:Few T)(hu:Uq T)(v:Value)(l:List Int)(w:World)(h:Xl w S T)(hl:Xx w S' v l):Calls Tryz.prog 241 #[Vu T,v] w (fun e w'=>∃ q x:Int,e=.returned (.tuple #[.int .u64 q,.int .i64 x])∧Ext w w'):=by
 obtain⟨A,C,rfl,hlCC,hCC⟩:=hl.shape;obtain⟨n,hnn⟩:=gnX ((l).length);have Hnn:=Y4 hnn;have Hhl:=Y4 hl;unfold maxLen at hCC;rw[hnn]at hlCC⊢;clear hl hnn;have X0:=Y4 ((Yl w).alloc (Xe T));have H:=Y4 (h.up X0.o);have Hb0:=Y4 (Xm w T);clear h;have HL:=Y4 (show Xx (w.alloc (Xe T)) S' (.slice A n C) l by have:=Hhl.o.ext X0.o;rwa [Hnn.o]at this);have Hf:=Y4 hf;have Hu:=Y4 hu;clear hf hu;go_enter Tryz.func241,Tryz.ntmps241;go_wp2_with (first|(refine Xw rfl ?_)|(refine Xz Hb0.o rfl ?_));refine(Vk T Hf.o Hu.o _ l _ H.o HL.o).mono ?_;rintro e w1 ⟨x,rfl,_,hx1⟩;have Hx1:=Y4 hx1;clear hx1;by_cases h0:x=0
 ·subst h0;go_wp2_with fail;go_loopw [18,7] (fun o u wr=>∃ (i:Nat) (q:Int),i≤n∧o=.int .i64 (i:Int)∧u=.int .u64 q∧Ext (w.alloc (Xe T)) wr) (fun o _ _=>n-(intOf o).toNat);case atStart=>exact⟨0,_,by omega,rfl,rfl,Hx1.o⟩
  clear Hx1;obtain⟨i,q,hi,rfl,rfl,hx⟩:=hrel;have Hx:=Y4 hx;clear hx;by_cases hlt:i<n
  ·obtain⟨hd_i,i0_i,i1_i⟩:=LTl i n;obtain⟨x,hs_x⟩:=geX (l:=(l)) (i:=i) (by have:=Hnn.o;omega);obtain⟨g_x,o_x,c_x,hvv,_,_,_,hgl_x,a0_x⟩:=(HL.o.ext Hx.o).get hs_x;simp only[Ye]at hvv;obtain⟨rfl,-,rfl⟩:=hvv;have Hs_x:=Y4 hs_x;clear hs_x;go_wp2_with (refine Xz (Hb0.o.ext Hx.o) rfl ?_);refine(Ew T Hf.o _ _ (H.o.up Hx.o)).mono ?_;rintro e w2 ⟨z,rfl,hx2⟩;go_wp2_with fail;go_roundw;case rel=>exact⟨i+1,_,by omega,by go_num,rfl,Hx.o.trans hx2⟩
   (simp[intOf];omega)
  have hd_i:=GEl i n;go_wp2_with fail;go_ret2;exact⟨_,_,rfl,X0.o.trans Hx.o⟩
 have h0b:(!(x==0))=true:=by simp[h0]
 have h0c:(x !=0)=true:=h0b;have h0d:(x==0)=false:=by simp[h0]
 have h0H:=Y4 h0;clear h0;go_wp2_with fail;go_ret2;exact⟨_,_,rfl,X0.o.trans Hx1.o⟩
theorem Zxf{S S':Nat→Prop}(T:Tbl)(hf:Few T)(hu:Uq T)(v:Value)(l:List Int)(w:World)(h:Xl w S T)(hl:Xx w S' v l):Calls Tryz.prog 219 #[Vu T,v] w (Qy w):=by
 obtain⟨A,C,rfl,hlCC,hCC⟩:=hl.shape;obtain⟨n,hnn⟩:=gnX ((l).length);have Hnn:=Y4 hnn;have Hhl:=Y4 hl;unfold maxLen at hCC;rw[hnn]at hlCC⊢;clear hl hnn;have X0:=Y4 ((Yl w).alloc (Xe T));have H:=Y4 (h.up X0.o);have Hb0:=Y4 (Xm w T);clear h;have HL:=Y4 (show Xx (w.alloc (Xe T)) S' (.slice A n C) l by have:=Hhl.o.ext X0.o;rwa [Hnn.o]at this);have Hf:=Y4 hf;have Hu:=Y4 hu;clear hf hu;go_enter Tryz.func219,Tryz.ntmps219;go_wp2_with (first|(refine Xw rfl ?_)|(refine Xz Hb0.o rfl ?_));refine(Ih T Hf.o Hu.o _ l _ H.o HL.o).mono ?_;rintro e w1 ⟨q,x,rfl,hx1⟩;go_wp2_with fail;all_goals
  go_ret;exact⟨_,rfl,X0.o.trans hx1⟩
theorem Ft{S S':Nat→Prop}(T:Tbl)(hf:Few T)(hu:Uq T)(v:Value)(l:List Int)(z:Int)(w:World)(h:Xl w S T)(hl:Xx w S' v l):Calls Tryz.prog 220 #[Vu T,v,.int .u64 z] w (Qy w):=by
 obtain⟨A,C,rfl,hlCC,hCC⟩:=hl.shape;obtain⟨n,hnn⟩:=gnX ((l).length);have Hnn:=Y4 hnn;have Hhl:=Y4 hl;unfold maxLen at hCC;rw[hnn]at hlCC⊢;clear hl hnn;have X0:=Y4 ((Yl w).alloc (Xe T));have H:=Y4 (h.up X0.o);have Hb0:=Y4 (Xm w T);clear h;have HL:=Y4 (show Xx (w.alloc (Xe T)) S' (.slice A n C) l by have:=Hhl.o.ext X0.o;rwa [Hnn.o]at this);have Hf:=Y4 hf;have Hu:=Y4 hu;clear hf hu;go_enter Tryz.func220,Tryz.ntmps220;go_wp2_with (first|(refine Xw rfl ?_)|(refine Xz Hb0.o rfl ?_));refine(Vk T Hf.o Hu.o _ l _ H.o HL.o).mono ?_;rintro e w1 ⟨x,rfl,_,hx1⟩;have Hx1:=Y4 hx1;clear hx1;by_cases h0:x=0
 ·subst h0;go_wp2_with fail;go_loopw [15] (fun o wr=>∃ i:Nat,i≤n∧o=.int .i64 (i:Int)∧Ext (w.alloc (Xe T)) wr) (fun o _=>n-(intOf o).toNat);case atStart=>exact⟨0,by omega,rfl,Hx1.o⟩
  clear Hx1;obtain⟨i,hi_i,rfl,hx⟩:=hrel;have Hx:=Y4 hx;clear hx;by_cases hlt:i<n
  ·obtain⟨hd_i,i0_i,i1_i⟩:=LTl i n;obtain⟨x,hs_x⟩:=geX (l:=(l)) (i:=i) (by have:=Hnn.o;omega);obtain⟨g_x,o_x,c_x,hvv,_,_,_,hgl_x,a0_x⟩:=(HL.o.ext Hx.o).get hs_x;simp only[Ye]at hvv;obtain⟨rfl,-,rfl⟩:=hvv;have Hs_x:=Y4 hs_x;clear hs_x;go_wp2_with (refine Xz (Hb0.o.ext Hx.o) rfl ?_);refine(Ew T Hf.o _ _ (H.o.up Hx.o)).mono ?_;rintro e w2 ⟨q,rfl,hx2⟩;go_wp2_with fail;all_goals
    have hx:=Hx.o
    first
    | (go_roundw
       case rel=>exact⟨i+1,by omega,by go_num,xE⟩
       (simp[intOf];omega))
    | (go_ret;exact⟨_,rfl,X0.o.trans xE⟩)
  have hd_i:=GEl i n;go_wp2_with fail;all_goals
   have hx:=Hx.o
   first
   | (go_roundw
      case rel=>exact⟨i+1,by omega,by go_num,xE⟩
      (simp[intOf];omega))
   | (go_ret;exact⟨_,rfl,X0.o.trans xE⟩)
 have h0b:(!(x==0))=true:=by simp[h0]
 have h0c:(x !=0)=true:=h0b;have h0d:(x==0)=false:=by simp[h0]
 have h0H:=Y4 h0;clear h0;go_wp2_with fail;go_ret;exact⟨_,rfl,X0.o.trans Hx1.o⟩
theorem Zxr(s:ByteArray)(n:Nat)(hs:s.size=n)(hbig:n≤100000)(w:World):Calls Tryz.prog 214 #[.string s] w (Bs 2048 w):=by
 have Hn:=Y4 hs;obtain⟨B,hB⟩:=gnX (w.heap.size);have HB:=Y4 hB;clear hB;go_enter Tryz.func214,Tryz.ntmps214;cases he:s.toList.isEmpty
 rotate_left
 ·go_wp2_with fail;go_ret2;exact Wy _ (Yl _)
 go_wp2_with fail;clear he;go_loopw [5,4] (fun o v wr=>∃ (k:Nat) (l:List Int),k≤n∧o=.int .i64 (k:Int)∧Own Wi wr B v l∧l.length=k∧Ext w wr) (fun o _ _=>n-(intOf o).toNat);case atStart=>exact⟨0,[],by omega,rfl,Own.nil _ _ _,rfl,Yl _⟩
 obtain⟨k,l,hk,rfl,ho,hl,hx⟩:=hrel;obtain⟨A,C,rfl,hlC,hC⟩:=ho.shape;rw[hl]at hlC⊢;have Hx:=Y4 hx;have Ho:=Y4 ho;have Hl:=Y4 hl;have hBw:B≤wr.heap.size:=by rw[← HB.o];exact hx.size
 unfold maxLen at hC;clear hx ho hl;by_cases hlt:k<n
 ·have hd:=LTd k n;have hlt':k<s.size:=by rw[Hn.o];omega
  have k0:(0:Int)≤(k:Int):=by omega
  obtain⟨c,hc⟩:∃ b:Nat,(s[k]'hlt').toNat=b:=⟨_,rfl⟩;by_cases hc7:127<c
  ·have d1:decide ((127:Int)<(c:Int))=true:=Yf;go_wp2_with fail;go_ret2;exact Wy _ Hx.o
  have d1:decide ((127:Int)<(c:Int))=false:=Yg;have r0:IntKind.i64.wrap (c:Int)=(c:Int):=Yp _ (by omega);go_wp2_with (at_builtin;refine Xu Wi _ _ _ rfl rfl rfl rfl (by rw[← Hl.o];exact Ho.o.ext ((Yl _).alloc _)) rfl (Wv wr (c:Int) _ _ rfl) (by rw[Hl.o];simp;omega) (by show 8≤1000;omega) (by simp;omega) ?_;intro A3 n3 c3 w3 hg);have Hg:=Y4 hg;clear hg;go_wp2_with fail;go_roundw;case rel=>exact⟨k+1,_,by omega,by go_num,Hg.o.own,by rw[Zs,Hl.o];rfl,Hg.o.ext w (Hx.o.alloc _) (by rw[HB.o];exact Yn _)⟩
  (simp[intOf];omega)
 have hd:=GEl k n;obtain rfl:k=n:=by omega
 by_cases h63:k≤63
 ·have d1:decide ((63:Int)<(k:Int))=false:=Yg;have Hno:=Y4 (show RdE Wi wr (fun i=>w.heap.size≤i) (.slice A k C) l by have:=Ho.o.rd;rwa [Hl.o,← HB.o]at this);go_wp2_with fail;refine(Zqg s _ (by omega)).mono ?_;rintro e w1 ⟨b,rfl,hb4,hx1⟩;have Hx1:=Y4 (Hx.o.trans hx1);cases b with
  | false =>
   go_wp2_with fail;go_ret2;exact⟨_,l,0,rfl,Hno.o.ext hx1,by rw[Hl.o];omega,Hx1.o⟩
  | true =>
   have h4:=hb4 rfl;rw[Hn.o]at h4;have q1:(4:Int)≤(k:Int):=by omega
   clear hb4 hx1;go_wp2_with fail;refine(F7 _ _ (by simp;omega)).mono ?_;rintro e w2 ⟨t,rfl,ht,hx2⟩;have Hx2:=Y4 (Hx1.o.trans hx2);clear hx2;go_wp2_with fail;refine(Zs0 t _ rfl _).mono ?_;rintro e w3 ⟨v,l3,x,rfl,hv3,hl3,hx3⟩;have Hx3:=Y4 (Hx2.o.trans hx3);have Hv3:=Y4 (Rd.mono hv3 fun i hi _=>Zm5 Hx2.o.size hi);have Hl3:=Y4 hl3;clear hx3 hl3;by_cases hx0:x=0
   ·subst hx0;go_wp2_with fail;refine(Ru v l3 _ hv3 (by have:=Hl3.o;omega)).mono ?_;rintro e w4 ⟨u,y,rfl,hu,_,hx4⟩;have Hx4:=Y4 hx4;clear hx4;cases ha:Zqk l3
    ·by_cases hy0:y=0
     ·subst hy0;go_wp2_with (first|(go_at_call 212;refine(Gi v l3 _ (hv3.ext Hx4.o)).mono ?_;rintro e w5 ⟨rfl,hx5⟩;rw[ha])|(go_at_call 228;refine(F7 _ _ (by omega)).mono ?_;rintro e w6 ⟨t6,rfl,ht6,hx6⟩));all_goals
       go_ret2
       first
       | exact Wy _ (Hx3.o.trans (Hx4.o.trans (hx5.trans hx6)))
       | exact⟨v,l3,0,rfl,Rd.ext Hv3.o (Hx4.o.trans (hx5.trans hx6)),Hl3.o,Hx3.o.trans (Hx4.o.trans (hx5.trans hx6))⟩
     have d2:(!(y==0))=true:=by simp[hy0]
     have d3:(y !=0)=true:=d2;clear hy0;go_wp2_with (go_at_call 212;refine(Gi v l3 _ (hv3.ext Hx4.o)).mono ?_;rintro e w5 ⟨rfl,hx5⟩;rw[ha]);go_ret2;exact Wy _ (Hx3.o.trans (Hx4.o.trans hx5))
    go_wp2_with (go_at_call 212;refine(Gi v l3 _ (hv3.ext Hx4.o)).mono ?_;rintro e w5 ⟨rfl,hx5⟩;rw[ha]);go_ret2;exact Wy _ (Hx3.o.trans (Hx4.o.trans hx5))
   have d2:(!(x==0))=true:=by simp[hx0]
   have d3:(x !=0)=true:=d2;clear hx0;go_wp2_with fail;go_ret2;exact Wy _ Hx3.o
 have d1:decide ((63:Int)<(k:Int))=true:=Yf;go_wp2_with fail;go_ret2;exact Wy _ Hx.o
theorem Zux{S S':Nat→Prop}(T:Tbl)(hf:Few T)(hu:Uq T)(v:Value)(l:List Int)(w:World)(h:Xl w S T)(hl:Xx w S' v l):Calls Tryz.prog 242 #[Vu T,v] w (Bs 4096 w):=by
 obtain⟨A11,C11,e11,hl11,hc11⟩:=h.pro.shape;have h11:=h.pro.ext ((Yl w).alloc (Xe T));obtain⟨n11,hn11⟩:=gnX (T.pro.length);rw[hn11]at e11 hl11;rw[e11]at h11;have Hn11:=Y4 hn11;have E11:=Y4 e11;have H11:=Y4 h11;unfold maxLen at hc11;clear hn11 e11 h11;obtain⟨A,C,rfl,hlCC,hCC⟩:=hl.shape;obtain⟨n,hnn⟩:=gnX ((l).length);have Hnn:=Y4 hnn;have Hhl:=Y4 hl;unfold maxLen at hCC;rw[hnn]at hlCC⊢;clear hl hnn;have X0:=Y4 ((Yl w).alloc (Xe T));have H:=Y4 (h.up X0.o);have Hb0:=Y4 (Xm w T);clear h;have HL:=Y4 (show Xx (w.alloc (Xe T)) S' (.slice A n C) l by have:=Hhl.o.ext X0.o;rwa [Hnn.o]at this);have Hf:=Y4 hf;have Hu:=Y4 hu;clear hf hu;obtain⟨B,hB⟩:=gnX ((w.alloc (Xe T)).heap.size);have HB:=Y4 hB;clear hB;go_enter Tryz.func242,Tryz.ntmps242;go_wp2_with (first|(refine Xw rfl ?_)|(refine Xz Hb0.o rfl ?_));refine(Vk T Hf.o Hu.o _ l _ H.o HL.o).mono ?_;rintro e w1 ⟨x,rfl,hacc,hx1⟩;have Hx1:=Y4 hx1;clear hx1;by_cases h0:x=0
 ·subst h0;obtain⟨_,hl4,_⟩:=hacc rfl;rw[Hnn.o]at hl4;clear hacc;go_wp2_with fail;go_loopw [19,7] (fun o u wr=>∃ (i:Nat) (p:List Int),i≤n∧o=.int .i64 (i:Int)∧Own Wi wr B u p∧p.length≤i*18∧Ext (w.alloc (Xe T)) wr) (fun o _ _=>n-(intOf o).toNat);case atStart=>exact⟨0,[],by omega,rfl,Own.nil _ _ _,by simp,Hx1.o⟩
  clear Hx1;obtain⟨i,p,hi,rfl,ho,hpl,hx⟩:=hrel;have hi18:i*18≤4096*18:=Zlq _ (by omega);obtain⟨A2,C2,rfl,hlC2,hC2⟩:=ho.shape;obtain⟨m,hm⟩:=gnX (p.length);have hoI:Own Wi wr B (.slice A2 m C2) p:=by rw[← hm];exact ho
  rw[hm]at hlC2 hpl⊢;have Hx:=Y4 hx;have Ho:=Y4 hoI;have Hm:=Y4 hm;have hBw:B≤wr.heap.size:=by rw[← HB.o];exact hx.size
  have hj18:(i+1)*18=i*18+18:=by omega
  have Hj:=Y4 hj18;unfold maxLen at hC2;clear hx ho hoI hm hj18;by_cases hlt:i<n
  ·obtain⟨hd_i,i0_i,i1_i⟩:=LTl i n;obtain⟨c,hs_c⟩:=geX (l:=(l)) (i:=i) (by have:=Hnn.o;omega);obtain⟨g_c,o_c,c_c,hvv,_,_,_,hgl_c,a0_c⟩:=(HL.o.ext Hx.o).get hs_c;simp only[Ye]at hvv;obtain⟨rfl,-,rfl⟩:=hvv;have Hs_c:=Y4 hs_c;clear hs_c;have hel:=K6 Hf.o.pro c;obtain⟨FA,FC,ef,fl,fc⟩:=(Qv (S:=S) (c:=c) H11.o.2).shape;obtain⟨k,hk⟩:=gnX ((Xg T.pro c).length);have hfa:=Qv (S:=S) (c:=c) H11.o.2;rw[ef,hk]at hfa;rw[hk]at ef fl hel;have Hk:=Y4 hk;have Hfa:=Y4 hfa;clear hk hfa;go_wp2_with (refine Xz (Hb0.o.ext Hx.o) rfl ?_);refine(Zua T c _ (H.o.up Hx.o)).mono ?_;rintro e w2 ⟨rfl,hx2⟩;have Hx2:=Y4 (Hx.o.trans hx2);have Ho2:=Y4 (Ho.o.ext hx2);have hs2:=hx2.size;clear hx2;go_wp2_with (refine Xz (Hb0.o.ext Hx2.o) rfl ?_);refine(Vd T c _ (H.o.up Hx2.o)).mono ?_;rintro e w3 ⟨rfl,hx3⟩;have Hx3:=Y4 (Hx2.o.trans hx3);have Ho3:=Y4 (Ho2.o.ext hx3);have hs3:=hx3.size;clear hx3;cases hq:(Wl T.ign c==1)
   ·by_cases hk0:0<k
    ·have d1:decide ((0:Int)<(k:Int))=true:=Yf;have d2:decide (0<k)=true:=Yf hk0;go_wp2_with (at_builtin;refine Xu Wi _ _ _ rfl rfl rfl rfl Ho3.o rfl (Hfa.o.ext Hx3.o) (by rw[Hm.o,Hk.o];omega) (by show 8≤1000;omega) (by omega) ?_;intro A5 n5 c5 w5 hg5;have Hx5:=Y4 (hg5.ext (w.alloc (Xe T)) Hx3.o (by rw[HB.o];exact Yn _));have Hg5:=Y4 hg5;clear hg5);go_roundw;case rel=>exact⟨i+1,_,by omega,by go_num,Hg5.o.own,by rw[Zs,Hm.o,Hk.o,Hj.o];omega,Hx5.o⟩
     (simp[intOf];omega)
    have d1:decide ((0:Int)<(k:Int))=false:=Yg;have d2:decide (0<k)=false:=Yg hk0;go_wp2_with (at_builtin;refine Xu Wi _ _ _ rfl rfl rfl rfl (Ho3.o.ext ((Yl _).alloc _)) rfl (Wv w3 c _ _ rfl) (by rw[Hm.o];show m+1≤_;omega) (by show 8≤1000;omega) (by simp;omega) ?_;intro A5 n5 c5 w5 hg5;have Hx5:=Y4 (hg5.ext (w.alloc (Xe T)) (Hx3.o.alloc _) (by rw[HB.o];exact Yn _));have Hg5:=Y4 hg5;clear hg5);go_roundw;case rel=>exact⟨i+1,_,by omega,by go_num,Hg5.o.own,by rw[Zs,Hm.o,Hj.o];show m+1≤_;omega,Hx5.o⟩
    (simp[intOf];omega)
   go_wp2_with fail;go_roundw;case rel=>exact⟨i+1,p,by omega,by go_num,Ho3.o,by rw[Hm.o,Hj.o];omega,Hx3.o⟩
   (simp[intOf];omega)
  have hd_i:=GEl i n;by_cases hbig:4096<m
  ·have d1:decide ((4096:Int)<(m:Int))=true:=Yf;go_wp2_with fail;go_ret2;exact Wy _ (X0.o.trans Hx.o)
  have d1:decide ((4096:Int)<(m:Int))=false:=Yg;go_wp2_with fail;go_ret2;refine⟨_,p,0,rfl,?_,by rw[Hm.o];omega,X0.o.trans Hx.o⟩;have:=Ho.o.rd;rw[← Hm.o]at this⊢;exact Rd.mono this fun k hk _=>Zm5 (by have:=X0.o.size;have:=HB.o;omega) hk
 have h0b:(!(x==0))=true:=by simp[h0]
 have h0c:(x !=0)=true:=h0b;have h0d:(x==0)=false:=by simp[h0]
 have h0H:=Y4 h0;clear h0;go_wp2_with fail;go_ret2;exact Wy _ (X0.o.trans Hx1.o)
theorem Zn7{S S':Nat→Prop}(T:Tbl)(hf:Few T)(hu:Uq T)(v:Value)(l:List Int)(w:World)(h:Xl w S T)(hl:Xx w S' v l):Calls Tryz.prog 221 #[Vu T,v] w (Bs 4096 w):=by
 obtain⟨A,C,rfl,hlCC,hCC⟩:=hl.shape;obtain⟨n,hnn⟩:=gnX ((l).length);have Hnn:=Y4 hnn;have Hhl:=Y4 hl;unfold maxLen at hCC;rw[hnn]at hlCC⊢;clear hl hnn;have X0:=Y4 ((Yl w).alloc (Xe T));have H:=Y4 (h.up X0.o);have Hb0:=Y4 (Xm w T);clear h;have HL:=Y4 (show Xx (w.alloc (Xe T)) S' (.slice A n C) l by have:=Hhl.o.ext X0.o;rwa [Hnn.o]at this);have Hf:=Y4 hf;have Hu:=Y4 hu;clear hf hu;go_enter Tryz.func221,Tryz.ntmps221;go_wp2_with (first|(refine Xw rfl ?_)|(refine Xz Hb0.o rfl ?_));refine(Ir T Hf.o Hu.o _ l _ H.o HL.o).mono ?_;rintro e w1 ⟨u1,l1,x,rfl,hl1,_,_,hx1⟩;have Hx1:=Y4 hx1;clear hx1;by_cases h0:x=0
 ·subst h0;go_wp2_with (refine Xz (Hb0.o.ext Hx1.o) rfl ?_);refine(Zux T Hf.o Hu.o u1 l1 _ (H.o.up Hx1.o) hl1).mono ?_;rintro e w2 ⟨u2,l2,x2,rfl,hl2,_,hx2⟩;have Hx2:=Y4 (Hx1.o.trans hx2);clear hx2;by_cases h2:x2=0
  ·subst h2;go_wp2_with (refine Xz (Hb0.o.ext Hx2.o) rfl ?_);refine(Ir T Hf.o Hu.o u2 l2 _ (H.o.up Hx2.o) hl2).mono ?_;rintro e w3 ⟨u3,l3,x3,rfl,hl3,hn3,_,hx3⟩;go_wp2_with fail;go_ret2;exact⟨u3,l3,x3,rfl,Rd.mono hl3 fun k hk _=>Zm5 (X0.o.trans Hx2.o).size hk,hn3,X0.o.trans (Hx2.o.trans hx3)⟩
  have h2b:(!(x2==0))=true:=by simp[h2]
  have h2c:(x2 !=0)=true:=h2b;have h2d:(x2==0)=false:=by simp[h2]
  have h2H:=Y4 h2;clear h2;go_wp2_with fail;go_ret2;exact Wy _ (X0.o.trans Hx2.o)
 have h0b:(!(x==0))=true:=by simp[h0]
 have h0c:(x !=0)=true:=h0b;have h0d:(x==0)=false:=by simp[h0]
 have h0H:=Y4 h0;clear h0;go_wp2_with fail;go_ret2;exact Wy _ (X0.o.trans Hx1.o)
def Znb(N:Nat)(w:World)(e:Ending)(w':World):Prop:=∃ (s:ByteArray) (y:Int),e=.returned (.tuple #[.string s,.int .i64 y])∧s.size≤N∧Ext w w'
theorem Zoy{S S':Nat→Prop}(T:Tbl)(hf:Few T)(hu:Uq T)(v:Value)(l:List Int)(w:World)(h:Xl w S T)(hl:Xx w S' v l):Calls Tryz.prog 202 #[Vu T,v] w (Znb 16384 w):=by
 obtain⟨A,C,rfl,hlCC,hCC⟩:=hl.shape;obtain⟨n,hnn⟩:=gnX ((l).length);have Hnn:=Y4 hnn;have Hhl:=Y4 hl;unfold maxLen at hCC;rw[hnn]at hlCC⊢;clear hl hnn;have X0:=Y4 ((Yl w).alloc (Xe T));have H:=Y4 (h.up X0.o);have Hb0:=Y4 (Xm w T);clear h;have HL:=Y4 (show Xx (w.alloc (Xe T)) S' (.slice A n C) l by have:=Hhl.o.ext X0.o;rwa [Hnn.o]at this);have Hf:=Y4 hf;have Hu:=Y4 hu;clear hf hu;go_enter Tryz.func202,Tryz.ntmps202;go_wp2_with (first|(refine Xw rfl ?_)|(refine Xz Hb0.o rfl ?_));refine(Zn7 T Hf.o Hu.o _ l _ H.o HL.o).mono ?_;rintro e w1 ⟨u1,l1,x,rfl,hl1,hn1,hx1⟩;have Hx1:=Y4 hx1;clear hx1;by_cases h0:x=0
 ·subst h0;go_wp2_with fail;refine(Ej u1 l1 _ hl1).mono ?_;rintro e w2 ⟨t,y,rfl,ht,hx2⟩;go_wp2_with fail;go_ret2;exact⟨t,y,rfl,by omega,X0.o.trans (Hx1.o.trans hx2)⟩
 have h0b:(!(x==0))=true:=by simp[h0]
 have h0c:(x !=0)=true:=h0b;have h0d:(x==0)=false:=by simp[h0]
 have h0H:=Y4 h0;clear h0;go_wp2_with fail;go_ret2;exact⟨_,x,rfl,by show 0≤_;omega,X0.o.trans Hx1.o⟩
end Go.Proofs.YtnbclgbicnpmnaaGreat
