/- Lemmas of this claim: Sa, P7, Sb, Re2. Conditions: as named. -/
import Derived.Test.YtnbclgbicnpmnaaGreatA21
import Derived.Test.YtnbclgbicnpmnaaGreatA23
namespace Go.Proofs.YtnbclgbicnpmnaaGreat
open Go.RowKit Go.Sort Go.Proofs.Tryz
set_option maxHeartbeats 0
set_option maxRecDepth 100000
set_option linter.all false
def Zhv(w:World)(e:Ending)(w':World):Prop:=∃ v:Int,e=.returned (.int .u64 v)∧Ext w w'
theorem Ic(s:Int)(w:World):Calls prog 240 #[.int .i64 s] w (Zhv w):=by
 go_enter func240,ntmps240;go_wp2_with fail;all_goals
  go_ret;exact⟨_,rfl,Yk _⟩
theorem Da{S:Nat→Prop}(T:Tbl)(hf:Few T)(c:Int)(w:World)(h:Xg w S T):Calls prog 218 #[Vg T,.int .i64 c] w (Zhv w):=by
 obtain⟨A7,C7,e7,hl7,hc7⟩:=h.ext.shape;have h7:=h.ext.ext ((Yk w).alloc (Wz T));obtain⟨n7,hn7⟩:=gnX (T.ext.length);rw[hn7]at e7 hl7;rw[e7]at h7;have Hn7:=Y8 hn7;have E7:=Y8 e7;have H7:=Y8 h7;unfold maxLen at hc7;clear hn7 e7 h7;obtain⟨X0,H,Hb0⟩:=tblX h;clear h;have hel:=Gm hf.ext c;obtain⟨FA,FC,ef,fl,fc⟩:=(Qi (S:=S) (c:=c) H7.o.2).shape;obtain⟨k,hk⟩:=gnX ((Xb T.ext c).length);have hfa:=Qi (S:=S) (c:=c) H7.o.2;rw[ef,hk]at hfa;rw[hk]at ef fl hel;have Hk:=Y8 hk;have Hfa:=Y8 hfa;clear hk hfa;go_enter func218,ntmps218;go_wp2_with (first|(refine Xv rfl ?_)|(refine Xy Hb0.o rfl ?_));refine(Zxn T c _ H.o).mono ?_;rintro e w1 ⟨rfl,hx1⟩;have Hx1:=Y8 hx1;clear hx1;by_cases hk0:k=0
 ·subst hk0;go_wp2_with (refine Xy (Hb0.o.ext Hx1.o) rfl ?_);refine(Rf T c _ (H.o.up Hx1.o)).mono ?_;rintro e w2 ⟨z,rfl,hx2⟩;have Hx2:=Y8 (Hx1.o.trans hx2);have HL:=Y8 (Ws w2 z 3 _ rfl);have Hnn:=Y8 (show([z]:List Int).length=1 from rfl);clear hx2;go_wp2_with fail;obtain⟨A0,hA0⟩:∃ A:Option Addr,some ⟨w2.heap.size,0,none⟩=A:=⟨_,rfl⟩;rw[hA0]at HL⊢;clear hA0;go_loopw [21,6] (fun o u wr=>∃ (i:Nat) (q:Int),i≤1∧o=.int .i64 (i:Int)∧u=.int .u64 q∧Ext (w2.alloc (.cells #[.int .i64 z] 3)) wr) (fun o _ _=>1-(intOf o).toNat);case atStart=>exact⟨0,0,by omega,rfl,rfl,Yk _⟩
  obtain⟨i,q,hi,rfl,rfl,hx⟩:=hrel;have Hx:=Y8 hx;clear hx;by_cases hlt:i<1
  ·have hd_i:decide ((i:Int)<(1:Int))=true:=Ye;have i0_i:(0:Int)≤(i:Int):=by omega
   have i1_i:(i:Int)<(1:Int):=by omega
   obtain⟨x,hs_x⟩:=geX (l:=([z])) (i:=i) (by have:=Hnn.o;omega);obtain⟨g_x,o_x,c_x,hvv,_,_,_,hgl_x,a0_x⟩:=(HL.o.ext Hx.o).get hs_x;obtain⟨rfl,-,rfl⟩:=slcX hvv;clear hvv;have Hs_x:=Y8 hs_x;clear hs_x;go_wp2_with (go_at_call 240;refine(Ic _ _).mono ?_;rintro e w4 ⟨v4,rfl,hx4⟩);all_goals
    first
    | (go_roundw
       case rel=>exact⟨i+1,_,by omega,by go_num,rfl,by first|exact Hx.o|exact Hx.o.trans hx4⟩
       (simp[intOf];omega))
    | (go_ret;exact⟨_,rfl,X0.o.trans ((Hx2.o.alloc _).trans Hx.o)⟩)
  have hd_i:decide ((i:Int)<(1:Int))=false:=Yf;go_wp2_with fail;go_ret;exact⟨_,rfl,X0.o.trans ((Hx2.o.alloc _).trans Hx.o)⟩
 have hk1:((k:Int)==0)=false:=by simp;omega
 have hk2:(k==0)=false:=by simp;omega
 have HL:=Y8 (show Xw w1 S (.slice FA k FC) (Xb T.ext c) from Hfa.o.ext Hx1.o);have Hnn:=Hk;clear hk0;go_wp2_with fail;go_loopw [21,6] (fun o u wr=>∃ (i:Nat) (q:Int),i≤k∧o=.int .i64 (i:Int)∧u=.int .u64 q∧Ext w1 wr) (fun o _ _=>k-(intOf o).toNat);case atStart=>exact⟨0,0,by omega,rfl,rfl,Yk _⟩
 obtain⟨i,q,hi,rfl,rfl,hx⟩:=hrel;have Hx:=Y8 hx;clear hx;by_cases hlt:i<k
 ·obtain⟨hd_i,i0_i,i1_i⟩:=LTl i k;obtain⟨x,hs_x⟩:=geX (l:=((Xb T.ext c))) (i:=i) (by have:=Hnn.o;omega);obtain⟨g_x,o_x,c_x,hvv,_,_,_,hgl_x,a0_x⟩:=(HL.o.ext Hx.o).get hs_x;obtain⟨rfl,-,rfl⟩:=slcX hvv;clear hvv;have Hs_x:=Y8 hs_x;clear hs_x;go_wp2_with (go_at_call 240;refine(Ic _ _).mono ?_;rintro e w4 ⟨v4,rfl,hx4⟩);all_goals
   first
   | (go_roundw
      case rel=>exact⟨i+1,_,by omega,by go_num,rfl,by first|exact Hx.o|exact Hx.o.trans hx4⟩
      (simp[intOf];omega))
   | (go_ret;exact⟨_,rfl,X0.o.trans (Hx1.o.trans Hx.o)⟩)
 have hd_i:=GEl i k;go_wp2_with fail;go_ret;exact⟨_,rfl,X0.o.trans (Hx1.o.trans Hx.o)⟩
theorem Zxr{S S':Nat→Prop}(T:Tbl)(hf:Few T)(hu:Uq T)(v:Value)(l:List Int)(w:World)(h:Xg w S T)(hl:Xw w S' v l):Calls prog 241 #[Vg T,v] w (fun e w'=>∃ q x:Int,e=.returned (.tuple #[.int .u64 q,.int .i64 x])∧Ext w w'):=by
 obtain⟨A,C,rfl,hlCC,hCC⟩:=hl.shape;obtain⟨n,hnn⟩:=gnX ((l).length);have Hnn:=Y8 hnn;have Hhl:=Y8 hl;unfold maxLen at hCC;rw[hnn]at hlCC⊢;clear hl hnn;obtain⟨X0,H,Hb0⟩:=tblX h;clear h;have HL:=intX Hhl Hnn X0;have Hf:=Y8 hf;have Hu:=Y8 hu;clear hf hu;go_enter func241,ntmps241;go_wp2_with (first|(refine Xv rfl ?_)|(refine Xy Hb0.o rfl ?_));refine(V0 T Hf.o Hu.o _ l _ H.o HL.o).mono ?_;rintro e w1 ⟨x,rfl,_,hx1⟩;have Hx1:=Y8 hx1;clear hx1;by_cases h0:x=0
 ·subst h0;go_wp2_with fail;go_loopw [18,7] (fun o u wr=>∃ (i:Nat) (q:Int),i≤n∧o=.int .i64 (i:Int)∧u=.int .u64 q∧Ext (w.alloc (Wz T)) wr) (fun o _ _=>n-(intOf o).toNat);case atStart=>exact⟨0,_,by omega,rfl,rfl,Hx1.o⟩
  clear Hx1;obtain⟨i,q,hi,rfl,rfl,hx⟩:=hrel;have Hx:=Y8 hx;clear hx;by_cases hlt:i<n
  ·obtain⟨hd_i,i0_i,i1_i⟩:=LTl i n;obtain⟨x,hs_x⟩:=geX (l:=(l)) (i:=i) (by have:=Hnn.o;omega);obtain⟨g_x,o_x,c_x,hvv,_,_,_,hgl_x,a0_x⟩:=(HL.o.ext Hx.o).get hs_x;obtain⟨rfl,-,rfl⟩:=slcX hvv;clear hvv;have Hs_x:=Y8 hs_x;clear hs_x;go_wp2_with (refine Xy (Hb0.o.ext Hx.o) rfl ?_);refine(Da T Hf.o _ _ (H.o.up Hx.o)).mono ?_;rintro e w2 ⟨z,rfl,hx2⟩;go_wp2_with fail;go_roundw;case rel=>exact⟨i+1,_,by omega,by go_num,rfl,Hx.o.trans hx2⟩
   (simp[intOf];omega)
  have hd_i:=GEl i n;go_wp2_with fail;go_ret2;exact⟨_,_,rfl,X0.o.trans Hx.o⟩
 have h0b:(!(x==0))=true:=by simp[h0]
 have h0c:(x !=0)=true:=h0b;have h0d:(x==0)=false:=by simp[h0]
 have h0H:=Y8 h0;clear h0;go_wp2_with fail;go_ret2;exact⟨_,_,rfl,X0.o.trans Hx1.o⟩
theorem Zu5{S S':Nat→Prop}(T:Tbl)(hf:Few T)(hu:Uq T)(v:Value)(l:List Int)(w:World)(h:Xg w S T)(hl:Xw w S' v l):Calls prog 219 #[Vg T,v] w (Qm w):=by
 obtain⟨A,C,rfl,hlCC,hCC⟩:=hl.shape;obtain⟨n,hnn⟩:=gnX ((l).length);have Hnn:=Y8 hnn;have Hhl:=Y8 hl;unfold maxLen at hCC;rw[hnn]at hlCC⊢;clear hl hnn;obtain⟨X0,H,Hb0⟩:=tblX h;clear h;have HL:=intX Hhl Hnn X0;have Hf:=Y8 hf;have Hu:=Y8 hu;clear hf hu;go_enter func219,ntmps219;go_wp2_with (first|(refine Xv rfl ?_)|(refine Xy Hb0.o rfl ?_));refine(Zxr T Hf.o Hu.o _ l _ H.o HL.o).mono ?_;rintro e w1 ⟨q,x,rfl,hx1⟩;go_wp2_with fail;all_goals
  go_ret;exact⟨_,rfl,X0.o.trans hx1⟩
theorem Mc{S S':Nat→Prop}(T:Tbl)(hf:Few T)(hu:Uq T)(v:Value)(l:List Int)(z:Int)(w:World)(h:Xg w S T)(hl:Xw w S' v l):Calls prog 220 #[Vg T,v,.int .u64 z] w (Qm w):=by
 obtain⟨A,C,rfl,hlCC,hCC⟩:=hl.shape;obtain⟨n,hnn⟩:=gnX ((l).length);have Hnn:=Y8 hnn;have Hhl:=Y8 hl;unfold maxLen at hCC;rw[hnn]at hlCC⊢;clear hl hnn;obtain⟨X0,H,Hb0⟩:=tblX h;clear h;have HL:=intX Hhl Hnn X0;have Hf:=Y8 hf;have Hu:=Y8 hu;clear hf hu;go_enter func220,ntmps220;go_wp2_with (first|(refine Xv rfl ?_)|(refine Xy Hb0.o rfl ?_));refine(V0 T Hf.o Hu.o _ l _ H.o HL.o).mono ?_;rintro e w1 ⟨x,rfl,_,hx1⟩;have Hx1:=Y8 hx1;clear hx1;by_cases h0:x=0
 ·subst h0;go_wp2_with fail;go_loopw [15] (fun o wr=>∃ i:Nat,i≤n∧o=.int .i64 (i:Int)∧Ext (w.alloc (Wz T)) wr) (fun o _=>n-(intOf o).toNat);case atStart=>exact⟨0,by omega,rfl,Hx1.o⟩
  clear Hx1;obtain⟨i,hi_i,rfl,hx⟩:=hrel;have Hx:=Y8 hx;clear hx;by_cases hlt:i<n
  ·obtain⟨hd_i,i0_i,i1_i⟩:=LTl i n;obtain⟨x,hs_x⟩:=geX (l:=(l)) (i:=i) (by have:=Hnn.o;omega);obtain⟨g_x,o_x,c_x,hvv,_,_,_,hgl_x,a0_x⟩:=(HL.o.ext Hx.o).get hs_x;obtain⟨rfl,-,rfl⟩:=slcX hvv;clear hvv;have Hs_x:=Y8 hs_x;clear hs_x;go_wp2_with (refine Xy (Hb0.o.ext Hx.o) rfl ?_);refine(Da T Hf.o _ _ (H.o.up Hx.o)).mono ?_;rintro e w2 ⟨q,rfl,hx2⟩;go_wp2_with fail;all_goals
    have hx:=Hx.o
    first
    | (go_roundw
       case rel=>exact⟨i+1,by omega,by go_num,xE⟩
       (simp[intOf];omega))
    | (go_ret;exact⟨_,rfl,X0.o.trans xE⟩)
  have hd_i:=GEl i n;go_wp2_with fail;all_goals
   have hx:=Hx.o
   first
   | (go_roundw
      case rel=>exact⟨i+1,by omega,by go_num,xE⟩
      (simp[intOf];omega))
   | (go_ret;exact⟨_,rfl,X0.o.trans xE⟩)
 have h0b:(!(x==0))=true:=by simp[h0]
 have h0c:(x !=0)=true:=h0b;have h0d:(x==0)=false:=by simp[h0]
 have h0H:=Y8 h0;clear h0;go_wp2_with fail;go_ret;exact⟨_,rfl,X0.o.trans Hx1.o⟩
theorem Zuf(s:ByteArray)(n:Nat)(hs:s.size=n)(hbig:n≤100000)(w:World):Calls prog 214 #[.string s] w (Ec 2048 w):=by
 have Hn:=Y8 hs;obtain⟨B,hB⟩:=gnX (w.heap.size);have HB:=Y8 hB;clear hB;go_enter func214,ntmps214;cases he:s.toList.isEmpty
 rotate_left
 ·go_wp2_with fail;go_ret2;exact Wx _ (Yk _)
 go_wp2_with fail;clear he;go_loopw [5,4] (fun o v wr=>∃ (k:Nat) (l:List Int),k≤n∧o=.int .i64 (k:Int)∧Own Ww wr B v l∧l.length=k∧Ext w wr) (fun o _ _=>n-(intOf o).toNat);case atStart=>exact⟨0,[],by omega,rfl,Own.nil _ _ _,rfl,Yk _⟩
 obtain⟨k,l,hk,rfl,ho,hl,hx⟩:=hrel;obtain⟨A,C,rfl,hlC,hC⟩:=ho.shape;rw[hl]at hlC⊢;have Hx:=Y8 hx;have Ho:=Y8 ho;have Hl:=Y8 hl;have hBw:B≤wr.heap.size:=by rw[← HB.o];exact hx.size
 unfold maxLen at hC;clear hx ho hl;by_cases hlt:k<n
 ·have hd:=LTd k n;have hlt':k<s.size:=by rw[Hn.o];omega
  have k0:(0:Int)≤(k:Int):=by omega
  obtain⟨c,hc⟩:∃ b:Nat,(s[k]'hlt').toNat=b:=⟨_,rfl⟩;by_cases hc7:127<c
  ·have d1:decide ((127:Int)<(c:Int))=true:=Ye;go_wp2_with fail;go_ret2;exact Wx _ Hx.o
  have d1:decide ((127:Int)<(c:Int))=false:=Yf;have r0:IntKind.i64.wrap (c:Int)=(c:Int):=Yp _ (by omega);go_wp2_with (at_builtin;refine Xt Ww _ _ _ rfl rfl rfl rfl (by rw[← Hl.o];exact Ho.o.ext ((Yk _).alloc _)) rfl (Ws wr (c:Int) _ _ rfl) (by rw[Hl.o];simp;omega) (by show 8≤1000;omega) (by simp;omega) ?_;intro A3 n3 c3 w3 hg);have Hg:=Y8 hg;clear hg;go_wp2_with fail;go_roundw;case rel=>exact⟨k+1,_,by omega,by go_num,Hg.o.own,by rw[Zs,Hl.o];rfl,Hg.o.ext w (Hx.o.alloc _) (by rw[HB.o];exact Ym _)⟩
  (simp[intOf];omega)
 have hd:=GEl k n;obtain rfl:k=n:=by omega
 by_cases h63:k≤63
 ·have d1:decide ((63:Int)<(k:Int))=false:=Yf;have Hno:=Y8 (show RdE Ww wr (fun i=>w.heap.size≤i) (.slice A k C) l by have:=Ho.o.rd;rwa [Hl.o,← HB.o]at this);go_wp2_with fail;refine(Zkx s _ (by omega)).mono ?_;rintro e w1 ⟨b,rfl,hb4,hx1⟩;have Hx1:=Y8 (Hx.o.trans hx1);cases b with
  | false =>
   go_wp2_with fail;go_ret2;exact⟨_,l,0,rfl,Hno.o.ext hx1,by rw[Hl.o];omega,Hx1.o⟩
  | true =>
   have h4:=hb4 rfl;rw[Hn.o]at h4;have q1:(4:Int)≤(k:Int):=by omega
   clear hb4 hx1;go_wp2_with fail;refine(Nf _ _ (by simp;omega)).mono ?_;rintro e w2 ⟨t,rfl,ht,hx2⟩;have Hx2:=Y8 (Hx1.o.trans hx2);clear hx2;go_wp2_with fail;refine(Zn2 t _ rfl _).mono ?_;rintro e w3 ⟨v,l3,x,rfl,hv3,hl3,hx3⟩;have Hx3:=Y8 (Hx2.o.trans hx3);have Hv3:=Y8 (Rd.mono hv3 fun i hi _=>Zgo Hx2.o.size hi);have Hl3:=Y8 hl3;clear hx3 hl3;by_cases hx0:x=0
   ·subst hx0;go_wp2_with fail;refine(Ia v l3 _ hv3 (by have:=Hl3.o;omega)).mono ?_;rintro e w4 ⟨u,y,rfl,hu,_,hx4⟩;have Hx4:=Y8 hx4;clear hx4;cases ha:Zl8 l3
    ·by_cases hy0:y=0
     ·subst hy0;go_wp2_with (first|(go_at_call 212;refine(Es v l3 _ (hv3.ext Hx4.o)).mono ?_;rintro e w5 ⟨rfl,hx5⟩;rw[ha])|(go_at_call 228;refine(Nf _ _ (by omega)).mono ?_;rintro e w6 ⟨t6,rfl,ht6,hx6⟩));all_goals
       go_ret2
       first
       | exact Wx _ (Hx3.o.trans (Hx4.o.trans (hx5.trans hx6)))
       | exact⟨v,l3,0,rfl,Rd.ext Hv3.o (Hx4.o.trans (hx5.trans hx6)),Hl3.o,Hx3.o.trans (Hx4.o.trans (hx5.trans hx6))⟩
     have d2:(!(y==0))=true:=by simp[hy0]
     have d3:(y !=0)=true:=d2;clear hy0;go_wp2_with (go_at_call 212;refine(Es v l3 _ (hv3.ext Hx4.o)).mono ?_;rintro e w5 ⟨rfl,hx5⟩;rw[ha]);go_ret2;exact Wx _ (Hx3.o.trans (Hx4.o.trans hx5))
    go_wp2_with (go_at_call 212;refine(Es v l3 _ (hv3.ext Hx4.o)).mono ?_;rintro e w5 ⟨rfl,hx5⟩;rw[ha]);go_ret2;exact Wx _ (Hx3.o.trans (Hx4.o.trans hx5))
   have d2:(!(x==0))=true:=by simp[hx0]
   have d3:(x !=0)=true:=d2;clear hx0;go_wp2_with fail;go_ret2;exact Wx _ Hx3.o
 have d1:decide ((63:Int)<(k:Int))=true:=Ye;go_wp2_with fail;go_ret2;exact Wx _ Hx.o
theorem Zqm{S S':Nat→Prop}(T:Tbl)(hf:Few T)(hu:Uq T)(v:Value)(l:List Int)(w:World)(h:Xg w S T)(hl:Xw w S' v l):Calls prog 242 #[Vg T,v] w (Ec 4096 w):=by
 obtain⟨A11,C11,e11,hl11,hc11⟩:=h.pro.shape;have h11:=h.pro.ext ((Yk w).alloc (Wz T));obtain⟨n11,hn11⟩:=gnX (T.pro.length);rw[hn11]at e11 hl11;rw[e11]at h11;have Hn11:=Y8 hn11;have E11:=Y8 e11;have H11:=Y8 h11;unfold maxLen at hc11;clear hn11 e11 h11;obtain⟨A,C,rfl,hlCC,hCC⟩:=hl.shape;obtain⟨n,hnn⟩:=gnX ((l).length);have Hnn:=Y8 hnn;have Hhl:=Y8 hl;unfold maxLen at hCC;rw[hnn]at hlCC⊢;clear hl hnn;obtain⟨X0,H,Hb0⟩:=tblX h;clear h;have HL:=intX Hhl Hnn X0;have Hf:=Y8 hf;have Hu:=Y8 hu;clear hf hu;obtain⟨B,hB⟩:=gnX ((w.alloc (Wz T)).heap.size);have HB:=Y8 hB;clear hB;go_enter func242,ntmps242;go_wp2_with (first|(refine Xv rfl ?_)|(refine Xy Hb0.o rfl ?_));refine(V0 T Hf.o Hu.o _ l _ H.o HL.o).mono ?_;rintro e w1 ⟨x,rfl,hacc,hx1⟩;have Hx1:=Y8 hx1;clear hx1;by_cases h0:x=0
 ·subst h0;obtain⟨_,hl4,_⟩:=hacc rfl;rw[Hnn.o]at hl4;clear hacc;go_wp2_with fail;go_loopw [19,7] (fun o u wr=>∃ (i:Nat) (p:List Int),i≤n∧o=.int .i64 (i:Int)∧Own Ww wr B u p∧p.length≤i*18∧Ext (w.alloc (Wz T)) wr) (fun o _ _=>n-(intOf o).toNat);case atStart=>exact⟨0,[],by omega,rfl,Own.nil _ _ _,by simp,Hx1.o⟩
  clear Hx1;obtain⟨i,p,hi,rfl,ho,hpl,hx⟩:=hrel;have hi18:i*18≤4096*18:=Zgi _ (by omega);obtain⟨A2,C2,rfl,hlC2,hC2⟩:=ho.shape;obtain⟨m,hm⟩:=gnX (p.length);have hoI:Own Ww wr B (.slice A2 m C2) p:=by rw[← hm];exact ho
  rw[hm]at hlC2 hpl⊢;have Hx:=Y8 hx;have Ho:=Y8 hoI;have Hm:=Y8 hm;have hBw:B≤wr.heap.size:=by rw[← HB.o];exact hx.size
  have hj18:(i+1)*18=i*18+18:=by omega
  have Hj:=Y8 hj18;unfold maxLen at hC2;clear hx ho hoI hm hj18;by_cases hlt:i<n
  ·obtain⟨hd_i,i0_i,i1_i⟩:=LTl i n;obtain⟨c,hs_c⟩:=geX (l:=(l)) (i:=i) (by have:=Hnn.o;omega);obtain⟨g_c,o_c,c_c,hvv,_,_,_,hgl_c,a0_c⟩:=(HL.o.ext Hx.o).get hs_c;obtain⟨rfl,-,rfl⟩:=slcX hvv;clear hvv;have Hs_c:=Y8 hs_c;clear hs_c;have hel:=Gm Hf.o.pro c;obtain⟨FA,FC,ef,fl,fc⟩:=(Qi (S:=S) (c:=c) H11.o.2).shape;obtain⟨k,hk⟩:=gnX ((Xb T.pro c).length);have hfa:=Qi (S:=S) (c:=c) H11.o.2;rw[ef,hk]at hfa;rw[hk]at ef fl hel;have Hk:=Y8 hk;have Hfa:=Y8 hfa;clear hk hfa;go_wp2_with (refine Xy (Hb0.o.ext Hx.o) rfl ?_);refine(Zpu T c _ (H.o.up Hx.o)).mono ?_;rintro e w2 ⟨rfl,hx2⟩;have Hx2:=Y8 (Hx.o.trans hx2);have Ho2:=Y8 (Ho.o.ext hx2);have hs2:=hx2.size;clear hx2;go_wp2_with (refine Xy (Hb0.o.ext Hx2.o) rfl ?_);refine(Qx T c _ (H.o.up Hx2.o)).mono ?_;rintro e w3 ⟨rfl,hx3⟩;have Hx3:=Y8 (Hx2.o.trans hx3);have Ho3:=Y8 (Ho2.o.ext hx3);have hs3:=hx3.size;clear hx3;cases hq:(Wk T.ign c==1)
   ·by_cases hk0:0<k
    ·have d1:decide ((0:Int)<(k:Int))=true:=Ye;have d2:decide (0<k)=true:=Ye hk0;go_wp2_with (at_builtin;refine Xt Ww _ _ _ rfl rfl rfl rfl Ho3.o rfl (Hfa.o.ext Hx3.o) (by rw[Hm.o,Hk.o];omega) (by show 8≤1000;omega) (by omega) ?_;intro A5 n5 c5 w5 hg5;have Hx5:=Y8 (hg5.ext (w.alloc (Wz T)) Hx3.o (by rw[HB.o];exact Ym _));have Hg5:=Y8 hg5;clear hg5);go_roundw;case rel=>exact⟨i+1,_,by omega,by go_num,Hg5.o.own,by rw[Zs,Hm.o,Hk.o,Hj.o];omega,Hx5.o⟩
     (simp[intOf];omega)
    have d1:decide ((0:Int)<(k:Int))=false:=Yf;have d2:decide (0<k)=false:=Yf hk0;go_wp2_with (at_builtin;refine Xt Ww _ _ _ rfl rfl rfl rfl (Ho3.o.ext ((Yk _).alloc _)) rfl (Ws w3 c _ _ rfl) (by rw[Hm.o];show m+1≤_;omega) (by show 8≤1000;omega) (by simp;omega) ?_;intro A5 n5 c5 w5 hg5;have Hx5:=Y8 (hg5.ext (w.alloc (Wz T)) (Hx3.o.alloc _) (by rw[HB.o];exact Ym _));have Hg5:=Y8 hg5;clear hg5);go_roundw;case rel=>exact⟨i+1,_,by omega,by go_num,Hg5.o.own,by rw[Zs,Hm.o,Hj.o];show m+1≤_;omega,Hx5.o⟩
    (simp[intOf];omega)
   go_wp2_with fail;go_roundw;case rel=>exact⟨i+1,p,by omega,by go_num,Ho3.o,by rw[Hm.o,Hj.o];omega,Hx3.o⟩
   (simp[intOf];omega)
  have hd_i:=GEl i n;by_cases hbig:4096<m
  ·have d1:decide ((4096:Int)<(m:Int))=true:=Ye;go_wp2_with fail;go_ret2;exact Wx _ (X0.o.trans Hx.o)
  have d1:decide ((4096:Int)<(m:Int))=false:=Yf;go_wp2_with fail;go_ret2;refine⟨_,p,0,rfl,?_,by rw[Hm.o];omega,X0.o.trans Hx.o⟩;have:=Ho.o.rd;rw[← Hm.o]at this⊢;exact Rd.mono this fun k hk _=>Zgo (by have:=X0.o.size;have:=HB.o;omega) hk
 have h0b:(!(x==0))=true:=by simp[h0]
 have h0c:(x !=0)=true:=h0b;have h0d:(x==0)=false:=by simp[h0]
 have h0H:=Y8 h0;clear h0;go_wp2_with fail;go_ret2;exact Wx _ (X0.o.trans Hx1.o)
theorem Zhk{S S':Nat→Prop}(T:Tbl)(hf:Few T)(hu:Uq T)(v:Value)(l:List Int)(w:World)(h:Xg w S T)(hl:Xw w S' v l):Calls prog 221 #[Vg T,v] w (Ec 4096 w):=by
 obtain⟨A,C,rfl,hlCC,hCC⟩:=hl.shape;obtain⟨n,hnn⟩:=gnX ((l).length);have Hnn:=Y8 hnn;have Hhl:=Y8 hl;unfold maxLen at hCC;rw[hnn]at hlCC⊢;clear hl hnn;obtain⟨X0,H,Hb0⟩:=tblX h;clear h;have HL:=intX Hhl Hnn X0;have Hf:=Y8 hf;have Hu:=Y8 hu;clear hf hu;go_enter func221,ntmps221;go_wp2_with (first|(refine Xv rfl ?_)|(refine Xy Hb0.o rfl ?_));refine(Zy6 T Hf.o Hu.o _ l _ H.o HL.o).mono ?_;rintro e w1 ⟨u1,l1,x,rfl,hl1,_,_,hx1⟩;have Hx1:=Y8 hx1;clear hx1;by_cases h0:x=0
 ·subst h0;go_wp2_with (refine Xy (Hb0.o.ext Hx1.o) rfl ?_);refine(Zqm T Hf.o Hu.o u1 l1 _ (H.o.up Hx1.o) hl1).mono ?_;rintro e w2 ⟨u2,l2,x2,rfl,hl2,_,hx2⟩;have Hx2:=Y8 (Hx1.o.trans hx2);clear hx2;by_cases h2:x2=0
  ·subst h2;go_wp2_with (refine Xy (Hb0.o.ext Hx2.o) rfl ?_);refine(Zy6 T Hf.o Hu.o u2 l2 _ (H.o.up Hx2.o) hl2).mono ?_;rintro e w3 ⟨u3,l3,x3,rfl,hl3,hn3,_,hx3⟩;go_wp2_with fail;go_ret2;exact⟨u3,l3,x3,rfl,Rd.mono hl3 fun k hk _=>Zgo (X0.o.trans Hx2.o).size hk,hn3,X0.o.trans (Hx2.o.trans hx3)⟩
  have h2b:(!(x2==0))=true:=by simp[h2]
  have h2c:(x2 !=0)=true:=h2b;have h2d:(x2==0)=false:=by simp[h2]
  have h2H:=Y8 h2;clear h2;go_wp2_with fail;go_ret2;exact Wx _ (X0.o.trans Hx2.o)
 have h0b:(!(x==0))=true:=by simp[h0]
 have h0c:(x !=0)=true:=h0b;have h0d:(x==0)=false:=by simp[h0]
 have h0H:=Y8 h0;clear h0;go_wp2_with fail;go_ret2;exact Wx _ (X0.o.trans Hx1.o)
def Zhu(N:Nat)(w:World)(e:Ending)(w':World):Prop:=∃ (s:ByteArray) (y:Int),e=.returned (.tuple #[.string s,.int .i64 y])∧s.size≤N∧Ext w w'
theorem Zj0{S S':Nat→Prop}(T:Tbl)(hf:Few T)(hu:Uq T)(v:Value)(l:List Int)(w:World)(h:Xg w S T)(hl:Xw w S' v l):Calls prog 202 #[Vg T,v] w (Zhu 16384 w):=by
 obtain⟨A,C,rfl,hlCC,hCC⟩:=hl.shape;obtain⟨n,hnn⟩:=gnX ((l).length);have Hnn:=Y8 hnn;have Hhl:=Y8 hl;unfold maxLen at hCC;rw[hnn]at hlCC⊢;clear hl hnn;obtain⟨X0,H,Hb0⟩:=tblX h;clear h;have HL:=intX Hhl Hnn X0;have Hf:=Y8 hf;have Hu:=Y8 hu;clear hf hu;go_enter func202,ntmps202;go_wp2_with (first|(refine Xv rfl ?_)|(refine Xy Hb0.o rfl ?_));refine(Zhk T Hf.o Hu.o _ l _ H.o HL.o).mono ?_;rintro e w1 ⟨u1,l1,x,rfl,hl1,hn1,hx1⟩;have Hx1:=Y8 hx1;clear hx1;by_cases h0:x=0
 ·subst h0;go_wp2_with fail;refine(Fx u1 l1 _ hl1).mono ?_;rintro e w2 ⟨t,y,rfl,ht,hx2⟩;go_wp2_with fail;go_ret2;exact⟨t,y,rfl,by omega,X0.o.trans (Hx1.o.trans hx2)⟩
 have h0b:(!(x==0))=true:=by simp[h0]
 have h0c:(x !=0)=true:=h0b;have h0d:(x==0)=false:=by simp[h0]
 have h0H:=Y8 h0;clear h0;go_wp2_with fail;go_ret2;exact⟨_,x,rfl,by show 0≤_;omega,X0.o.trans Hx1.o⟩
def Zgz(T:Tbl)(s:ByteArray):Nat:=(Gy (Zgw T (Ez T (dec s).1))).length
def Zx1(N:Nat)(w:World)(e:Ending)(w':World):Prop:=∃ (v:Value) (ls:List (List Int)) (p x:Int),e=.returned (.tuple #[v,.int .i64 p,.int .i64 x])∧Zvq w' v ls∧(ls.length≤4097∧(ls.length=0∨ls.length=N))∧(∀ y∈ls,y.length≤4096)∧Ext w w'
theorem Jj{N:Nat}{w w':World}(p x:Int)(h:Ext w w'):Zx1 N w (.returned (.tuple #[.slice none 0 0,.int .i64 p,.int .i64 x])) w' :=
 ⟨_,[],p,x,rfl,⟨[],Rd.nil _ _ _,rfl,fun j s x h=>by simp at h⟩,⟨Zgf _,.inl rfl⟩,fun y hy=>by simp at hy,h⟩
theorem Ej{S:Nat→Prop}(T:Tbl)(hf:Few T)(hu:Uq T)(s:ByteArray)(w:World)(h:Xg w S T):Calls prog 200 #[Vg T,.string s] w (Zx1 (Zgz T s) w):=by
 obtain⟨X0,H,Hb0⟩:=tblX h;clear h;have Hf:=Y8 hf;have Hu:=Y8 hu;clear hf hu;go_enter func200,ntmps200;go_wp2_with (first|(refine Xv rfl ?_)|(refine Xy Hb0.o rfl ?_));refine(check_any T Hf.o Hu.o _ H.o).mono ?_;rintro e w1 ⟨x,rfl,_,hx1⟩;have Hx1:=Y8 hx1;clear hx1;by_cases h0:x=0
 ·subst h0;cases he:s.toList.isEmpty
  rotate_left
  ·go_wp2_with fail;go_ret3;exact Jj _ _ (X0.o.trans Hx1.o)
  go_wp2_with fail;clear he;refine(Zyv s _).mono ?_;rintro e w2 ⟨u,l1,p1,x1,rfl,hl1,hn1,hd1,hx2⟩;have HD1:=Y8 hd1;clear hd1;have Hx2:=Y8 (Hx1.o.trans hx2);clear hx2 Hx1;by_cases h1:x1=0
  ·subst h1;go_wp2_with (refine Xy (Hb0.o.ext Hx2.o) rfl ?_);refine(Zqo T Hf.o Hu.o u l1 _ (H.o.up Hx2.o) hl1).mono ?_;rintro e w3 ⟨u2,l2,p2,x2,rfl,hl2,hn2,hd2,hx3⟩;have HD2:=Y8 hd2;clear hd2;have Hx3:=Y8 (Hx2.o.trans hx3);clear hx3 Hx2 hl1 hn1;by_cases h2:x2=0
   ·subst h2;go_wp2_with (refine Xy (Hb0.o.ext Hx3.o) rfl ?_);refine(Zqd T Hf.o Hu.o u2 l2 _ (H.o.up Hx3.o) hl2).mono ?_;rintro e w4 ⟨u3,l3,x3,rfl,hl3,hn3,hd3,hx4⟩;have HD3:=Y8 hd3;clear hd3;have Hx4:=Y8 (Hx3.o.trans hx4);clear hx4 Hx3 hl2 hn2;by_cases h3:x3=0
    ·subst h3;go_wp2_with fail;refine(Zuy u3 l3 _ hl3 hn3).mono ?_;rintro e w5 ⟨v,vs,rfl,hown,hx5⟩;have hm1:=I3 l3;have hm2:(Gy l3).length≤4097:=Zgo (I0 l3) (by omega);have hmem:∀ y∈Gy l3,y.length≤4096:=fun y hy=>Zgo (I2 l3 y hy) hn3
     obtain⟨B,hB⟩:=gnX (w4.heap.size);rw[hB]at hown;have HB:=Y8 hB;obtain⟨g,C,rfl,hg1,hg2,hg3,hg4⟩:=hown.1.some_ (by rw[hown.2.1];omega);obtain⟨m,hm⟩:=gnX ((Gy l3).length);have hvm:vs.length=m:=by rw[hown.2.1,hm]
     rw[hm]at hm1 hm2;rw[hvm]at hown hg3⊢;have Hown:=Y8 hown;have Hm:=Y8 hm;have HN:=Y8 (show m=Zgz T s by rw[← hm,HD3.o (by first|exact True.intro|rfl),HD2.o (by first|exact True.intro|rfl),HD1.o (by first|exact True.intro|rfl)];rfl);have Hmem:=Y8 hmem;have Hx5:=Y8 hx5;unfold maxLen at hg4;clear hown hm hmem hvm hx5 hB hl3 hg2;go_wp2_with fail;go_loopw [57,9] (fun o ev wr=>∃ (i:Nat) (vs:List Sl) (ls:List (List Int)) (z:Int),i≤m∧o=.int .i64 (i:Int)∧ev=.int .i64 z∧Pp wr B (.slice (some ⟨g,0,none⟩) m C) vs ls∧ls.length=m∧(∀ y∈ls,y.length≤4096)∧Ext w4 wr) (fun o _ _=>m-(intOf o).toNat);case atStart=>exact⟨0,vs,Gy l3,0,by omega,rfl,rfl,Hown.o,Hm.o,Hmem.o,Hx5.o⟩
     clear Hown Hm Hmem Hx5;obtain⟨i,vs,ls,z,hi,rfl,rfl,ho,hlm,hmem,hx⟩:=hrel;have Ho:=Y8 ho;have Hlm:=Y8 hlm;have Hmem:=Y8 hmem;have Hx:=Y8 hx;clear ho hlm hmem hx;by_cases hlt:i<m
     ·obtain⟨hd_i,i0_i,i1_i⟩:=LTl i m;obtain⟨s0,hs0⟩:=geX (l:=vs) (i:=i) (by have:=Ho.o.2.1;have:=Hlm.o;omega);obtain⟨x,hx0⟩:=geX (l:=ls) (i:=i) (by have:=Hlm.o;omega);have hi0:=Ho.o.2.2 i s0 x hs0 hx0;have c0:=Ho.o.1.at_ (Lt hs0);obtain⟨a0,n0,k0⟩:=s0;have hn0:n0=x.length:=by
       obtain⟨_,_,e,_⟩:=hi0.shape;simp only[Sl.v,Yd]at e;exact e.2.1
      subst hn0;simp only[Sl.v]at c0 hi0;have hl0:=Hmem.o x (Zy hx0);obtain⟨y0,hy0⟩:=gnX (x.length);have Hi0:=Y8 (show Xw wr _ (.slice a0 y0 k0) x by rw[← hy0];exact hi0);rw[hy0]at c0 hl0;have Hy0:=Y8 hy0;have hgw:=Ho.o.1.blk.2;clear hs0 hx0 hi0 hy0;cases ha:Zl8 x
      ·go_wp2_with (go_at_call 212;refine(Es _ x _ Hi0.o).mono ?_;rintro e w6 ⟨rfl,hx6⟩;rw[ha]);have Ho6:=Y8 (Ho.o.ext hx6);have Hx6:=Y8 (Hx.o.trans hx6);clear hx6 c0 hgw;obtain⟨s5,hs5⟩:=geX (l:=(vs)) (i:=i) (by have:=(Ho6).o.2.1;have:=(Hlm).o;omega);obtain⟨x5,hx5⟩:=geX (l:=(ls)) (i:=i) (by have:=(Hlm).o;omega);have hi5:=(Ho6).o.2.2 i s5 x5 hs5 hx5;have c5:=(Ho6).o.1.at_ (Lt hs5);obtain⟨a5,n5,k5⟩:=s5;have hn5:n5=x5.length:=by
        obtain⟨_,_,e,_⟩:=hi5.shape;simp only[Sl.v,Yd]at e;exact e.2.1
       subst hn5;simp only[Sl.v]at c5 hi5;have Hi5:=Y8 hi5;have Hl5:=Y8 ((Hmem).o x5 (Zy hx5));obtain⟨y5,hy5⟩:=gnX (x5.length);have Hi6:=Y8 (show Xw w6 _ (.slice a5 y5 k5) x5 by rw[← hy5];exact hi5);rw[hy5]at c5;have hg5:=(Ho6).o.1.blk.2;clear hs5 hx5 hi5 hy5;have HE:=Y8 (Hx4.o.trans (Hx6).o);have z0:(w6).cell? ⟨w.heap.size,0,none⟩=some T.catV:=(Hb0.o.ext HE.o).at_ 0 (by omega);have z1:(w6).cell? ⟨w.heap.size,1,none⟩=some T.clsV:=(Hb0.o.ext HE.o).at_ 1 (by omega);have z2:(w6).cell? ⟨w.heap.size,2,none⟩=some T.joiV:=(Hb0.o.ext HE.o).at_ 2 (by omega);have z3:(w6).cell? ⟨w.heap.size,3,none⟩=some T.bidV:=(Hb0.o.ext HE.o).at_ 3 (by omega);have z4:(w6).cell? ⟨w.heap.size,4,none⟩=some T.scrV:=(Hb0.o.ext HE.o).at_ 4 (by omega);have z5:(w6).cell? ⟨w.heap.size,5,none⟩=some T.staV:=(Hb0.o.ext HE.o).at_ 5 (by omega);have z6:(w6).cell? ⟨w.heap.size,6,none⟩=some T.ignV:=(Hb0.o.ext HE.o).at_ 6 (by omega);have z7:(w6).cell? ⟨w.heap.size,7,none⟩=some T.extV:=(Hb0.o.ext HE.o).at_ 7 (by omega);have z8:(w6).cell? ⟨w.heap.size,8,none⟩=some T.mapV:=(Hb0.o.ext HE.o).at_ 8 (by omega);have z9:(w6).cell? ⟨w.heap.size,9,none⟩=some T.decV:=(Hb0.o.ext HE.o).at_ 9 (by omega);have z10:(w6).cell? ⟨w.heap.size,10,none⟩=some T.excV:=(Hb0.o.ext HE.o).at_ 10 (by omega);have z11:(w6).cell? ⟨w.heap.size,11,none⟩=some T.proV:=(Hb0.o.ext HE.o).at_ 11 (by omega);go_wp2_with fail;go_cut [9] from 91 to 96 (fun o wx=>∃ er:Int,o=.int .i64 er∧Ext w6 wx)
       case first =>
        rename_i J1 K1 hJ hM;go_region_with (go_at_call 215;refine(Ke T Hf.o Hu.o _ x5 _ (H.o.up (have hx:=HE.o;(by repeat' first|exact Yk _|assumption|apply Yj|apply Yi|apply Yh|(refine Yg ?_ (by assumption))|(refine Y0 ?_ (by first|(simp;done)|(simp;omega)) _)))) (Hi6.o.ext (by repeat' first|exact Yk _|assumption|apply Yj|apply Yi|apply Yh|(refine Yg ?_ (by assumption))|(refine Y0 ?_ (by first|(simp;done)|(simp;omega)) _))) (by have:=Hl5.o;omega)).mono ?_;rintro e w7 ⟨er,rfl,hx7⟩);all_goals
         go_simp;refine hM _ _ (hJ _ _ ?_);(repeat apply Exists.intro)
         exact⟨⟨er,rfl,by first|exact hx7|exact(Yk _).drew.trans hx7|exact((Yk _).drewN _).trans hx7⟩,rfl⟩
       obtain⟨er,rfl,hxb⟩:=hcut;clear z0 z1 z2 z3 z4 z5 z6 z7 z8 z9 z10 z11 c5 hg5;by_cases hz7:er=0
       ·subst hz7;go_wp2_with fail;go_roundw;case rel=>exact⟨i+1,vs,ls,0,by omega,by go_num,rfl,(Ho6).o.ext hxb,(Hlm).o,(Hmem).o,(Hx6).o.trans hxb⟩
        (simp[intOf];omega)
       have hz7b:(!(er==0))=true:=by simp[hz7]
       have hz7c:(er !=0)=true:=hz7b;have hz7d:(er==0)=false:=by simp[hz7]
       have hz7H:=Y8 hz7;clear hz7;go_wp2_with fail;go_ret3;exact Jj _ _ (X0.o.trans (HE.o.trans hxb))
      go_wp2_with (go_at_call 212;refine(Es _ x _ Hi0.o).mono ?_;rintro e w6 ⟨rfl,hx6⟩;rw[ha]);have Hx6:=Y8 (Hx.o.trans hx6);have Ho6:=Y8 (Ho.o.ext hx6);have Hi6:=Y8 (Hi0.o.ext hx6);have Hlt:=Y8 hlt;clear hx6 c0 hgw Hx Ho Hi0 ha hlt;go_loopw [66,13] (fun o t wr=>∃ (j:Nat) (u2:ByteArray),j≤y0∧o=.int .i64 (j:Int)∧t=.string u2∧u2.size=j∧Ext w6 wr) (fun o _ _=>y0-(intOf o).toNat);case atStart=>exact⟨0,⟨#[]⟩,by omega,rfl,rfl,rfl,Yk _⟩
      obtain⟨j,u2,hj,rfl,rfl,hu2,hx⟩:=hrel;have Hy:=Y8 hx;have Hu2:=Y8 hu2;have hus0:u2.size≤100000:=by omega
      have hlo:=Hlt.o;clear hx hu2;by_cases hlt2:j<y0
      ·have hd2:=LTd j y0;have j0:(0:Int)≤(j:Int):=by omega
       have j1:(j:Int)<(y0:Int):=by omega
       obtain⟨c,hc0⟩:=geX (l:=x) (i:=j) (by rw[Hy0.o];exact hlt2);obtain⟨g3,o3,c3,hv3,_,_,_,hg3',c4⟩:=(Hi6.o.ext Hy.o).get hc0;obtain⟨rfl,-,rfl⟩:=slcX hv3;clear hv3;have hcv:=fun w:World=>Qg (w:=w) [c] 1 rfl _ rfl
       simp only[Zg4,Zfv]at hcv;obtain⟨bz,hbz⟩:=gnX (bs (u8L [c]));have hbs:bz.size=1:=by rw[← hbz];rfl
       rw[hbz]at hcv;have hus:¬ 9223372036854775807<u2.size+bz.size:=by omega
       clear hbz hc0;go_wp2_with fail;go_roundw;case rel=>exact⟨j+1,_,by omega,by go_num,rfl,by rw[Yl,Hu2.o,hbs],Hy.o.alloc _⟩
       (simp[intOf];omega)
      have hd2:=GEl j y0;go_wp2_with fail;refine(Zkx u2 _ hus0).mono ?_;rintro e w8 ⟨b,rfl,_,hx8⟩;have Ho8:=Y8 (Ho6.o.ext (Hy.o.trans hx8));have Hx8:=Y8 (Hx6.o.trans (Hy.o.trans hx8));clear hx8 hlt2 hd2;cases b
      ·obtain⟨s5,hs5⟩:=geX (l:=(vs)) (i:=i) (by have:=(Ho8).o.2.1;have:=(Hlm).o;omega);obtain⟨x5,hx5⟩:=geX (l:=(ls)) (i:=i) (by have:=(Hlm).o;omega);have hi5:=(Ho8).o.2.2 i s5 x5 hs5 hx5;have c5:=(Ho8).o.1.at_ (Lt hs5);obtain⟨a5,n5,k5⟩:=s5;have hn5:n5=x5.length:=by
        obtain⟨_,_,e,_⟩:=hi5.shape;simp only[Sl.v,Yd]at e;exact e.2.1
       subst hn5;simp only[Sl.v]at c5 hi5;have Hi5:=Y8 hi5;have Hl5:=Y8 ((Hmem).o x5 (Zy hx5));obtain⟨y5,hy5⟩:=gnX (x5.length);have Hi6:=Y8 (show Xw w8 _ (.slice a5 y5 k5) x5 by rw[← hy5];exact hi5);rw[hy5]at c5;have hg5:=(Ho8).o.1.blk.2;clear hs5 hx5 hi5 hy5;have HE:=Y8 (Hx4.o.trans (Hx8).o);have z0:(w8).cell? ⟨w.heap.size,0,none⟩=some T.catV:=(Hb0.o.ext HE.o).at_ 0 (by omega);have z1:(w8).cell? ⟨w.heap.size,1,none⟩=some T.clsV:=(Hb0.o.ext HE.o).at_ 1 (by omega);have z2:(w8).cell? ⟨w.heap.size,2,none⟩=some T.joiV:=(Hb0.o.ext HE.o).at_ 2 (by omega);have z3:(w8).cell? ⟨w.heap.size,3,none⟩=some T.bidV:=(Hb0.o.ext HE.o).at_ 3 (by omega);have z4:(w8).cell? ⟨w.heap.size,4,none⟩=some T.scrV:=(Hb0.o.ext HE.o).at_ 4 (by omega);have z5:(w8).cell? ⟨w.heap.size,5,none⟩=some T.staV:=(Hb0.o.ext HE.o).at_ 5 (by omega);have z6:(w8).cell? ⟨w.heap.size,6,none⟩=some T.ignV:=(Hb0.o.ext HE.o).at_ 6 (by omega);have z7:(w8).cell? ⟨w.heap.size,7,none⟩=some T.extV:=(Hb0.o.ext HE.o).at_ 7 (by omega);have z8:(w8).cell? ⟨w.heap.size,8,none⟩=some T.mapV:=(Hb0.o.ext HE.o).at_ 8 (by omega);have z9:(w8).cell? ⟨w.heap.size,9,none⟩=some T.decV:=(Hb0.o.ext HE.o).at_ 9 (by omega);have z10:(w8).cell? ⟨w.heap.size,10,none⟩=some T.excV:=(Hb0.o.ext HE.o).at_ 10 (by omega);have z11:(w8).cell? ⟨w.heap.size,11,none⟩=some T.proV:=(Hb0.o.ext HE.o).at_ 11 (by omega);go_wp2_with fail;go_cut [9] from 91 to 96 (fun o wx=>∃ er:Int,o=.int .i64 er∧Ext w8 wx)
       case first =>
        rename_i J1 K1 hJ hM;go_region_with (go_at_call 215;refine(Ke T Hf.o Hu.o _ x5 _ (H.o.up (have hx:=HE.o;(by repeat' first|exact Yk _|assumption|apply Yj|apply Yi|apply Yh|(refine Yg ?_ (by assumption))|(refine Y0 ?_ (by first|(simp;done)|(simp;omega)) _)))) (Hi6.o.ext (by repeat' first|exact Yk _|assumption|apply Yj|apply Yi|apply Yh|(refine Yg ?_ (by assumption))|(refine Y0 ?_ (by first|(simp;done)|(simp;omega)) _))) (by have:=Hl5.o;omega)).mono ?_;rintro e w7 ⟨er,rfl,hx7⟩);all_goals
         go_simp;refine hM _ _ (hJ _ _ ?_);(repeat apply Exists.intro)
         exact⟨⟨er,rfl,by first|exact hx7|exact(Yk _).drew.trans hx7|exact((Yk _).drewN _).trans hx7⟩,rfl⟩
       obtain⟨er,rfl,hxb⟩:=hcut;clear z0 z1 z2 z3 z4 z5 z6 z7 z8 z9 z10 z11 c5 hg5;by_cases hz7:er=0
       ·subst hz7;go_wp2_with fail;go_roundw;case rel=>exact⟨i+1,vs,ls,0,by omega,by go_num,rfl,(Ho8).o.ext hxb,(Hlm).o,(Hmem).o,(Hx8).o.trans hxb⟩
        (simp[intOf];omega)
       have hz7b:(!(er==0))=true:=by simp[hz7]
       have hz7c:(er !=0)=true:=hz7b;have hz7d:(er==0)=false:=by simp[hz7]
       have hz7H:=Y8 hz7;clear hz7;go_wp2_with fail;go_ret3;exact Jj _ _ (X0.o.trans (HE.o.trans hxb))
      go_wp2_with fail;refine(Zuf u2 _ rfl hus0 _).mono ?_;rintro e w9 ⟨v9,l9,x9,rfl,hv9,hl9,hx9⟩;obtain⟨a9,c9,rfl,_,_⟩:=hv9.shape;have ho9:=Ho8.o.ext hx9;have hiv:i<vs.length:=by have:=Ho8.o.2.1;have:=Hlm.o;omega
      obtain⟨s9,hs9⟩:∃ s,vs[i]?=some s:=⟨vs[i]'hiv,Zz _⟩;have hcel:=ho9.1.at_ (Lt hs9);clear hs9;have htw:=ho9.1.thaw i;have hgw:=ho9.1.blk.2;have hg8:=Ho8.o.1.blk.2;have ho10:Pp (w9.setCell ⟨g,i,none⟩ (.slice a9 l9.length c9)) B (.slice (some ⟨g,0,none⟩) m C) (vs.set i ⟨a9,l9.length,c9⟩) (ls.set i l9):=by
       refine⟨ho9.1.put rfl hiv ⟨a9,l9.length,c9⟩ rfl,I7 ?_ ?_ i⟩
       ·exact ho9.2.chg ((Chg.refl (· = g) w9).setCell (p:=⟨g,i,none⟩) (.inl rfl) _) fun k hk e=>hk (by rw[e];rfl)
       have h1:Xw w9 (fun k=>(Value.slice (some ⟨g,0,none⟩) m C).ownBlock≠some k) (.slice a9 l9.length c9) l9:=Rd.mono hv9 fun k hk _ e=>by
        have:g=k:=by simpa[Value.ownBlock]using e
        omega
       exact h1.chg ((Chg.refl (· = g) w9).setCell (p:=⟨g,i,none⟩) (.inl rfl) _) fun k hk e=>hk (by rw[e];rfl)
      have hx10:Ext w4 (w9.setCell ⟨g,i,none⟩ (.slice a9 l9.length c9)):=Y0 (Hx8.o.trans hx9) (by show w4.heap.size≤g;rw[HB.o];exact hg1) _;have hlm10:(ls.set i l9).length=m:=by rw[Zf];exact Hlm.o
      have hmem10:∀ y∈ls.set i l9,y.length≤4096:=fun y hy=>by
       rcases Zf2 hy with h|h
       ·exact Hmem.o y h
       rw[h];omega
      obtain⟨n9,hn9⟩:=gnX (l9.length);rw[hn9]at ho10 hx10⊢;obtain⟨W,hW⟩:=gnX (w9.setCell ⟨g,i,none⟩ (.slice a9 n9 c9));rw[hW]at ho10 hx10;have HoW:=Y8 ho10;have HxW:=Y8 hx10;have HlmW:=Y8 hlm10;have HmemW:=Y8 hmem10;have HW9:=Y8 hW;clear ho9 ho10 hx10 hlm10 hmem10 hW hx9 hv9 hn9;by_cases h9:x9=0
      ·subst h9;go_wp2_with fail;rw[HW9.o];obtain⟨s5,hs5⟩:=geX (l:=((vs.set i ⟨a9,n9,c9⟩))) (i:=i) (by have:=(HoW).o.2.1;have:=(HlmW).o;omega);obtain⟨x5,hx5⟩:=geX (l:=((ls.set i l9))) (i:=i) (by have:=(HlmW).o;omega);have hi5:=(HoW).o.2.2 i s5 x5 hs5 hx5;have c5:=(HoW).o.1.at_ (Lt hs5);obtain⟨a5,n5,k5⟩:=s5;have hn5:n5=x5.length:=by
        obtain⟨_,_,e,_⟩:=hi5.shape;simp only[Sl.v,Yd]at e;exact e.2.1
       subst hn5;simp only[Sl.v]at c5 hi5;have Hi5:=Y8 hi5;have Hl5:=Y8 ((HmemW).o x5 (Zy hx5));obtain⟨y5,hy5⟩:=gnX (x5.length);have Hi6:=Y8 (show Xw W _ (.slice a5 y5 k5) x5 by rw[← hy5];exact hi5);rw[hy5]at c5;have hg5:=(HoW).o.1.blk.2;clear hs5 hx5 hi5 hy5;have HE:=Y8 (Hx4.o.trans (HxW).o);have z0:(W).cell? ⟨w.heap.size,0,none⟩=some T.catV:=(Hb0.o.ext HE.o).at_ 0 (by omega);have z1:(W).cell? ⟨w.heap.size,1,none⟩=some T.clsV:=(Hb0.o.ext HE.o).at_ 1 (by omega);have z2:(W).cell? ⟨w.heap.size,2,none⟩=some T.joiV:=(Hb0.o.ext HE.o).at_ 2 (by omega);have z3:(W).cell? ⟨w.heap.size,3,none⟩=some T.bidV:=(Hb0.o.ext HE.o).at_ 3 (by omega);have z4:(W).cell? ⟨w.heap.size,4,none⟩=some T.scrV:=(Hb0.o.ext HE.o).at_ 4 (by omega);have z5:(W).cell? ⟨w.heap.size,5,none⟩=some T.staV:=(Hb0.o.ext HE.o).at_ 5 (by omega);have z6:(W).cell? ⟨w.heap.size,6,none⟩=some T.ignV:=(Hb0.o.ext HE.o).at_ 6 (by omega);have z7:(W).cell? ⟨w.heap.size,7,none⟩=some T.extV:=(Hb0.o.ext HE.o).at_ 7 (by omega);have z8:(W).cell? ⟨w.heap.size,8,none⟩=some T.mapV:=(Hb0.o.ext HE.o).at_ 8 (by omega);have z9:(W).cell? ⟨w.heap.size,9,none⟩=some T.decV:=(Hb0.o.ext HE.o).at_ 9 (by omega);have z10:(W).cell? ⟨w.heap.size,10,none⟩=some T.excV:=(Hb0.o.ext HE.o).at_ 10 (by omega);have z11:(W).cell? ⟨w.heap.size,11,none⟩=some T.proV:=(Hb0.o.ext HE.o).at_ 11 (by omega);go_wp2_with fail;go_cut [9] from 91 to 96 (fun o wx=>∃ er:Int,o=.int .i64 er∧Ext W wx)
       case first =>
        rename_i J1 K1 hJ hM;go_region_with (go_at_call 215;refine(Ke T Hf.o Hu.o _ x5 _ (H.o.up (have hx:=HE.o;(by repeat' first|exact Yk _|assumption|apply Yj|apply Yi|apply Yh|(refine Yg ?_ (by assumption))|(refine Y0 ?_ (by first|(simp;done)|(simp;omega)) _)))) (Hi6.o.ext (by repeat' first|exact Yk _|assumption|apply Yj|apply Yi|apply Yh|(refine Yg ?_ (by assumption))|(refine Y0 ?_ (by first|(simp;done)|(simp;omega)) _))) (by have:=Hl5.o;omega)).mono ?_;rintro e w7 ⟨er,rfl,hx7⟩);all_goals
         go_simp;refine hM _ _ (hJ _ _ ?_);(repeat apply Exists.intro)
         exact⟨⟨er,rfl,by first|exact hx7|exact(Yk _).drew.trans hx7|exact((Yk _).drewN _).trans hx7⟩,rfl⟩
       obtain⟨er,rfl,hxb⟩:=hcut;clear z0 z1 z2 z3 z4 z5 z6 z7 z8 z9 z10 z11 c5 hg5;by_cases hz7:er=0
       ·subst hz7;go_wp2_with fail;go_roundw;case rel=>exact⟨i+1,(vs.set i ⟨a9,n9,c9⟩),(ls.set i l9),0,by omega,by go_num,rfl,(HoW).o.ext hxb,(HlmW).o,(HmemW).o,(HxW).o.trans hxb⟩
        (simp[intOf];omega)
       have hz7b:(!(er==0))=true:=by simp[hz7]
       have hz7c:(er !=0)=true:=hz7b;have hz7d:(er==0)=false:=by simp[hz7]
       have hz7H:=Y8 hz7;clear hz7;go_wp2_with fail;go_ret3;exact Jj _ _ (X0.o.trans (HE.o.trans hxb))
      have h9b:(!(x9==0))=true:=by simp[h9]
      have h9c:(x9 !=0)=true:=h9b;have h9d:(x9==0)=false:=by simp[h9]
      have h9H:=Y8 h9;clear h9;go_wp2_with fail;rw[HW9.o];go_ret3;exact Jj _ _ (X0.o.trans (Hx4.o.trans HxW.o))
     have hd_i:=GEl i m;have hx:=Hx.o;go_wp2_with (refine Xy (Hb0.o.ext (Hx4.o.trans Hx.o)) rfl ?_);refine(Zva T Hf.o Hu.o _ ls _ (H.o.up (Hx4.o.trans Hx.o)) (show Zvq wr (.slice (some ⟨g,0,none⟩) m C) ls from Ho.o.at_)).mono ?_;rintro e w6 ⟨y,z6,rfl,hx6⟩;by_cases hz6:z6=0
     ·subst hz6;go_wp2_with fail;go_ret3;exact⟨_,ls,0,0,rfl,Ho.o.at_.ext hx6,⟨by rw[Hlm.o];exact hm2,.inr (by rw[Hlm.o];exact HN.o)⟩,Hmem.o,X0.o.trans ((Hx4.o.trans Hx.o).trans hx6)⟩
     have hz6b:(!(z6==0))=true:=by simp[hz6]
     have hz6c:(z6 !=0)=true:=hz6b;have hz6d:(z6==0)=false:=by simp[hz6]
     have hz6H:=Y8 hz6;clear hz6;go_wp2_with fail;go_ret3;exact Jj _ _ (X0.o.trans ((Hx4.o.trans Hx.o).trans hx6))
    have h3b:(!(x3==0))=true:=by simp[h3]
    have h3c:(x3 !=0)=true:=h3b;have h3d:(x3==0)=false:=by simp[h3]
    have h3H:=Y8 h3;clear h3;go_wp2_with fail;go_ret3;exact Jj _ _ (X0.o.trans Hx4.o)
   have h2b:(!(x2==0))=true:=by simp[h2]
   have h2c:(x2 !=0)=true:=h2b;have h2d:(x2==0)=false:=by simp[h2]
   have h2H:=Y8 h2;clear h2;go_wp2_with fail;go_ret3;exact Jj _ _ (X0.o.trans Hx3.o)
  have h1b:(!(x1==0))=true:=by simp[h1]
  have h1c:(x1 !=0)=true:=h1b;have h1d:(x1==0)=false:=by simp[h1]
  have h1H:=Y8 h1;clear h1;go_wp2_with fail;go_ret3;exact Jj _ _ (X0.o.trans Hx2.o)
 have h0b:(!(x==0))=true:=by simp[h0]
 have h0c:(x !=0)=true:=h0b;have h0d:(x==0)=false:=by simp[h0]
 have h0H:=Y8 h0;clear h0;go_wp2_with fail;go_ret3;exact Jj _ _ (X0.o.trans Hx1.o)
