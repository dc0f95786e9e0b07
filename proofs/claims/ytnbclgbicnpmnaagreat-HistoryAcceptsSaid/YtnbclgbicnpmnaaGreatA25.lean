/- Lemmas of this claim: RU. Conditions: as named. -/
import Derived.Test.YtnbclgbicnpmnaaGreatA18
namespace Go.Proofs.YtnbclgbicnpmnaaGreat
open Go.RowKit Go.Sort
set_option maxHeartbeats 0
set_option maxRecDepth 100000
set_option linter.all false
def Ev(f:Int→Int)(out:List Int):Nat→Nat
 | 0=>0
 | k+1=>if f (out.getD k 0)=0 then k+1 else Ev f out k
def Mo(T:Tbl)(out:List Int)(c:Int):List Int :=
 match Ev (Wl T.cls) out out.length with
 | 0=>out++[c]
 | s+1 =>
  if s<out.length-1∧Wl T.cls c≤Wl T.cls (out.getD (out.length-1) 0)then out++[c]
  else match Ba T (out.getD s 0) c with
   | some p=>out.set s p
   | none=>out++[c]
def Zmd(T:Tbl)(l:List Int):List Int:=(Zmc T l).foldl (Mo T) []
theorem Zrk(T:Tbl)(out:List Int)(c:Int):(Mo T out c).length≤out.length+1:=by
 unfold Mo;split
 ·simp
 split
 ·simp
 split<;>simp
theorem Zus{T:Tbl}{out:List Int}{c:Int}(h:Ev (Wl T.cls) out out.length=0):Mo T out c=out++[c]:=by unfold Mo;rw[h]
theorem Rk{T:Tbl}{out:List Int}{c:Int}{s:Nat}(h:Ev (Wl T.cls) out out.length=s+1)(hb:s<out.length-1∧Wl T.cls c≤Wl T.cls (out.getD (out.length-1) 0)):Mo T out c=out++[c]:=by
 unfold Mo;rw[h];simp only;rw[Zm4 hb]
theorem Rj{T:Tbl}{out:List Int}{c:Int}{s:Nat}(h:Ev (Wl T.cls) out out.length=s+1)(hb:¬ (s<out.length-1∧Wl T.cls c≤Wl T.cls (out.getD (out.length-1) 0)))(hp:Ba T (out.getD s 0) c=none):Mo T out c=out++[c]:=by
 unfold Mo;rw[h];simp only;rw[Zm2 hb,hp]
theorem Ri{T:Tbl}{out:List Int}{c p:Int}{s:Nat}(h:Ev (Wl T.cls) out out.length=s+1)(hb:¬ (s<out.length-1∧Wl T.cls c≤Wl T.cls (out.getD (out.length-1) 0)))(hp:Ba T (out.getD s 0) c=some p):Mo T out c=out.set s p:=by
 unfold Mo;rw[h];simp only;rw[Zm2 hb,hp]
def Zpg(T:Tbl)(l:List Int)(w:World)(e:Ending)(w':World):Prop:=∃ (v:Value) (r:List Int) (x:Int),e=.returned (.tuple #[v,.int .i64 x])∧RdE Wi w' (fun k=>w.heap.size≤k) v r∧r.length≤4096∧(x=0→r=Zmd T l)∧Ext w w'
theorem Jf{l:List Int}{j:Nat}{x:Int}(h:l[j]?=some x):l.getD j 0=x:=by rw[Zl0,h];rfl
theorem Zur{S S':Nat→Prop}(T:Tbl)(hf:Few T)(hu:Uq T)(v:Value)(l:List Int)(w:World)(h:Xl w S T)(hl:Xx w S' v l):Calls Tryz.prog 210 #[Vu T,v] w (Zpg T l w):=by
 obtain⟨A,C,rfl,hlCC,hCC⟩:=hl.shape;obtain⟨n0,hnn0⟩:=gnX ((l).length);have Hnn0:=Y4 hnn0;have Hhl:=Y4 hl;unfold maxLen at hCC;rw[hnn0]at hlCC⊢;clear hl hnn0;have X0:=Y4 ((Yl w).alloc (Xe T));have H:=Y4 (h.up X0.o);have Hb0:=Y4 (Xm w T);clear h;have HL:=Y4 (show Xx (w.alloc (Xe T)) S' (.slice A n0 C) l by have:=Hhl.o.ext X0.o;rwa [Hnn0.o]at this);have Hf:=Y4 hf;have Hu:=Y4 hu;clear hf hu;go_enter Tryz.func210,Tryz.ntmps210;go_wp2_with (first|(refine Xw rfl ?_)|(refine Xz Hb0.o rfl ?_));refine(Ir T Hf.o Hu.o _ l _ H.o HL.o).mono ?_;rintro e w1 ⟨u,d,x,rfl,hd1,hdl,hd0,hx1⟩;have Hx1:=Y4 hx1;clear hx1;by_cases h0:x=0
 ·subst h0;obtain⟨hde,hfin⟩:=hd0 rfl;have HF:=Y4 hfin;have Hde:=Y4 hde;obtain⟨A1,C1,rfl,_,_⟩:=hd1.shape;obtain⟨n,hn⟩:=gnX (d.length);have Hd:=Y4 (show Xx w1 (fun k=>(w.alloc (Xe T)).heap.size≤k) (.slice A1 n C1) d by have:=hd1;rwa [hn]at this);rw[hn]at hdl⊢;have Hn:=Y4 hn;obtain⟨B,hB⟩:=gnX (w1.heap.size);have HB:=Y4 hB;have H1:=Y4 (H.o.up Hx1.o);have Hb1:=Y4 (Hb0.o.ext Hx1.o);have hgx:=Hb1.o.lt;clear hfin hde hd1 hn hB hd0 hgx;go_wp2_with fail;go_loopw [26,8] (fun o u wr=>∃ (i:Nat) (out:List Int),i≤n∧o=.int .i64 (i:Int)∧Own Wi wr B u out∧out=(d.take i).foldl (Mo T) []∧out.length≤i∧Ext w1 wr) (fun o _ _=>n-(intOf o).toNat);case atStart=>exact⟨0,[],by omega,rfl,Own.nil _ _ _,rfl,by simp,Yl _⟩
  obtain⟨i,out,hi,rfl,ho,hout,hol,hx⟩:=hrel;obtain⟨A2,C2,rfl,hlC2,hC2⟩:=ho.shape;obtain⟨m,hm⟩:=gnX (out.length);have hoI:Own Wi wr B (.slice A2 m C2) out:=by rw[← hm];exact ho
  rw[hm]at hlC2 hol⊢;have Hx:=Y4 hx;have Ho:=Y4 hoI;have Hm:=Y4 hm;have Hout:=Y4 hout;have hBw:B≤wr.heap.size:=by rw[← HB.o];exact hx.size
  unfold maxLen at hC2;clear hx ho hoI hm hout;by_cases hlt:i<n
  ·obtain⟨hd_i,i0_i,i1_i⟩:=LTl i n;obtain⟨c,hs_c⟩:=geX (l:=(d)) (i:=i) (by have:=Hn.o;omega);obtain⟨g_c,o_c,c_c,hvv,_,_,_,hgl_c,a0_c⟩:=(Hd.o.ext Hx.o).get hs_c;simp only[Ye]at hvv;obtain⟨rfl,-,rfl⟩:=hvv;have Hs_c:=Y4 hs_c;clear hs_c;have Hnew:=Y4 (show(d.take (i+1)).foldl (Mo T) []=Mo T out c by rw[Wt Hs_c.o,Zko,← Hout.o];rfl);have Hnl:=Y4 (show(Mo T out c).length≤i+1 by have:=Zrk T out c;rw[Hm.o]at this;omega);have r1:IntKind.i64.wrap ((m:Int)-1)=(m:Int)-1:=Yp _ (by omega);go_wp2_with fail;rename World=>wo
   have Hxo:=Hx;go_loopw [11] (fun o wr=>∃ k:Nat,k≤m∧o=.int .i64 ((k:Int)-1)∧Ev (Wl T.cls) out m=Ev (Wl T.cls) out k∧Ext wo wr) (fun o _=>(intOf o+1).toNat);case atStart=>exact⟨m,Yn _,rfl,rfl,Yl _⟩
   obtain⟨k,hk,rfl,hst,hx⟩:=hrel;have Hy:=Y4 hx;have Hst:=Y4 hst;clear hx hst;have HW:=Y4 (H1.o.up (Hx.o.trans Hy.o));have hC:∀ w',(∃ p:Wf,w'=later wr p.n p.os)→Jm w' w.heap.size T:=fun w' ⟨p,e⟩=>by rw[e];exact(Hb1.o.ext (Hx.o.trans Hy.o)).ext (⟨_,_,rfl⟩)
   cases k with
   | zero =>
    have Hz:=Y4 (show Ev (Wl T.cls) out out.length=0 by rw[Hm.o];exact Hst.o);try go_wp2_with fail
    have hun:=Yb;refine Y8 (by kernel_rfl) (by kernel_rfl) ?_;repeat(first|((with_reducible refine Xk ?_ ?_ hC ?_);(focus(go_simp;done));rfl)|((with_reducible refine Yu ?_);intro K hK;go_simp;first|((with_reducible refine hK _ ?_);clear hK K)|(apply Exists.intro;refine⟨fun _=>?_,hK _ ?_⟩;(first|(go_at_call 148;exact Xy (Xp T _ _ (HW.o.up (⟨_,_,rfl⟩))))|(go_at_call 227;exact Xy (Qh T HF.o Hf.o _ _ _ (HW.o.up (⟨_,_,rfl⟩)))));clear hK K)))
    (with_reducible refine Yt ?_)
    intro w2 hy2;clear hun;try simp only[Yc]
    have Hy2:=Y4 (Hy.o.trans hy2);clear HW hC hy2;go_wp2_with fail;have HW:=Y4 (H1.o.up (Hx.o.trans Hy2.o));have hC:∀ w',(∃ p:Wf,w'=later w2 p.n p.os)→Jm w' w.heap.size T:=fun w' ⟨p,e⟩=>by rw[e];exact(Hb1.o.ext (Hx.o.trans Hy2.o)).ext (⟨_,_,rfl⟩)
    have hun:=Yb;refine Y8 (by kernel_rfl) (by kernel_rfl) ?_;repeat(first|((with_reducible refine Xk ?_ ?_ hC ?_);(focus(go_simp;done));rfl)|((with_reducible refine Yu ?_);intro K hK;go_simp;first|((with_reducible refine hK _ ?_);clear hK K)|(apply Exists.intro;refine⟨fun _=>?_,hK _ ?_⟩;(first|(go_at_call 148;exact Xy (Xp T _ _ (HW.o.up (⟨_,_,rfl⟩))))|(go_at_call 227;exact Xy (Qh T HF.o Hf.o _ _ _ (HW.o.up (⟨_,_,rfl⟩)))));clear hK K)))
    (with_reducible refine Yt ?_)
    intro w3 hy3;clear hun;try simp only[Yc]
    have Hy3:=Y4 (Hy2.o.trans hy3);clear HW hC hy3;go_wp2_with (at_builtin;refine Xu Wi _ _ _ rfl rfl rfl rfl (Ho.o.ext ((Hy3.o).alloc _)) rfl (Wv w3 c _ _ rfl) (by rw[Hm.o];show m+1≤_;omega) (by show 8≤1000;omega) (by have:=(Hy3.o).size;have:=hBw;simp;omega) ?_;intro A5 n5 c5 w5 hg5;have Hx5:=Y4 (hg5.ext w1 ((Hx.o.trans Hy3.o).alloc _) (by rw[HB.o];exact Yn _));have Hg5:=Y4 hg5;clear hg5);go_roundw;case rel =>
     have hnew:Mo T out c=out++[c]:=Zus Hz.o;refine⟨i+1,out++[c],by omega,by go_num,Hg5.o.own,by rw[Hnew.o,hnew],?_,Hx5.o⟩;have:=Hnl.o;rwa [hnew]at this
    case measure=>(simp[intOf];omega)
   | succ j =>
    obtain⟨g,C3,e,hg1,hg2,hg3,hg4⟩:=Ho.o.some_ (by rw[Hm.o];omega);simp only[Ye]at e;obtain⟨rfl,-,rfl⟩:=e;rw[Hm.o]at hg3;obtain⟨y,hy0⟩:=geX (l:=out) (i:=j) (by rw[Hm.o];omega);have m0:=lat ((Ho.o.ext Hy.o).at_ (ints_at hy0));have Hy0:=Y4 hy0;clear hy0;have e1:(((j+1:Nat):Int)-1)=(j:Int):=by omega
    have q2:IntKind.i64.wrap ((j:Int)-1)=(j:Int)-1:=Yp _ (by omega);have q3:(0:Int)≤(j:Int):=by omega
    have q4:(j:Int)<(m:Int):=by omega
    have q5:decide ((0:Int)≤(j:Int))=true:=Yf q3;rw[e1];clear e1;try go_wp2_with fail
    cases hz:(Wl T.cls y==0)
    ·have Hz:=Y4 (show Ev (Wl T.cls) out (j+1)=Ev (Wl T.cls) out j by rw[Ev,Jf Hy0.o,Zm2 (by simpa using hz)]);have hun:=Yb;refine Y8 (by kernel_rfl) (by kernel_rfl) ?_;repeat(first|((with_reducible refine Xk ?_ ?_ hC ?_);(focus(go_simp;done));rfl)|((with_reducible refine Yu ?_);intro K hK;go_simp;first|((with_reducible refine hK _ ?_);clear hK K)|(apply Exists.intro;refine⟨fun _=>?_,hK _ ?_⟩;(first|(go_at_call 148;exact Xy (Xp T _ _ (HW.o.up (⟨_,_,rfl⟩))))|(go_at_call 227;exact Xy (Qh T HF.o Hf.o _ _ _ (HW.o.up (⟨_,_,rfl⟩)))));clear hK K)))
     (with_reducible refine Yt ?_)
     intro w2 hy2;clear hun;try simp only[Yc]
     have Hy2:=Y4 (Hy.o.trans hy2);clear HW hC hy2 m0;go_wp2_with fail;go_roundw;case rel=>exact⟨j,by omega,rfl,by rw[Hst.o,Hz.o],Hy2.o⟩
     first|(simp[intOf];done)|(simp[intOf];omega)
    have Hz:=Y4 (show Ev (Wl T.cls) out out.length=j+1 by rw[Hm.o,Hst.o,Ev,Jf Hy0.o,Zm4 (by simpa using hz)]);have hun:=Yb;refine Y8 (by kernel_rfl) (by kernel_rfl) ?_;repeat(first|((with_reducible refine Xk ?_ ?_ hC ?_);(focus(go_simp;done));rfl)|((with_reducible refine Yu ?_);intro K hK;go_simp;first|((with_reducible refine hK _ ?_);clear hK K)|(apply Exists.intro;refine⟨fun _=>?_,hK _ ?_⟩;(first|(go_at_call 148;exact Xy (Xp T _ _ (HW.o.up (⟨_,_,rfl⟩))))|(go_at_call 227;exact Xy (Qh T HF.o Hf.o _ _ _ (HW.o.up (⟨_,_,rfl⟩)))));clear hK K)))
    (with_reducible refine Yt ?_)
    intro w2 hy2;clear hun;try simp only[Yc]
    have Hy2:=Y4 (Hy.o.trans hy2);clear HW hC hy2 m0;go_wp2_with fail;clear hz q2 r1 Hst;have d0:decide ((j:Int)<0)=false:=Yg;obtain⟨mp,hmp⟩:=gnX (m-1);have r1:IntKind.i64.wrap ((m:Int)-1)=(mp:Int):=by rw[Yp _ (by omega)];omega
    have Hmp:=Y4 hmp;by_cases hA:j<mp
    ·have d1:=LTd j mp;obtain⟨z,hz0⟩:=geX (l:=out) (i:=mp) (by rw[Hm.o];omega);have m1:=lat ((Ho.o.ext Hy2.o).at_ (ints_at hz0));have q6:(0:Int)≤(mp:Int):=by omega
     have q7:(mp:Int)<(m:Int):=by omega
     have q8:mp<m:=by omega
     have Hz0:=Y4 hz0;clear hz0 hmp;have HW:=Y4 (H1.o.up (Hx.o.trans Hy2.o));have hC:∀ w',(∃ p:Wf,w'=later w2 p.n p.os)→Jm w' w.heap.size T:=fun w' ⟨p,e⟩=>by rw[e];exact(Hb1.o.ext (Hx.o.trans Hy2.o)).ext (⟨_,_,rfl⟩)
     cases hB:decide (Wl T.cls c≤Wl T.cls z)
     ·have HB2:=Y4 hB;have hun:=Yb;refine Y8 (by kernel_rfl) (by kernel_rfl) ?_;repeat(first|((with_reducible refine Xk ?_ ?_ hC ?_);(focus(go_simp;done));rfl)|((with_reducible refine Yu ?_);intro K hK;go_simp;first|((with_reducible refine hK _ ?_);clear hK K)|(apply Exists.intro;refine⟨fun _=>?_,hK _ ?_⟩;(first|(go_at_call 148;exact Xy (Xp T _ _ (HW.o.up (⟨_,_,rfl⟩))))|(go_at_call 227;exact Xy (Qh T HF.o Hf.o _ _ _ (HW.o.up (⟨_,_,rfl⟩)))));clear hK K)))
      (with_reducible refine Yt ?_)
      intro w3 hy3;clear hun;try simp only[Yc]
      have Hy3:=Y4 (Hy2.o.trans hy3);clear HW hC hy3 m1 hB d1;go_wp2_with fail;have Hnb:=Y4 (show ¬ (j<out.length-1∧Wl T.cls c≤Wl T.cls (out.getD (out.length-1) 0)) from(by rw[Hm.o,Hmp.o,Jf Hz0.o];exact fun h=>absurd h.2 (by have:=HB2.o;simpa using this)));have m0:=lat ((Ho.o.ext Hy3.o).at_ (ints_at Hy0.o));have HW:=Y4 (H1.o.up (Hx.o.trans Hy3.o));have hC:∀ w',(∃ p:Wf,w'=later w3 p.n p.os)→Jm w' w.heap.size T:=fun w' ⟨p,e⟩=>by rw[e];exact(Hb1.o.ext (Hx.o.trans Hy3.o)).ext (⟨_,_,rfl⟩)
      cases hpo:Ba T y c with
      | none =>
       have e1:Zq1 (Ba T y c)=.tuple #[.int .i64 0,.bool false]:=by rw[hpo];rfl
       have Hpo:=Y4 hpo;clear hpo;have hun:=Yb;refine Y8 (by kernel_rfl) (by kernel_rfl) ?_;repeat(first|((with_reducible refine Xk ?_ ?_ hC ?_);(focus(go_simp;done));rfl)|((with_reducible refine Yu ?_);intro K hK;go_simp;first|((with_reducible refine hK _ ?_);clear hK K)|(apply Exists.intro;refine⟨fun _=>?_,hK _ ?_⟩;(first|(go_at_call 148;exact Xy (Xp T _ _ (HW.o.up (⟨_,_,rfl⟩))))|(go_at_call 227;exact Xy (Qh T HF.o Hf.o _ _ _ (HW.o.up (⟨_,_,rfl⟩)))));clear hK K)))
       (with_reducible refine Yt ?_)
       intro w4 hy4;clear hun;try simp only[Yc]
       have Hy4:=Y4 ((Hy3.o).trans hy4);clear HW hC hy4 m0 e1;go_wp2_with (at_builtin;refine Xu Wi _ _ _ rfl rfl rfl rfl (Ho.o.ext ((Hy4.o).alloc _)) rfl (Wv w4 c _ _ rfl) (by rw[Hm.o];show m+1≤_;omega) (by show 8≤1000;omega) (by have:=(Hy4.o).size;have:=hBw;simp;omega) ?_;intro A5 n5 c5 w5 hg5;have Hx5:=Y4 (hg5.ext w1 ((Hx.o.trans Hy4.o).alloc _) (by rw[HB.o];exact Yn _));have Hg5:=Y4 hg5;clear hg5);go_roundw;case rel =>
        have hnew:Mo T out c=out++[c]:=Rj Hz.o Hnb.o (by rw[Jf Hy0.o];exact Hpo.o);refine⟨i+1,out++[c],by omega,by go_num,Hg5.o.own,by rw[Hnew.o,hnew],?_,Hx5.o⟩;have:=Hnl.o;rwa [hnew]at this
       case measure=>(simp[intOf];omega)
      | some p =>
       have e1:Zq1 (Ba T y c)=.tuple #[.int .i64 p,.bool true]:=by rw[hpo];rfl
       have Hpo:=Y4 hpo;clear hpo;have hun:=Yb;refine Y8 (by kernel_rfl) (by kernel_rfl) ?_;repeat(first|((with_reducible refine Xk ?_ ?_ hC ?_);(focus(go_simp;done));rfl)|((with_reducible refine Yu ?_);intro K hK;go_simp;first|((with_reducible refine hK _ ?_);clear hK K)|(apply Exists.intro;refine⟨fun _=>?_,hK _ ?_⟩;(first|(go_at_call 148;exact Xy (Xp T _ _ (HW.o.up (⟨_,_,rfl⟩))))|(go_at_call 227;exact Xy (Qh T HF.o Hf.o _ _ _ (HW.o.up (⟨_,_,rfl⟩)))));clear hK K)))
       (with_reducible refine Yt ?_)
       intro w4 hy4;clear hun;try simp only[Yc]
       have Hy4:=Y4 ((Hy3.o).trans hy4);clear HW hC hy4 m0 e1;have ho4:=Ho.o.ext Hy4.o;have c0:=ho4.at_ (ints_at Hy0.o);have t0:=ho4.thaw j;have hgb:=ho4.blk.2;have Ho5:=Y4 (ho4.put rfl (i:=j) (by rw[Hm.o];omega) p (u:=.int .i64 p) rfl);clear ho4;go_wp2_with fail;go_roundw;case rel =>
        have hnew:Mo T out c=out.set j p:=Ri Hz.o Hnb.o (by rw[Jf Hy0.o];exact Hpo.o);refine⟨i+1,out.set j p,by omega,by go_num,Ho5.o,by rw[Hnew.o,hnew],?_,Ya (Hx.o.trans Hy4.o) (by show w1.heap.size≤g;rw[HB.o];exact hg1) _⟩;have:=Hnl.o;rwa [hnew]at this
       case measure=>(simp[intOf];omega)
     have HB2:=Y4 hB;have hun:=Yb;refine Y8 (by kernel_rfl) (by kernel_rfl) ?_;repeat(first|((with_reducible refine Xk ?_ ?_ hC ?_);(focus(go_simp;done));rfl)|((with_reducible refine Yu ?_);intro K hK;go_simp;first|((with_reducible refine hK _ ?_);clear hK K)|(apply Exists.intro;refine⟨fun _=>?_,hK _ ?_⟩;(first|(go_at_call 148;exact Xy (Xp T _ _ (HW.o.up (⟨_,_,rfl⟩))))|(go_at_call 227;exact Xy (Qh T HF.o Hf.o _ _ _ (HW.o.up (⟨_,_,rfl⟩)))));clear hK K)))
     (with_reducible refine Yt ?_)
     intro w3 hy3;clear hun;try simp only[Yc]
     have Hy3:=Y4 (Hy2.o.trans hy3);clear HW hC hy3 m1 hB d1;go_wp2_with (at_builtin;refine Xu Wi _ _ _ rfl rfl rfl rfl (Ho.o.ext ((Hy3.o).alloc _)) rfl (Wv w3 c _ _ rfl) (by rw[Hm.o];show m+1≤_;omega) (by show 8≤1000;omega) (by have:=(Hy3.o).size;have:=hBw;simp;omega) ?_;intro A5 n5 c5 w5 hg5;have Hx5:=Y4 (hg5.ext w1 ((Hx.o.trans Hy3.o).alloc _) (by rw[HB.o];exact Yn _));have Hg5:=Y4 hg5;clear hg5);go_roundw;case rel =>
      have hnew:Mo T out c=out++[c]:=Rk Hz.o (by rw[Hm.o,Hmp.o,Jf Hz0.o];exact⟨hA,by have:=HB2.o;simpa using this⟩);refine⟨i+1,out++[c],by omega,by go_num,Hg5.o.own,by rw[Hnew.o,hnew],?_,Hx5.o⟩;have:=Hnl.o;rwa [hnew]at this
     case measure=>(simp[intOf];omega)
    have d1:=GEl j mp;clear hmp;have HW:=Y4 (H1.o.up (Hx.o.trans Hy2.o));have hC:∀ w',(∃ p:Wf,w'=later w2 p.n p.os)→Jm w' w.heap.size T:=fun w' ⟨p,e⟩=>by rw[e];exact(Hb1.o.ext (Hx.o.trans Hy2.o)).ext (⟨_,_,rfl⟩)
    have hun:=Yb;refine Y8 (by kernel_rfl) (by kernel_rfl) ?_;repeat(first|((with_reducible refine Xk ?_ ?_ hC ?_);(focus(go_simp;done));rfl)|((with_reducible refine Yu ?_);intro K hK;go_simp;first|((with_reducible refine hK _ ?_);clear hK K)|(apply Exists.intro;refine⟨fun _=>?_,hK _ ?_⟩;(first|(go_at_call 148;exact Xy (Xp T _ _ (HW.o.up (⟨_,_,rfl⟩))))|(go_at_call 227;exact Xy (Qh T HF.o Hf.o _ _ _ (HW.o.up (⟨_,_,rfl⟩)))));clear hK K)))
    (with_reducible refine Yt ?_)
    intro w3 hy3;clear hun;try simp only[Yc]
    have Hy3:=Y4 (Hy2.o.trans hy3);clear HW hC hy3 d1;go_wp2_with fail;have Hnb:=Y4 (show ¬ (j<out.length-1∧Wl T.cls c≤Wl T.cls (out.getD (out.length-1) 0)) from(by rw[Hm.o,Hmp.o];exact fun h=>absurd h.1 hA));have m0:=lat ((Ho.o.ext Hy3.o).at_ (ints_at Hy0.o));have HW:=Y4 (H1.o.up (Hx.o.trans Hy3.o));have hC:∀ w',(∃ p:Wf,w'=later w3 p.n p.os)→Jm w' w.heap.size T:=fun w' ⟨p,e⟩=>by rw[e];exact(Hb1.o.ext (Hx.o.trans Hy3.o)).ext (⟨_,_,rfl⟩)
    cases hpo:Ba T y c with
    | none =>
     have e1:Zq1 (Ba T y c)=.tuple #[.int .i64 0,.bool false]:=by rw[hpo];rfl
     have Hpo:=Y4 hpo;clear hpo;have hun:=Yb;refine Y8 (by kernel_rfl) (by kernel_rfl) ?_;repeat(first|((with_reducible refine Xk ?_ ?_ hC ?_);(focus(go_simp;done));rfl)|((with_reducible refine Yu ?_);intro K hK;go_simp;first|((with_reducible refine hK _ ?_);clear hK K)|(apply Exists.intro;refine⟨fun _=>?_,hK _ ?_⟩;(first|(go_at_call 148;exact Xy (Xp T _ _ (HW.o.up (⟨_,_,rfl⟩))))|(go_at_call 227;exact Xy (Qh T HF.o Hf.o _ _ _ (HW.o.up (⟨_,_,rfl⟩)))));clear hK K)))
     (with_reducible refine Yt ?_)
     intro w4 hy4;clear hun;try simp only[Yc]
     have Hy4:=Y4 ((Hy3.o).trans hy4);clear HW hC hy4 m0 e1;go_wp2_with (at_builtin;refine Xu Wi _ _ _ rfl rfl rfl rfl (Ho.o.ext ((Hy4.o).alloc _)) rfl (Wv w4 c _ _ rfl) (by rw[Hm.o];show m+1≤_;omega) (by show 8≤1000;omega) (by have:=(Hy4.o).size;have:=hBw;simp;omega) ?_;intro A5 n5 c5 w5 hg5;have Hx5:=Y4 (hg5.ext w1 ((Hx.o.trans Hy4.o).alloc _) (by rw[HB.o];exact Yn _));have Hg5:=Y4 hg5;clear hg5);go_roundw;case rel =>
      have hnew:Mo T out c=out++[c]:=Rj Hz.o Hnb.o (by rw[Jf Hy0.o];exact Hpo.o);refine⟨i+1,out++[c],by omega,by go_num,Hg5.o.own,by rw[Hnew.o,hnew],?_,Hx5.o⟩;have:=Hnl.o;rwa [hnew]at this
     case measure=>(simp[intOf];omega)
    | some p =>
     have e1:Zq1 (Ba T y c)=.tuple #[.int .i64 p,.bool true]:=by rw[hpo];rfl
     have Hpo:=Y4 hpo;clear hpo;have hun:=Yb;refine Y8 (by kernel_rfl) (by kernel_rfl) ?_;repeat(first|((with_reducible refine Xk ?_ ?_ hC ?_);(focus(go_simp;done));rfl)|((with_reducible refine Yu ?_);intro K hK;go_simp;first|((with_reducible refine hK _ ?_);clear hK K)|(apply Exists.intro;refine⟨fun _=>?_,hK _ ?_⟩;(first|(go_at_call 148;exact Xy (Xp T _ _ (HW.o.up (⟨_,_,rfl⟩))))|(go_at_call 227;exact Xy (Qh T HF.o Hf.o _ _ _ (HW.o.up (⟨_,_,rfl⟩)))));clear hK K)))
     (with_reducible refine Yt ?_)
     intro w4 hy4;clear hun;try simp only[Yc]
     have Hy4:=Y4 ((Hy3.o).trans hy4);clear HW hC hy4 m0 e1;have ho4:=Ho.o.ext Hy4.o;have c0:=ho4.at_ (ints_at Hy0.o);have t0:=ho4.thaw j;have hgb:=ho4.blk.2;have Ho5:=Y4 (ho4.put rfl (i:=j) (by rw[Hm.o];omega) p (u:=.int .i64 p) rfl);clear ho4;go_wp2_with fail;go_roundw;case rel =>
      have hnew:Mo T out c=out.set j p:=Ri Hz.o Hnb.o (by rw[Jf Hy0.o];exact Hpo.o);refine⟨i+1,out.set j p,by omega,by go_num,Ho5.o,by rw[Hnew.o,hnew],?_,Ya (Hx.o.trans Hy4.o) (by show w1.heap.size≤g;rw[HB.o];exact hg1) _⟩;have:=Hnl.o;rwa [hnew]at this
     case measure=>(simp[intOf];omega)
  have hd_i:=GEl i n;go_wp2_with fail;go_ret2;refine⟨_,out,0,rfl,?_,by rw[Hm.o];omega,fun _=>?_,X0.o.trans (Hx1.o.trans Hx.o)⟩
  ·have:=Ho.o.rd;rw[← Hm.o]at this⊢;exact Rd.mono this fun k hk _=>Zm5 (X0.o.trans Hx1.o).size (by rw[HB.o];exact hk)
  rw[Hout.o,Zm (by rw[Hn.o];omega),Hde.o];rfl
 have d2:(!(x==0))=true:=by simp[h0]
 have d3:(x !=0)=true:=d2;have H0:=Y4 h0;clear h0 hd0;go_wp2_with fail;go_ret2;exact⟨_,[],x,rfl,Xx.nil _ _,Zlx _,fun h=>absurd h H0.o,X0.o.trans Hx1.o⟩
end Go.Proofs.YtnbclgbicnpmnaaGreat
