/- Lemmas of this claim: RU, RV, RW, RY, RZ. Conditions: as named. -/
import Derived.Test.YtnbclgbicnpmnaaGreatA14
import Derived.Test.YtnbclgbicnpmnaaGreatA19
namespace Go.Proofs.YtnbclgbicnpmnaaGreat
open Go.RowKit Go.Sort Tryz
set_option maxHeartbeats 0
set_option maxRecDepth 100000
set_option linter.all false
def Az(f:Int→Int)(out:List Int):Nat→Nat
 | 0=>0
 | k+1=>if f (out.getD k 0)=0 then k+1 else Az f out k
def Pi(T:Tbl)(out:List Int)(c:Int):List Int :=
 match Az (Wk T.cls) out out.length with
 | 0=>out++[c]
 | s+1 =>
  if s<out.length-1∧Wk T.cls c≤Wk T.cls (out.getD (out.length-1) 0)then out++[c]
  else match Df T (out.getD s 0) c with
   | some p=>out.set s p
   | none=>out++[c]
def Zgw(T:Tbl)(l:List Int):List Int:=(Zgv T l).foldl (Pi T) []
theorem Zm0(T:Tbl)(out:List Int)(c:Int):(Pi T out c).length≤out.length+1:=by
 unfold Pi;split
 ·simp
 split
 ·simp
 split<;>simp
theorem Zqe{T:Tbl}{out:List Int}{c:Int}(h:Az (Wk T.cls) out out.length=0):Pi T out c=out++[c]:=by unfold Pi;rw[h]
theorem Cz{T:Tbl}{out:List Int}{c:Int}{s:Nat}(h:Az (Wk T.cls) out out.length=s+1)(hb:s<out.length-1∧Wk T.cls c≤Wk T.cls (out.getD (out.length-1) 0)):Pi T out c=out++[c]:=by
 unfold Pi;rw[h];simp only;rw[Zgn hb]
theorem Cy{T:Tbl}{out:List Int}{c:Int}{s:Nat}(h:Az (Wk T.cls) out out.length=s+1)(hb:¬ (s<out.length-1∧Wk T.cls c≤Wk T.cls (out.getD (out.length-1) 0)))(hp:Df T (out.getD s 0) c=none):Pi T out c=out++[c]:=by
 unfold Pi;rw[h];simp only;rw[Zgq hb,hp]
theorem Cx{T:Tbl}{out:List Int}{c p:Int}{s:Nat}(h:Az (Wk T.cls) out out.length=s+1)(hb:¬ (s<out.length-1∧Wk T.cls c≤Wk T.cls (out.getD (out.length-1) 0)))(hp:Df T (out.getD s 0) c=some p):Pi T out c=out.set s p:=by
 unfold Pi;rw[h];simp only;rw[Zgq hb,hp]
def Zjz(T:Tbl)(l:List Int)(w:World)(e:Ending)(w':World):Prop:=∃ (v:Value) (r:List Int) (x:Int),e=.returned (.tuple #[v,.int .i64 x])∧RdE Ww w' (fun k=>w.heap.size≤k) v r∧r.length≤4096∧(x=0→r=Zgw T l)∧Ext w w'
theorem Kj{l:List Int}{j:Nat}{x:Int}(h:l[j]?=some x):l.getD j 0=x:=by rw[Zfr,h];rfl
theorem Zqd{S S':Nat→Prop}(T:Tbl)(hf:Few T)(hu:Uq T)(v:Value)(l:List Int)(w:World)(h:Xg w S T)(hl:Xw w S' v l):Calls prog 210 #[Vg T,v] w (Zjz T l w):=by
 obtain⟨A,C,rfl,hlCC,hCC⟩:=hl.shape;obtain⟨n0,hnn0⟩:=gnX ((l).length);have Hnn0:=Y8 hnn0;have Hhl:=Y8 hl;unfold maxLen at hCC;rw[hnn0]at hlCC⊢;clear hl hnn0;obtain⟨X0,H,Hb0⟩:=tblX h;clear h;have HL:=Y8 (show Xw (w.alloc (Wz T)) S' (.slice A n0 C) l by have:=Hhl.o.ext X0.o;rwa [Hnn0.o]at this);have Hf:=Y8 hf;have Hu:=Y8 hu;clear hf hu;go_enter func210,ntmps210;go_wp2_with (first|(refine Xv rfl ?_)|(refine Xy Hb0.o rfl ?_));refine(Zy6 T Hf.o Hu.o _ l _ H.o HL.o).mono ?_;rintro e w1 ⟨u,d,x,rfl,hd1,hdl,hd0,hx1⟩;have Hx1:=Y8 hx1;clear hx1;by_cases h0:x=0
 ·subst h0;obtain⟨hde,hfin⟩:=hd0 rfl;have HF:=Y8 hfin;have Hde:=Y8 hde;obtain⟨A1,C1,rfl,_,_⟩:=hd1.shape;obtain⟨n,hn⟩:=gnX (d.length);have Hd:=Y8 (show Xw w1 (fun k=>(w.alloc (Wz T)).heap.size≤k) (.slice A1 n C1) d by have:=hd1;rwa [hn]at this);rw[hn]at hdl⊢;have Hn:=Y8 hn;obtain⟨B,hB⟩:=gnX (w1.heap.size);have HB:=Y8 hB;have H1:=Y8 (H.o.up Hx1.o);have Hb1:=Y8 (Hb0.o.ext Hx1.o);have hgx:=Hb1.o.lt;clear hfin hde hd1 hn hB hd0 hgx;go_wp2_with fail;go_loopw [26,8] (fun o u wr=>∃ (i:Nat) (out:List Int),i≤n∧o=.int .i64 (i:Int)∧Own Ww wr B u out∧out=(d.take i).foldl (Pi T) []∧out.length≤i∧Ext w1 wr) (fun o _ _=>n-(intOf o).toNat);case atStart=>exact⟨0,[],by omega,rfl,Own.nil _ _ _,rfl,by simp,Yk _⟩
  obtain⟨i,out,hi,rfl,ho,hout,hol,hx⟩:=hrel;obtain⟨A2,C2,rfl,hlC2,hC2⟩:=ho.shape;obtain⟨m,hm⟩:=gnX (out.length);have hoI:Own Ww wr B (.slice A2 m C2) out:=by rw[← hm];exact ho
  rw[hm]at hlC2 hol⊢;have Hx:=Y8 hx;have Ho:=Y8 hoI;have Hm:=Y8 hm;have Hout:=Y8 hout;have hBw:B≤wr.heap.size:=by rw[← HB.o];exact hx.size
  unfold maxLen at hC2;clear hx ho hoI hm hout;by_cases hlt:i<n
  ·obtain⟨hd_i,i0_i,i1_i⟩:=LTl i n;obtain⟨c,hs_c⟩:=geX (l:=(d)) (i:=i) (by have:=Hn.o;omega);obtain⟨g_c,o_c,c_c,hvv,_,_,_,hgl_c,a0_c⟩:=(Hd.o.ext Hx.o).get hs_c;obtain⟨rfl,-,rfl⟩:=slcX hvv;clear hvv;have Hs_c:=Y8 hs_c;clear hs_c;have Hnew:=Y8 (show(d.take (i+1)).foldl (Pi T) []=Pi T out c by rw[Wq Hs_c.o,Zeg,← Hout.o];rfl);have Hnl:=Y8 (show(Pi T out c).length≤i+1 by have:=Zm0 T out c;rw[Hm.o]at this;omega);have r1:IntKind.i64.wrap ((m:Int)-1)=(m:Int)-1:=Yp _ (by omega);go_wp2_with fail;rename World=>wo
   have Hxo:=Hx;go_loopw [11] (fun o wr=>∃ k:Nat,k≤m∧o=.int .i64 ((k:Int)-1)∧Az (Wk T.cls) out m=Az (Wk T.cls) out k∧Ext wo wr) (fun o _=>(intOf o+1).toNat);case atStart=>exact⟨m,Ym _,rfl,rfl,Yk _⟩
   obtain⟨k,hk,rfl,hst,hx⟩:=hrel;have Hy:=Y8 hx;have Hst:=Y8 hst;clear hx hst;have HW:=Y8 (H1.o.up (Hx.o.trans Hy.o));have hC:∀ w',(∃ p:Vt,w'=later wr p.n p.os)→Kn w' w.heap.size T:=fun w' ⟨p,e⟩=>by rw[e];exact(Hb1.o.ext (Hx.o.trans Hy.o)).ext (⟨_,_,rfl⟩)
   cases k with
   | zero =>
    have Hz:=Y8 (show Az (Wk T.cls) out out.length=0 by rw[Hm.o];exact Hst.o);try go_wp2_with fail
    have hun:=Ya;refine wreX ?_;repeat(first|((with_reducible refine Xf ?_ ?_ hC ?_);(focus(go_simp;done));rfl)|(refine(Yu ?_:);intro K hK;go_simp;first|(refine hK _ ?_;clear hK K)|(apply Exists.intro;refine⟨fun _=>?_,hK _ ?_⟩;(first|(go_at_call 148;exact Xx (Xl T _ _ (HW.o.up (⟨_,_,rfl⟩))))|(go_at_call 227;exact Xx (Jy T HF.o Hf.o _ _ _ (HW.o.up (⟨_,_,rfl⟩)))));clear hK K)))
    refine Yt ?_;intro w2 hy2;clear hun;try simp only[Yb]
    have Hy2:=Y8 (Hy.o.trans hy2);clear HW hC hy2;go_wp2_with fail;have HW:=Y8 (H1.o.up (Hx.o.trans Hy2.o));have hC:∀ w',(∃ p:Vt,w'=later w2 p.n p.os)→Kn w' w.heap.size T:=fun w' ⟨p,e⟩=>by rw[e];exact(Hb1.o.ext (Hx.o.trans Hy2.o)).ext (⟨_,_,rfl⟩)
    have hun:=Ya;refine wreX ?_;repeat(first|((with_reducible refine Xf ?_ ?_ hC ?_);(focus(go_simp;done));rfl)|(refine(Yu ?_:);intro K hK;go_simp;first|(refine hK _ ?_;clear hK K)|(apply Exists.intro;refine⟨fun _=>?_,hK _ ?_⟩;(first|(go_at_call 148;exact Xx (Xl T _ _ (HW.o.up (⟨_,_,rfl⟩))))|(go_at_call 227;exact Xx (Jy T HF.o Hf.o _ _ _ (HW.o.up (⟨_,_,rfl⟩)))));clear hK K)))
    refine Yt ?_;intro w3 hy3;clear hun;try simp only[Yb]
    have Hy3:=Y8 (Hy2.o.trans hy3);clear HW hC hy3;go_wp2_with (at_builtin;refine Xt Ww _ _ _ rfl rfl rfl rfl (Ho.o.ext ((Hy3.o).alloc _)) rfl (Ws w3 c _ _ rfl) (by rw[Hm.o];show m+1≤_;omega) (by show 8≤1000;omega) (by have:=(Hy3.o).size;have:=hBw;simp;omega) ?_;intro A5 n5 c5 w5 hg5;have Hx5:=Y8 (hg5.ext w1 ((Hx.o.trans Hy3.o).alloc _) (by rw[HB.o];exact Ym _));have Hg5:=Y8 hg5;clear hg5);go_roundw;case rel =>
     have hnew:Pi T out c=out++[c]:=Zqe Hz.o;refine⟨i+1,out++[c],by omega,by go_num,Hg5.o.own,by rw[Hnew.o,hnew],?_,Hx5.o⟩;have:=Hnl.o;rwa [hnew]at this
    case measure=>(simp[intOf];omega)
   | succ j =>
    obtain⟨g,C3,e,hg1,hg2,hg3,hg4⟩:=Ho.o.some_ (by rw[Hm.o];omega);obtain⟨rfl,-,rfl⟩:=slcX e;clear e;rw[Hm.o]at hg3;obtain⟨y,hy0⟩:=geX (l:=out) (i:=j) (by rw[Hm.o];omega);have m0:=lat ((Ho.o.ext Hy.o).at_ (ints_at hy0));have Hy0:=Y8 hy0;clear hy0;have e1:(((j+1:Nat):Int)-1)=(j:Int):=by omega
    have q2:IntKind.i64.wrap ((j:Int)-1)=(j:Int)-1:=Yp _ (by omega);have q3:(0:Int)≤(j:Int):=by omega
    have q4:(j:Int)<(m:Int):=by omega
    have q5:decide ((0:Int)≤(j:Int))=true:=Ye q3;rw[e1];clear e1;try go_wp2_with fail
    cases hz:(Wk T.cls y==0)
    ·have Hz:=Y8 (show Az (Wk T.cls) out (j+1)=Az (Wk T.cls) out j by rw[Az,Kj Hy0.o,Zgq (by simpa using hz)]);have hun:=Ya;refine wreX ?_;repeat(first|((with_reducible refine Xf ?_ ?_ hC ?_);(focus(go_simp;done));rfl)|(refine(Yu ?_:);intro K hK;go_simp;first|(refine hK _ ?_;clear hK K)|(apply Exists.intro;refine⟨fun _=>?_,hK _ ?_⟩;(first|(go_at_call 148;exact Xx (Xl T _ _ (HW.o.up (⟨_,_,rfl⟩))))|(go_at_call 227;exact Xx (Jy T HF.o Hf.o _ _ _ (HW.o.up (⟨_,_,rfl⟩)))));clear hK K)))
     refine Yt ?_;intro w2 hy2;clear hun;try simp only[Yb]
     have Hy2:=Y8 (Hy.o.trans hy2);clear HW hC hy2 m0;go_wp2_with fail;go_roundw;case rel=>exact⟨j,by omega,rfl,by rw[Hst.o,Hz.o],Hy2.o⟩
     first|(simp[intOf];done)|(simp[intOf];omega)
    have Hz:=Y8 (show Az (Wk T.cls) out out.length=j+1 by rw[Hm.o,Hst.o,Az,Kj Hy0.o,Zgn (by simpa using hz)]);have hun:=Ya;refine wreX ?_;repeat(first|((with_reducible refine Xf ?_ ?_ hC ?_);(focus(go_simp;done));rfl)|(refine(Yu ?_:);intro K hK;go_simp;first|(refine hK _ ?_;clear hK K)|(apply Exists.intro;refine⟨fun _=>?_,hK _ ?_⟩;(first|(go_at_call 148;exact Xx (Xl T _ _ (HW.o.up (⟨_,_,rfl⟩))))|(go_at_call 227;exact Xx (Jy T HF.o Hf.o _ _ _ (HW.o.up (⟨_,_,rfl⟩)))));clear hK K)))
    refine Yt ?_;intro w2 hy2;clear hun;try simp only[Yb]
    have Hy2:=Y8 (Hy.o.trans hy2);clear HW hC hy2 m0;go_wp2_with fail;clear hz q2 r1 Hst;have d0:decide ((j:Int)<0)=false:=Yf;obtain⟨mp,hmp⟩:=gnX (m-1);have r1:IntKind.i64.wrap ((m:Int)-1)=(mp:Int):=by rw[Yp _ (by omega)];omega
    have Hmp:=Y8 hmp;by_cases hA:j<mp
    ·have d1:=LTd j mp;obtain⟨z,hz0⟩:=geX (l:=out) (i:=mp) (by rw[Hm.o];omega);have m1:=lat ((Ho.o.ext Hy2.o).at_ (ints_at hz0));have q6:(0:Int)≤(mp:Int):=by omega
     have q7:(mp:Int)<(m:Int):=by omega
     have q8:mp<m:=by omega
     have Hz0:=Y8 hz0;clear hz0 hmp;have HW:=Y8 (H1.o.up (Hx.o.trans Hy2.o));have hC:∀ w',(∃ p:Vt,w'=later w2 p.n p.os)→Kn w' w.heap.size T:=fun w' ⟨p,e⟩=>by rw[e];exact(Hb1.o.ext (Hx.o.trans Hy2.o)).ext (⟨_,_,rfl⟩)
     cases hB:decide (Wk T.cls c≤Wk T.cls z)
     ·have HB2:=Y8 hB;have hun:=Ya;refine wreX ?_;repeat(first|((with_reducible refine Xf ?_ ?_ hC ?_);(focus(go_simp;done));rfl)|(refine(Yu ?_:);intro K hK;go_simp;first|(refine hK _ ?_;clear hK K)|(apply Exists.intro;refine⟨fun _=>?_,hK _ ?_⟩;(first|(go_at_call 148;exact Xx (Xl T _ _ (HW.o.up (⟨_,_,rfl⟩))))|(go_at_call 227;exact Xx (Jy T HF.o Hf.o _ _ _ (HW.o.up (⟨_,_,rfl⟩)))));clear hK K)))
      refine Yt ?_;intro w3 hy3;clear hun;try simp only[Yb]
      have Hy3:=Y8 (Hy2.o.trans hy3);clear HW hC hy3 m1 hB d1;go_wp2_with fail;have Hnb:=Y8 (show ¬ (j<out.length-1∧Wk T.cls c≤Wk T.cls (out.getD (out.length-1) 0)) from(by rw[Hm.o,Hmp.o,Kj Hz0.o];exact fun h=>absurd h.2 (by have:=HB2.o;simpa using this)));have m0:=lat ((Ho.o.ext Hy3.o).at_ (ints_at Hy0.o));have HW:=Y8 (H1.o.up (Hx.o.trans Hy3.o));have hC:∀ w',(∃ p:Vt,w'=later w3 p.n p.os)→Kn w' w.heap.size T:=fun w' ⟨p,e⟩=>by rw[e];exact(Hb1.o.ext (Hx.o.trans Hy3.o)).ext (⟨_,_,rfl⟩)
      cases hpo:Df T y c with
      | none =>
       have e1:Zkq (Df T y c)=.tuple #[.int .i64 0,.bool false]:=by rw[hpo];rfl
       have Hpo:=Y8 hpo;clear hpo;have hun:=Ya;refine wreX ?_;repeat(first|((with_reducible refine Xf ?_ ?_ hC ?_);(focus(go_simp;done));rfl)|(refine(Yu ?_:);intro K hK;go_simp;first|(refine hK _ ?_;clear hK K)|(apply Exists.intro;refine⟨fun _=>?_,hK _ ?_⟩;(first|(go_at_call 148;exact Xx (Xl T _ _ (HW.o.up (⟨_,_,rfl⟩))))|(go_at_call 227;exact Xx (Jy T HF.o Hf.o _ _ _ (HW.o.up (⟨_,_,rfl⟩)))));clear hK K)))
       refine Yt ?_;intro w4 hy4;clear hun;try simp only[Yb]
       have Hy4:=Y8 ((Hy3.o).trans hy4);clear HW hC hy4 m0 e1;go_wp2_with (at_builtin;refine Xt Ww _ _ _ rfl rfl rfl rfl (Ho.o.ext ((Hy4.o).alloc _)) rfl (Ws w4 c _ _ rfl) (by rw[Hm.o];show m+1≤_;omega) (by show 8≤1000;omega) (by have:=(Hy4.o).size;have:=hBw;simp;omega) ?_;intro A5 n5 c5 w5 hg5;have Hx5:=Y8 (hg5.ext w1 ((Hx.o.trans Hy4.o).alloc _) (by rw[HB.o];exact Ym _));have Hg5:=Y8 hg5;clear hg5);go_roundw;case rel =>
        have hnew:Pi T out c=out++[c]:=Cy Hz.o Hnb.o (by rw[Kj Hy0.o];exact Hpo.o);refine⟨i+1,out++[c],by omega,by go_num,Hg5.o.own,by rw[Hnew.o,hnew],?_,Hx5.o⟩;have:=Hnl.o;rwa [hnew]at this
       case measure=>(simp[intOf];omega)
      | some p =>
       have e1:Zkq (Df T y c)=.tuple #[.int .i64 p,.bool true]:=by rw[hpo];rfl
       have Hpo:=Y8 hpo;clear hpo;have hun:=Ya;refine wreX ?_;repeat(first|((with_reducible refine Xf ?_ ?_ hC ?_);(focus(go_simp;done));rfl)|(refine(Yu ?_:);intro K hK;go_simp;first|(refine hK _ ?_;clear hK K)|(apply Exists.intro;refine⟨fun _=>?_,hK _ ?_⟩;(first|(go_at_call 148;exact Xx (Xl T _ _ (HW.o.up (⟨_,_,rfl⟩))))|(go_at_call 227;exact Xx (Jy T HF.o Hf.o _ _ _ (HW.o.up (⟨_,_,rfl⟩)))));clear hK K)))
       refine Yt ?_;intro w4 hy4;clear hun;try simp only[Yb]
       have Hy4:=Y8 ((Hy3.o).trans hy4);clear HW hC hy4 m0 e1;have ho4:=Ho.o.ext Hy4.o;have c0:=ho4.at_ (ints_at Hy0.o);have t0:=ho4.thaw j;have hgb:=ho4.blk.2;have Ho5:=Y8 (ho4.put rfl (i:=j) (by rw[Hm.o];omega) p (u:=.int .i64 p) rfl);clear ho4;go_wp2_with fail;go_roundw;case rel =>
        have hnew:Pi T out c=out.set j p:=Cx Hz.o Hnb.o (by rw[Kj Hy0.o];exact Hpo.o);refine⟨i+1,out.set j p,by omega,by go_num,Ho5.o,by rw[Hnew.o,hnew],?_,Y0 (Hx.o.trans Hy4.o) (by show w1.heap.size≤g;rw[HB.o];exact hg1) _⟩;have:=Hnl.o;rwa [hnew]at this
       case measure=>(simp[intOf];omega)
     have HB2:=Y8 hB;have hun:=Ya;refine wreX ?_;repeat(first|((with_reducible refine Xf ?_ ?_ hC ?_);(focus(go_simp;done));rfl)|(refine(Yu ?_:);intro K hK;go_simp;first|(refine hK _ ?_;clear hK K)|(apply Exists.intro;refine⟨fun _=>?_,hK _ ?_⟩;(first|(go_at_call 148;exact Xx (Xl T _ _ (HW.o.up (⟨_,_,rfl⟩))))|(go_at_call 227;exact Xx (Jy T HF.o Hf.o _ _ _ (HW.o.up (⟨_,_,rfl⟩)))));clear hK K)))
     refine Yt ?_;intro w3 hy3;clear hun;try simp only[Yb]
     have Hy3:=Y8 (Hy2.o.trans hy3);clear HW hC hy3 m1 hB d1;go_wp2_with (at_builtin;refine Xt Ww _ _ _ rfl rfl rfl rfl (Ho.o.ext ((Hy3.o).alloc _)) rfl (Ws w3 c _ _ rfl) (by rw[Hm.o];show m+1≤_;omega) (by show 8≤1000;omega) (by have:=(Hy3.o).size;have:=hBw;simp;omega) ?_;intro A5 n5 c5 w5 hg5;have Hx5:=Y8 (hg5.ext w1 ((Hx.o.trans Hy3.o).alloc _) (by rw[HB.o];exact Ym _));have Hg5:=Y8 hg5;clear hg5);go_roundw;case rel =>
      have hnew:Pi T out c=out++[c]:=Cz Hz.o (by rw[Hm.o,Hmp.o,Kj Hz0.o];exact⟨hA,by have:=HB2.o;simpa using this⟩);refine⟨i+1,out++[c],by omega,by go_num,Hg5.o.own,by rw[Hnew.o,hnew],?_,Hx5.o⟩;have:=Hnl.o;rwa [hnew]at this
     case measure=>(simp[intOf];omega)
    have d1:=GEl j mp;clear hmp;have HW:=Y8 (H1.o.up (Hx.o.trans Hy2.o));have hC:∀ w',(∃ p:Vt,w'=later w2 p.n p.os)→Kn w' w.heap.size T:=fun w' ⟨p,e⟩=>by rw[e];exact(Hb1.o.ext (Hx.o.trans Hy2.o)).ext (⟨_,_,rfl⟩)
    have hun:=Ya;refine wreX ?_;repeat(first|((with_reducible refine Xf ?_ ?_ hC ?_);(focus(go_simp;done));rfl)|(refine(Yu ?_:);intro K hK;go_simp;first|(refine hK _ ?_;clear hK K)|(apply Exists.intro;refine⟨fun _=>?_,hK _ ?_⟩;(first|(go_at_call 148;exact Xx (Xl T _ _ (HW.o.up (⟨_,_,rfl⟩))))|(go_at_call 227;exact Xx (Jy T HF.o Hf.o _ _ _ (HW.o.up (⟨_,_,rfl⟩)))));clear hK K)))
    refine Yt ?_;intro w3 hy3;clear hun;try simp only[Yb]
    have Hy3:=Y8 (Hy2.o.trans hy3);clear HW hC hy3 d1;go_wp2_with fail;have Hnb:=Y8 (show ¬ (j<out.length-1∧Wk T.cls c≤Wk T.cls (out.getD (out.length-1) 0)) from(by rw[Hm.o,Hmp.o];exact fun h=>absurd h.1 hA));have m0:=lat ((Ho.o.ext Hy3.o).at_ (ints_at Hy0.o));have HW:=Y8 (H1.o.up (Hx.o.trans Hy3.o));have hC:∀ w',(∃ p:Vt,w'=later w3 p.n p.os)→Kn w' w.heap.size T:=fun w' ⟨p,e⟩=>by rw[e];exact(Hb1.o.ext (Hx.o.trans Hy3.o)).ext (⟨_,_,rfl⟩)
    cases hpo:Df T y c with
    | none =>
     have e1:Zkq (Df T y c)=.tuple #[.int .i64 0,.bool false]:=by rw[hpo];rfl
     have Hpo:=Y8 hpo;clear hpo;have hun:=Ya;refine wreX ?_;repeat(first|((with_reducible refine Xf ?_ ?_ hC ?_);(focus(go_simp;done));rfl)|(refine(Yu ?_:);intro K hK;go_simp;first|(refine hK _ ?_;clear hK K)|(apply Exists.intro;refine⟨fun _=>?_,hK _ ?_⟩;(first|(go_at_call 148;exact Xx (Xl T _ _ (HW.o.up (⟨_,_,rfl⟩))))|(go_at_call 227;exact Xx (Jy T HF.o Hf.o _ _ _ (HW.o.up (⟨_,_,rfl⟩)))));clear hK K)))
     refine Yt ?_;intro w4 hy4;clear hun;try simp only[Yb]
     have Hy4:=Y8 ((Hy3.o).trans hy4);clear HW hC hy4 m0 e1;go_wp2_with (at_builtin;refine Xt Ww _ _ _ rfl rfl rfl rfl (Ho.o.ext ((Hy4.o).alloc _)) rfl (Ws w4 c _ _ rfl) (by rw[Hm.o];show m+1≤_;omega) (by show 8≤1000;omega) (by have:=(Hy4.o).size;have:=hBw;simp;omega) ?_;intro A5 n5 c5 w5 hg5;have Hx5:=Y8 (hg5.ext w1 ((Hx.o.trans Hy4.o).alloc _) (by rw[HB.o];exact Ym _));have Hg5:=Y8 hg5;clear hg5);go_roundw;case rel =>
      have hnew:Pi T out c=out++[c]:=Cy Hz.o Hnb.o (by rw[Kj Hy0.o];exact Hpo.o);refine⟨i+1,out++[c],by omega,by go_num,Hg5.o.own,by rw[Hnew.o,hnew],?_,Hx5.o⟩;have:=Hnl.o;rwa [hnew]at this
     case measure=>(simp[intOf];omega)
    | some p =>
     have e1:Zkq (Df T y c)=.tuple #[.int .i64 p,.bool true]:=by rw[hpo];rfl
     have Hpo:=Y8 hpo;clear hpo;have hun:=Ya;refine wreX ?_;repeat(first|((with_reducible refine Xf ?_ ?_ hC ?_);(focus(go_simp;done));rfl)|(refine(Yu ?_:);intro K hK;go_simp;first|(refine hK _ ?_;clear hK K)|(apply Exists.intro;refine⟨fun _=>?_,hK _ ?_⟩;(first|(go_at_call 148;exact Xx (Xl T _ _ (HW.o.up (⟨_,_,rfl⟩))))|(go_at_call 227;exact Xx (Jy T HF.o Hf.o _ _ _ (HW.o.up (⟨_,_,rfl⟩)))));clear hK K)))
     refine Yt ?_;intro w4 hy4;clear hun;try simp only[Yb]
     have Hy4:=Y8 ((Hy3.o).trans hy4);clear HW hC hy4 m0 e1;have ho4:=Ho.o.ext Hy4.o;have c0:=ho4.at_ (ints_at Hy0.o);have t0:=ho4.thaw j;have hgb:=ho4.blk.2;have Ho5:=Y8 (ho4.put rfl (i:=j) (by rw[Hm.o];omega) p (u:=.int .i64 p) rfl);clear ho4;go_wp2_with fail;go_roundw;case rel =>
      have hnew:Pi T out c=out.set j p:=Cx Hz.o Hnb.o (by rw[Kj Hy0.o];exact Hpo.o);refine⟨i+1,out.set j p,by omega,by go_num,Ho5.o,by rw[Hnew.o,hnew],?_,Y0 (Hx.o.trans Hy4.o) (by show w1.heap.size≤g;rw[HB.o];exact hg1) _⟩;have:=Hnl.o;rwa [hnew]at this
     case measure=>(simp[intOf];omega)
  have hd_i:=GEl i n;go_wp2_with fail;go_ret2;refine⟨_,out,0,rfl,?_,by rw[Hm.o];omega,fun _=>?_,X0.o.trans (Hx1.o.trans Hx.o)⟩
  ·have:=Ho.o.rd;rw[← Hm.o]at this⊢;exact Rd.mono this fun k hk _=>Zgo (X0.o.trans Hx1.o).size (by rw[HB.o];exact hk)
  rw[Hout.o,Zm (by rw[Hn.o];omega),Hde.o];rfl
 have d2:(!(x==0))=true:=by simp[h0]
 have d3:(x !=0)=true:=d2;have H0:=Y8 h0;clear h0 hd0;go_wp2_with fail;go_ret2;exact⟨_,[],x,rfl,Xw.nil _ _,Zgf _,fun h=>absurd h H0.o,X0.o.trans Hx1.o⟩
theorem Zr6{S S':Nat→Prop}(T:Tbl)(hf:Few T)(hu:Uq T)(v:Value)(l:List Int)(w:World)(h:Xg w S T)(hl:Xw w S' v l):Calls prog 230 #[Vg T,v] w (Qm w):=by
 obtain⟨A,C,rfl,hlCC,hCC⟩:=hl.shape;obtain⟨n0,hnn0⟩:=gnX ((l).length);have Hnn0:=Y8 hnn0;have Hhl:=Y8 hl;unfold maxLen at hCC;rw[hnn0]at hlCC⊢;clear hl hnn0;obtain⟨X0,H,Hb0⟩:=tblX h;clear h;have HL:=Y8 (show Xw (w.alloc (Wz T)) S' (.slice A n0 C) l by have:=Hhl.o.ext X0.o;rwa [Hnn0.o]at this);have Hf:=Y8 hf;have Hu:=Y8 hu;clear hf hu;go_enter func230,ntmps230;go_wp2_with (first|(refine Xv rfl ?_)|(refine Xy Hb0.o rfl ?_));refine(Zqd T Hf.o Hu.o _ l _ H.o HL.o).mono ?_;rintro e w1 ⟨u,d,x,rfl,hd1,_,_,hx1⟩;by_cases h0:x=0
 ·subst h0;go_wp2_with fail;refine(Zpe u _ d l _ hd1 (HL.o.ext hx1)).mono ?_;rintro e w2 ⟨b,rfl,hx2⟩;go_wp2_with fail;go_ret;exact⟨_,rfl,X0.o.trans (hx1.trans hx2)⟩
 have d2:(x==0)=false:=by simp[h0]
 go_wp2_with fail;go_ret;exact⟨_,rfl,X0.o.trans hx1⟩
def inB(c lo hi:Int):Bool:=decide (lo≤c)&&decide (c≤hi)
theorem Zwp(c lo hi:Int)(w:World):Calls prog 268 #[.int .i64 c,.int .i64 lo,.int .i64 hi] w fun e w'=>e=.returned (.bool (inB c lo hi))∧w=w':=by
 cases h1:decide (lo≤c)
 ·go_enter func268,ntmps268;go_wp2_with fail;go_ret;exact⟨by unfold inB;rw[h1];rfl,rfl⟩
 go_enter func268,ntmps268;go_wp2_with fail;go_ret;exact⟨by unfold inB;rw[h1];rfl,rfl⟩
theorem Zw4{S:Nat→Prop}(v:Value)(l:List Int)(lo hi:Int)(w:World)(h:Xw w S v l):Calls prog 269 #[v,.int .i64 lo,.int .i64 hi] w (Qm w):=by
 obtain⟨A,C,rfl,hlCC,hCC⟩:=h.shape;obtain⟨n,hnn⟩:=gnX ((l).length);have Hnn:=Y8 hnn;have Hh:=Y8 h;unfold maxLen at hCC;rw[hnn]at hlCC⊢;clear h hnn;go_enter func269,ntmps269;go_wp2_with fail;go_loopw [11] (fun o wr=>∃ i:Nat,i≤n∧o=.int .i64 (i:Int)∧Ext w wr) (fun o _=>n-(intOf o).toNat);case atStart=>exact⟨0,by omega,rfl,xE⟩
 obtain⟨i,hi_i,rfl,hx⟩:=hrel;have Hx:=Y8 hx;clear hx;by_cases hlt:i<n
 ·obtain⟨hd_i,i0_i,i1_i⟩:=LTl i n;obtain⟨x,hs_x⟩:=geX (l:=(l)) (i:=i) (by have:=Hnn.o;omega);obtain⟨g_x,o_x,c_x,hvv,_,_,_,hgl_x,a0_x⟩:=(Hh.o.ext Hx.o).get hs_x;obtain⟨rfl,-,rfl⟩:=slcX hvv;clear hvv;have Hs_x:=Y8 hs_x;clear hs_x;cases hb:inB x lo hi
  ·go_wp2_with (go_at_call 268;refine(Zwp _ _ _ _).mono ?_;rintro e w' ⟨rfl,rfl⟩;rw[hb]);all_goals
    have hx:=Hx.o
    first
    | (go_roundw
       case rel=>exact⟨i+1,by omega,by go_num,xE⟩
       (simp[intOf];omega))
    | (go_ret;exact⟨_,rfl,xE⟩)
  go_wp2_with (go_at_call 268;refine(Zwp _ _ _ _).mono ?_;rintro e w' ⟨rfl,rfl⟩;rw[hb]);all_goals
   have hx:=Hx.o
   first
   | (go_roundw
      case rel=>exact⟨i+1,by omega,by go_num,xE⟩
      (simp[intOf];omega))
   | (go_ret;exact⟨_,rfl,xE⟩)
 have hd_i:=GEl i n;go_wp2_with fail;all_goals
  have hx:=Hx.o
  first
  | (go_roundw
     case rel=>exact⟨i+1,by omega,by go_num,xE⟩
     (simp[intOf];omega))
  | (go_ret;exact⟨_,rfl,xE⟩)
theorem Zl9{S:Nat→Prop}(v:Value)(l:List Int)(i:Int)(w:World)(h:Xw w S v l):Calls prog 252 #[v,.int .i64 i] w (Et w):=by
 obtain⟨A,C,rfl,hlCC,hCC⟩:=h.shape;obtain⟨n,hnn⟩:=gnX ((l).length);have Hnn:=Y8 hnn;have Hh:=Y8 h;unfold maxLen at hCC;rw[hnn]at hlCC⊢;clear h hnn;go_enter func252,ntmps252;by_cases h0:i<0
 ·have d0:decide (i<0)=true:=Ye h0;go_wp2_with fail;go_ret;exact⟨_,rfl,Yk _⟩
 have d0:decide (i<0)=false:=Yf h0;by_cases h1:(n:Int)≤i
 ·have d1:decide ((n:Int)≤i)=true:=Ye h1;go_wp2_with fail;go_ret;exact⟨_,rfl,Yk _⟩
 obtain⟨j,rfl⟩:∃ j:Nat,i=(j:Int):=⟨i.toNat,by omega⟩;have d1:decide ((n:Int)≤(j:Int))=false:=Yf h1;have i0:(0:Int)≤(j:Int):=by omega
 have i1:(j:Int)<(n:Int):=by omega
 have hlt:j<n:=by omega
 have Hx:=Y8 (Yk w);obtain⟨x,hs_x⟩:=geX (l:=(l)) (i:=j) (by have:=Hnn.o;omega);obtain⟨g_x,o_x,c_x,hvv,_,_,_,hgl_x,a0_x⟩:=(Hh.o.ext Hx.o).get hs_x;obtain⟨rfl,-,rfl⟩:=slcX hvv;clear hvv;have Hs_x:=Y8 hs_x;clear hs_x;go_wp2_with fail;go_ret;exact⟨_,rfl,Yk _⟩
def Ztk(T:Tbl)(c:Int):List Int:=if Zo3 T c=3 then I8 T c else if Zo3 T c=1∨Zo3 T c=4 then[c]else[]
def Ez(T:Tbl)(l:List Int):List Int:=l.flatMap (Ztk T)
theorem Zwi{T:Tbl}(hf:Few T)(c:Int):(Ztk T c).length≤18:=by
 unfold Ztk;split
 ·unfold I8;split
  ·simp
  exact Gm hf.map c
 split<;>simp
theorem Zqn{T:Tbl}(hf:Few T)(l:List Int):(Ez T l).length≤l.length*18:=by
 unfold Ez
 induction l with
 | nil=>simp
 | cons c r ih=>rw[Ze7,Zs,Zl];have:=Zwi hf c;omega
def Zk7(T:Tbl)(l:List Int)(w:World)(e:Ending)(w':World):Prop:=∃ (v:Value) (r:List Int) (p x:Int),e=.returned (.tuple #[v,.int .i64 p,.int .i64 x])∧RdE Ww w' (fun k=>w.heap.size≤k) v r∧r.length≤4096∧(x=0→r=Ez T l)∧Ext w w'
theorem Zqo{S S':Nat→Prop}(T:Tbl)(hf:Few T)(hu:Uq T)(v:Value)(l:List Int)(w:World)(h:Xg w S T)(hl:Xw w S' v l):Calls prog 209 #[Vg T,v] w (Zk7 T l w):=by
 obtain⟨A,C,rfl,hlCC,hCC⟩:=hl.shape;obtain⟨n,hnn⟩:=gnX ((l).length);have Hnn:=Y8 hnn;have Hhl:=Y8 hl;unfold maxLen at hCC;rw[hnn]at hlCC⊢;clear hl hnn;obtain⟨X0,H,Hb0⟩:=tblX h;clear h;have HL:=intX Hhl Hnn X0;have Hf:=Y8 hf;have Hu:=Y8 hu;obtain⟨B,hB⟩:=gnX ((w.alloc (Wz T)).heap.size);have HB:=Y8 hB;clear hf hu hB;go_enter func209,ntmps209;go_wp2_with (first|(refine Xv rfl ?_)|(refine Xy Hb0.o rfl ?_));refine(V0 T Hf.o Hu.o _ l _ H.o HL.o).mono ?_;rintro e w1 ⟨x,rfl,hacc,hx1⟩;have Hx1:=Y8 hx1;clear hx1;by_cases h0:x=0
 ·subst h0;obtain⟨_,hl4,_⟩:=hacc rfl;rw[Hnn.o]at hl4;clear hacc;go_wp2_with fail;go_loopw [19,8] (fun o u wr=>∃ i:Nat,i≤n∧o=.int .i64 (i:Int)∧Own Ww wr B u (Ez T (l.take i))∧Ext (w.alloc (Wz T)) wr) (fun o _ _=>n-(intOf o).toNat);case atStart=>exact⟨0,by omega,rfl,Own.nil _ _ _,Hx1.o⟩
  clear Hx1;obtain⟨i,hi,rfl,ho,hx⟩:=hrel;obtain⟨p,hp⟩:=gnX (Ez T (l.take i));rw[hp]at ho;have hpl:p.length≤i*18:=by rw[← hp];exact Zgo (Zqn Hf.o _) (Zgi _ (by rw[Zp];omega))
  have hi18:i*18≤4096*18:=Zgi _ (by omega);obtain⟨A2,C2,rfl,hlC2,hC2⟩:=ho.shape;obtain⟨m,hm⟩:=gnX (p.length);have hoI:Own Ww wr B (.slice A2 m C2) p:=by rw[← hm];exact ho
  rw[hm]at hlC2 hpl⊢;have Hx:=Y8 hx;have Ho:=Y8 hoI;have Hm:=Y8 hm;have Hp:=Y8 hp;have hBw:B≤wr.heap.size:=by rw[← HB.o];exact hx.size
  unfold maxLen at hC2;clear hx ho hoI hm hp;by_cases hlt:i<n
  ·obtain⟨hd_i,i0_i,i1_i⟩:=LTl i n;obtain⟨c,hs_c⟩:=geX (l:=(l)) (i:=i) (by have:=Hnn.o;omega);obtain⟨g_c,o_c,c_c,hvv,_,_,_,hgl_c,a0_c⟩:=(HL.o.ext Hx.o).get hs_c;obtain⟨rfl,-,rfl⟩:=slcX hvv;clear hvv;have Hs_c:=Y8 hs_c;clear hs_c;have Hnew:=Y8 (show Ez T (l.take (i+1))=p++Ztk T c by rw[Wq Hs_c.o,Ez,List.flatMap_append,← Ez,Hp.o];simp);have hcl:=Zwi Hf.o c;obtain⟨st,hst⟩:=gnX (Zo3 T c);have Hst:=Y8 hst;clear hst;by_cases e0:st=0
   ·subst e0;go_wp2_with (first|(refine Xy (Hb0.o.ext Hx.o) rfl ?_)|(go_at_call 144;refine(Qc T c _ (H.o.up Hx.o)).mono ?_;rintro e w2 ⟨rfl,hx2⟩;rw[Hst.o];have Hx2:=Y8 hx2;clear hx2));go_ret3;exact⟨_,[],_,16,rfl,Xw.nil _ _,Zgf _,fun h=>absurd h (by decide),X0.o.trans (Hx.o.trans Hx2.o)⟩
   have f0:(st==0)=false:=by simp[e0]
   by_cases e3:st=3
   ·subst e3;go_wp2_with (first|(refine Xy (Hb0.o.ext Hx.o) rfl ?_)|(go_at_call 144;refine(Qc T c _ (H.o.up Hx.o)).mono ?_;rintro e w2 ⟨rfl,hx2⟩;rw[Hst.o];have Hx2:=Y8 hx2;clear hx2)|(refine Xy (Hb0.o.ext (Hx.o.trans Hx2.o)) rfl ?_));refine(Zmg T c _ (H.o.up (Hx.o.trans Hx2.o))).mono ?_;rintro e w3 ⟨u,rfl,hu3,hx3⟩;obtain⟨A3,C3,rfl,_,_⟩:=hu3.shape;have Hmc:=Y8 (show Ztk T c=I8 T c by unfold Ztk;rw[Zgn Hst.o]);rw[Hmc.o]at hcl;obtain⟨k,hk⟩:=gnX ((I8 T c).length);have Hu3:=Y8 (show RdE Ww w3 (fun _=>True) (.slice A3 k C3) (I8 T c) by rw[← hk];exact hu3);rw[hk]at hcl⊢;have Hk:=Y8 hk;have Hx3:=Y8 (Hx2.o.trans hx3);clear hk hu3 hx3;go_wp2_with (at_builtin;refine Xt Ww _ _ _ rfl rfl rfl rfl (Ho.o.ext Hx3.o) rfl Hu3.o (by rw[Hm.o,Hk.o];omega) (by show 8≤1000;omega) (Zgo hBw Hx3.o.size) ?_;intro A5 n5 c5 w5 hg5;have Hx5:=Y8 (hg5.ext (w.alloc (Wz T)) (Hx.o.trans Hx3.o) (by rw[HB.o];exact Ym _));have Hg5:=Y8 hg5;clear hg5);go_roundw;case rel=>exact⟨i+1,by omega,by go_num,by rw[Hnew.o,Hmc.o];exact Hg5.o.own,Hx5.o⟩
    (simp[intOf];omega)
   have f3:(st==3)=false:=by simp[e3]
   by_cases e1:st=1
   ·subst e1;have Hmc:=Y8 (show Ztk T c=[c] by unfold Ztk;rw[Zgq (by rw[Hst.o];decide),Zgn (.inl Hst.o)]);go_wp2_with (first|(refine Xy (Hb0.o.ext Hx.o) rfl ?_)|(go_at_call 144;refine(Qc T c _ (H.o.up Hx.o)).mono ?_;rintro e w2 ⟨rfl,hx2⟩;rw[Hst.o];have Hx2:=Y8 hx2;clear hx2)|(at_builtin;refine Xt Ww _ _ _ rfl rfl rfl rfl (Ho.o.ext (Hx2.o.alloc _)) rfl (Ws w2 c _ _ rfl) (by rw[Hm.o];show m+1≤_;omega) (by show 8≤1000;omega) (by have:=Hx2.o.size;simp;omega) ?_;intro A5 n5 c5 w5 hg5;have Hx5:=Y8 (hg5.ext (w.alloc (Wz T)) ((Hx.o.trans Hx2.o).alloc _) (by rw[HB.o];exact Ym _));have Hg5:=Y8 hg5;clear hg5));go_roundw;case rel=>exact⟨i+1,by omega,by go_num,by rw[Hnew.o,Hmc.o];exact Hg5.o.own,Hx5.o⟩
    (simp[intOf];omega)
   have f1:(st==1)=false:=by simp[e1]
   by_cases e4:st=4
   ·subst e4;have Hmc:=Y8 (show Ztk T c=[c] by unfold Ztk;rw[Zgq (by rw[Hst.o];decide),Zgn (.inr Hst.o)]);go_wp2_with (first|(refine Xy (Hb0.o.ext Hx.o) rfl ?_)|(go_at_call 144;refine(Qc T c _ (H.o.up Hx.o)).mono ?_;rintro e w2 ⟨rfl,hx2⟩;rw[Hst.o];have Hx2:=Y8 hx2;clear hx2)|(at_builtin;refine Xt Ww _ _ _ rfl rfl rfl rfl (Ho.o.ext (Hx2.o.alloc _)) rfl (Ws w2 c _ _ rfl) (by rw[Hm.o];show m+1≤_;omega) (by show 8≤1000;omega) (by have:=Hx2.o.size;simp;omega) ?_;intro A5 n5 c5 w5 hg5;have Hx5:=Y8 (hg5.ext (w.alloc (Wz T)) ((Hx.o.trans Hx2.o).alloc _) (by rw[HB.o];exact Ym _));have Hg5:=Y8 hg5;clear hg5));go_roundw;case rel=>exact⟨i+1,by omega,by go_num,by rw[Hnew.o,Hmc.o];exact Hg5.o.own,Hx5.o⟩
    (simp[intOf];omega)
   have f4:(st==4)=false:=by simp[e4]
   have Hmc:=Y8 (show Ztk T c=[] by unfold Ztk;rw[Zgq (by rw[Hst.o];exact e3),Zgq (by rw[Hst.o];exact fun h=>h.elim e1 e4)]);clear e0 e3 e1 e4;go_wp2_with (first|(refine Xy (Hb0.o.ext Hx.o) rfl ?_)|(go_at_call 144;refine(Qc T c _ (H.o.up Hx.o)).mono ?_;rintro e w2 ⟨rfl,hx2⟩;rw[Hst.o];have Hx2:=Y8 hx2;clear hx2));go_roundw;case rel=>exact⟨i+1,by omega,by go_num,by rw[Hnew.o,Hmc.o,Zf4];exact(by have:=Ho.o.ext Hx2.o;rw[← Hm.o]at *;exact this),Hx.o.trans Hx2.o⟩
   (simp[intOf];omega)
  have hd_i:=GEl i n;have hpe:p=Ez T l:=by rw[← Hp.o,Zm (by rw[Hnn.o];omega)]
  have Hpe:=Y8 hpe;clear hpe;by_cases hbig:4096<m
  ·have d1:decide ((4096:Int)<(m:Int))=true:=Ye;go_wp2_with fail;go_ret3;exact⟨_,[],0,7,rfl,Xw.nil _ _,Zgf _,fun h=>absurd h (by decide),X0.o.trans Hx.o⟩
  have d1:decide ((4096:Int)<(m:Int))=false:=Yf;go_wp2_with fail;go_ret3;refine⟨_,p,0,0,rfl,?_,by rw[Hm.o];omega,fun _=>Hpe.o,X0.o.trans Hx.o⟩;have:=Ho.o.rd;rw[← Hm.o]at this⊢;exact Rd.mono this fun k hk _=>Zgo (by have:=X0.o.size;have:=HB.o;omega) hk
 have d2:(!(x==0))=true:=by simp[h0]
 have d3:(x !=0)=true:=d2;have H0:=Y8 h0;clear h0 hacc;go_wp2_with fail;go_ret3;exact⟨_,[],0,x,rfl,Xw.nil _ _,Zgf _,fun h=>absurd h H0.o,X0.o.trans Hx1.o⟩
theorem Zmr{S S':Nat→Prop}(T:Tbl)(v:Value)(l:List Int)(w:World)(h:Xg w S T)(hl:Xw w S' v l):Calls prog 267 #[Vg T,v] w (Qm w):=by
 obtain⟨A,C,rfl,hlCC,hCC⟩:=hl.shape;obtain⟨n,hnn⟩:=gnX ((l).length);have Hnn:=Y8 hnn;have Hhl:=Y8 hl;unfold maxLen at hCC;rw[hnn]at hlCC⊢;clear hl hnn;obtain⟨X0,H,Hb0⟩:=tblX h;clear h;have HL:=intX Hhl Hnn X0;go_enter func267,ntmps267;go_wp2_with (refine Xv rfl ?_);go_loopw [10] (fun o wr=>∃ i:Nat,i≤n∧o=.int .i64 (i:Int)∧Ext (w.alloc (Wz T)) wr) (fun o _=>n-(intOf o).toNat);case atStart=>exact⟨0,by omega,rfl,Yk _⟩
 obtain⟨i,hi_i,rfl,hx⟩:=hrel;have Hx:=Y8 hx;clear hx;by_cases hlt:i<n
 ·obtain⟨hd_i,i0_i,i1_i⟩:=LTl i n;obtain⟨x,hs_x⟩:=geX (l:=(l)) (i:=i) (by have:=Hnn.o;omega);obtain⟨g_x,o_x,c_x,hvv,_,_,_,hgl_x,a0_x⟩:=(HL.o.ext Hx.o).get hs_x;obtain⟨rfl,-,rfl⟩:=slcX hvv;clear hvv;have Hs_x:=Y8 hs_x;clear hs_x;go_wp2_with (refine Xy (Hb0.o.ext Hx.o) rfl ?_);refine(Rf T _ _ (H.o.up Hx.o)).mono ?_;rintro e w1 ⟨v1,rfl,hx1⟩;go_wp2_with fail;all_goals
   have hx:=Hx.o
   first
   | (go_roundw
      case rel=>exact⟨i+1,by omega,by go_num,xE⟩
      (simp[intOf];omega))
   | (go_ret;exact⟨_,rfl,X0.o.trans xE⟩)
 have hd_i:=GEl i n;go_wp2_with fail;all_goals
  have hx:=Hx.o
  first
  | (go_roundw
     case rel=>exact⟨i+1,by omega,by go_num,xE⟩
     (simp[intOf];omega))
  | (go_ret;exact⟨_,rfl,X0.o.trans xE⟩)
theorem last_any{S S':Nat→Prop}(T:Tbl)(v:Value)(l:List Int)(w:World)(h:Xg w S T)(hl:Xw w S' v l):Calls prog 256 #[Vg T,v] w (Et w):=by
 obtain⟨A,C,rfl,hlCC,hCC⟩:=hl.shape;obtain⟨n,hnn⟩:=gnX ((l).length);have Hnn:=Y8 hnn;have Hhl:=Y8 hl;unfold maxLen at hCC;rw[hnn]at hlCC⊢;clear hl hnn;obtain⟨X0,H,Hb0⟩:=tblX h;clear h;have HL:=intX Hhl Hnn X0;go_enter func256,ntmps256;go_wp2_with (refine Xv rfl ?_);go_loopw [11,5] (fun o k wr=>∃ (i:Nat) (z:Int),i≤n∧o=.int .i64 (i:Int)∧k=.int .i64 z∧Ext (w.alloc (Wz T)) wr) (fun o _ _=>n-(intOf o).toNat);case atStart=>exact⟨0,-1,by omega,rfl,rfl,Yk _⟩
 obtain⟨i,z,hi,rfl,rfl,hx⟩:=hrel;have Hx:=Y8 hx;clear hx;by_cases hlt:i<n
 ·obtain⟨hd_i,i0_i,i1_i⟩:=LTl i n;obtain⟨x,hs_x⟩:=geX (l:=(l)) (i:=i) (by have:=Hnn.o;omega);obtain⟨g_x,o_x,c_x,hvv,_,_,_,hgl_x,a0_x⟩:=(HL.o.ext Hx.o).get hs_x;obtain⟨rfl,-,rfl⟩:=slcX hvv;clear hvv;have Hs_x:=Y8 hs_x;clear hs_x;go_wp2_with (refine Xy (Hb0.o.ext Hx.o) rfl ?_);refine(Sv T _ _ (H.o.up Hx.o)).mono ?_;rintro e w1 ⟨v1,rfl,hx1⟩;go_wp2_with fail;all_goals
   go_roundw;case rel=>exact⟨i+1,_,by omega,by go_num,rfl,Hx.o.trans hx1⟩
   (simp[intOf];omega)
 have hd_i:=GEl i n;go_wp2_with fail;go_ret;exact⟨z,rfl,X0.o.trans Hx.o⟩
theorem Gr{S S' S'':Nat→Prop}(T:Tbl)(v:Value)(l:List Int)(u:Value)(cl:List Int)(w:World)(h:Xg w S T)(hl:Xw w S' v l)(hc:Xw w S'' u cl):Calls prog 255 #[Vg T,v,u] w (Qm w):=by
 obtain⟨A,C,rfl,hlCC,hCC⟩:=hl.shape;obtain⟨n,hnn⟩:=gnX ((l).length);have Hnn:=Y8 hnn;have Hhl:=Y8 hl;unfold maxLen at hCC;rw[hnn]at hlCC⊢;clear hl hnn;obtain⟨D,E,rfl,hlCE,hCE⟩:=hc.shape;obtain⟨k,hnk⟩:=gnX ((cl).length);have Hnk:=Y8 hnk;have Hhc:=Y8 hc;unfold maxLen at hCE;rw[hnk]at hlCE⊢;clear hc hnk;obtain⟨X0,H,Hb0⟩:=tblX h;clear h;have HL:=intX Hhl Hnn X0;have HC:=Y8 (show Xw (w.alloc (Wz T)) S'' (.slice D k E) cl by have:=Hhc.o.ext X0.o;rwa [Hnk.o]at this);go_enter func255,ntmps255;go_wp2_with (refine Xv rfl ?_);go_loopw [13] (fun o wr=>∃ i:Nat,i≤n∧o=.int .i64 (i:Int)∧Ext (w.alloc (Wz T)) wr) (fun o _=>n-(intOf o).toNat);case atStart=>exact⟨0,by omega,rfl,Yk _⟩
 obtain⟨i,hi_i,rfl,hx⟩:=hrel;have Hx:=Y8 hx;clear hx;by_cases hlt:i<n
 ·obtain⟨hd_i,i0_i,i1_i⟩:=LTl i n;obtain⟨x,hs_x⟩:=geX (l:=(l)) (i:=i) (by have:=Hnn.o;omega);obtain⟨g_x,o_x,c_x,hvv,_,_,_,hgl_x,a0_x⟩:=(HL.o.ext Hx.o).get hs_x;obtain⟨rfl,-,rfl⟩:=slcX hvv;clear hvv;have Hs_x:=Y8 hs_x;clear hs_x;go_wp2_with fail;have Hlt:=Y8 hlt;have Hx1:=Y8 Hx.o;clear Hx hlt a0_x hgl_x;go_loopw [19] (fun o wr=>∃ i:Nat,i≤k∧o=.int .i64 (i:Int)∧Ext (w.alloc (Wz T)) wr) (fun o _=>k-(intOf o).toNat);case atStart=>exact⟨0,by omega,rfl,Hx1.o⟩
  clear Hx1;obtain⟨j,hi_j,rfl,hx⟩:=hrel;have Hx:=Y8 hx;clear hx;by_cases hlt:j<k
  ·obtain⟨hd_j,i0_j,i1_j⟩:=LTl j k;obtain⟨y,hs_y⟩:=geX (l:=(cl)) (i:=j) (by have:=Hnk.o;omega);obtain⟨g_y,o_y,c_y,hvv,_,_,_,hgl_y,a0_y⟩:=(HC.o.ext Hx.o).get hs_y;obtain⟨rfl,-,rfl⟩:=slcX hvv;clear hvv;have Hs_y:=Y8 hs_y;clear hs_y;go_wp2_with (refine Xy (Hb0.o.ext Hx.o) rfl ?_);refine(Sv T _ _ (H.o.up Hx.o)).mono ?_;rintro e w1 ⟨v1,rfl,hx1⟩;go_wp2_with fail;all_goals
    have hx:=Hx.o
    first
    | (go_roundw
       case rel=>exact⟨j+1,by omega,by go_num,xE⟩
       (simp[intOf];omega))
    | (go_ret;exact⟨_,rfl,X0.o.trans xE⟩)
  have hd_j:=GEl j k;have hlo:=Hlt.o;go_wp2_with fail;go_roundw;case rel=>exact⟨i+1,by omega,by go_num,Hx.o⟩
  (simp[intOf];omega)
 have hd_i:=GEl i n;go_wp2_with fail;all_goals
  have hx:=Hx.o
  first
  | (go_roundw
     case rel=>exact⟨i+1,by omega,by go_num,xE⟩
     (simp[intOf];omega))
  | (go_ret;exact⟨_,rfl,X0.o.trans xE⟩)
theorem Zik{S S':Nat→Prop}(T:Tbl)(hf:Few T)(hu:Uq T)(v:Value)(l:List Int)(w:World)(h:Xg w S T)(hl:Xw w S' v l):Calls prog 235 #[Vg T,v] w (Qm w):=by
 obtain⟨A,C,rfl,hlCC,hCC⟩:=hl.shape;obtain⟨n,hnn⟩:=gnX ((l).length);have Hnn:=Y8 hnn;have Hhl:=Y8 hl;unfold maxLen at hCC;rw[hnn]at hlCC⊢;clear hl hnn;obtain⟨X0,H,Hb0⟩:=tblX h;clear h;have HL:=intX Hhl Hnn X0;have Hf:=Y8 hf;have Hu:=Y8 hu;clear hf hu;go_enter func235,ntmps235;go_wp2_with (first|(refine Xv rfl ?_)|(refine Xy Hb0.o rfl ?_));refine(V0 T Hf.o Hu.o _ l _ H.o HL.o).mono ?_;rintro e w0 ⟨x,rfl,_,hx0⟩;by_cases h0:x=0
 ·subst h0;go_wp2_with (first|(refine Wp (Hb0.o.ext hx0) (by go_simp) rfl ?_)|(go_at_call 255;refine(Gr T _ l _ [1,2,3] _ (H.o.up xE) (HL.o.ext xE) (Wl _ _ [1,2,3] 3 rfl _ rfl (by omega))).mono ?_;rintro e w1 ⟨v1,rfl,hx1⟩));go_ret;exact⟨_,rfl,X0.o.trans xE⟩
 have h0b:(!(x==0))=true:=by simp[h0]
 have h0c:(x !=0)=true:=h0b;have h0d:(x==0)=false:=by simp[h0]
 have h0H:=Y8 h0;clear h0;go_wp2_with fail;go_ret;exact⟨_,rfl,X0.o.trans hx0⟩
theorem Zlo{S S':Nat→Prop}(T:Tbl)(hf:Few T)(hu:Uq T)(v:Value)(l:List Int)(w:World)(h:Xg w S T)(hl:Xw w S' v l):Calls prog 236 #[Vg T,v] w (Mn w):=by
 obtain⟨A,C,rfl,hlCC,hCC⟩:=hl.shape;obtain⟨n,hnn⟩:=gnX ((l).length);have Hnn:=Y8 hnn;have Hhl:=Y8 hl;unfold maxLen at hCC;rw[hnn]at hlCC⊢;clear hl hnn;obtain⟨X0,H,Hb0⟩:=tblX h;clear h;have HL:=intX Hhl Hnn X0;have Hf:=Y8 hf;have Hu:=Y8 hu;clear hf hu;go_enter func236,ntmps236;go_wp2_with (first|(refine Xv rfl ?_)|(refine Xy Hb0.o rfl ?_));refine(V0 T Hf.o Hu.o _ l _ H.o HL.o).mono ?_;rintro e w0 ⟨x,rfl,_,hx0⟩;by_cases h0:x=0
 ·subst h0;by_cases hn0:n=0
  ·have hn1:((n:Int)==0)=true:=by simp[hn0]
   have hn2:(n==0)=true:=by simp[hn0]
   go_wp2_with fail;go_ret2;exact⟨_,_,rfl,X0.o.trans hx0⟩
  have hn1:((n:Int)==0)=false:=by simp;omega
  have hn2:(n==0)=false:=by simp;omega
  have hn3:0<n:=by omega
  have i0:(0:Int)<(n:Int):=by omega
  go_wp2_with (refine Xy (Hb0.o.ext hx0) rfl ?_);refine(last_any T _ l _ (H.o.up hx0) (HL.o.ext hx0)).mono ?_;rintro e w2 ⟨z,rfl,hx2⟩;have Hx:=Y8 (hx0.trans hx2);have hlt:0<n:=hn3;obtain⟨c,hs_c⟩:=geX (l:=(l)) (i:=0) (by have:=Hnn.o;omega);obtain⟨g_c,o_c,c_c,hvv,_,_,_,hgl_c,a0_c⟩:=(HL.o.ext Hx.o).get hs_c;obtain⟨rfl,-,rfl⟩:=slcX hvv;clear hvv;have Hs_c:=Y8 hs_c;clear hs_c;clear hx0 hx2;rw[Zfu]at a0_c;have z0:(w2).cell? ⟨w.heap.size,0,none⟩=some T.catV:=(Hb0.o.ext Hx.o).at_ 0 (by omega);have z1:(w2).cell? ⟨w.heap.size,1,none⟩=some T.clsV:=(Hb0.o.ext Hx.o).at_ 1 (by omega);have z2:(w2).cell? ⟨w.heap.size,2,none⟩=some T.joiV:=(Hb0.o.ext Hx.o).at_ 2 (by omega);have z3:(w2).cell? ⟨w.heap.size,3,none⟩=some T.bidV:=(Hb0.o.ext Hx.o).at_ 3 (by omega);have z4:(w2).cell? ⟨w.heap.size,4,none⟩=some T.scrV:=(Hb0.o.ext Hx.o).at_ 4 (by omega);have z5:(w2).cell? ⟨w.heap.size,5,none⟩=some T.staV:=(Hb0.o.ext Hx.o).at_ 5 (by omega);have z6:(w2).cell? ⟨w.heap.size,6,none⟩=some T.ignV:=(Hb0.o.ext Hx.o).at_ 6 (by omega);have z7:(w2).cell? ⟨w.heap.size,7,none⟩=some T.extV:=(Hb0.o.ext Hx.o).at_ 7 (by omega);have z8:(w2).cell? ⟨w.heap.size,8,none⟩=some T.mapV:=(Hb0.o.ext Hx.o).at_ 8 (by omega);have z9:(w2).cell? ⟨w.heap.size,9,none⟩=some T.decV:=(Hb0.o.ext Hx.o).at_ 9 (by omega);have z10:(w2).cell? ⟨w.heap.size,10,none⟩=some T.excV:=(Hb0.o.ext Hx.o).at_ 10 (by omega);have z11:(w2).cell? ⟨w.heap.size,11,none⟩=some T.proV:=(Hb0.o.ext Hx.o).at_ 11 (by omega);go_wp2_with fail;go_cut [26] from 22 to 26 (fun o wx=>∃ b:Int,o=.int .i64 b∧Ext w2 wx)
  case first =>
   rename_i J1 K1 hJ hM;go_region_with (go_at_call 257;refine(Sv T _ _ (H.o.up (have hx:=Hx.o;xE))).mono ?_;rintro e w3 ⟨b,rfl,hx3⟩);all_goals
    go_simp;refine hM _ _ (hJ _ _ ?_);(repeat apply Exists.intro)
    exact⟨⟨b,rfl,by first|exact hx3|exact(Yk _).drew.trans hx3|exact((Yk _).drewN _).trans hx3⟩,rfl⟩
  obtain⟨b,rfl,hxb⟩:=hcut;have hx:=Hx.o.trans hxb;clear z0 z1 z2 z3 z4 z5 z6 z7 z8 z9 z10 z11 a0_c hxb;by_cases b1:b=1
  ·subst b1;go_wp2_with (refine Xy (Hb0.o.ext hx) rfl ?_);refine(Gr T _ l _ [0,11] _ (H.o.up xE) (HL.o.ext xE) (Wl _ _ [0,11] 2 rfl _ rfl (by omega))).mono ?_;rintro e w4 ⟨b4,rfl,hx4⟩;have hx':Ext (w.alloc (Wz T)) w4:=xE;cases b4 with
   | true =>
    go_wp2_with fail;go_ret2;exact⟨_,_,rfl,X0.o.trans hx'⟩
   | false =>
    clear hx4;go_upto_region 10 with fail;go_cut [35] from 36 to 49 (fun o wx=>∃ q:Bool,o=.bool q∧wx=w4)
    case first =>
     cases a1:(z !=1)<;>cases a2:(z !=2)<;>cases a4:(z !=4)<;>cases a3:(z !=3)
     all_goals
      go_wp2_with fail;go_meet;exact⟨_,rfl,rfl⟩
    obtain⟨q,rfl,rfl⟩:=hcut;cases q with
    | true =>
     go_wp2_with fail;go_ret2;exact⟨_,_,rfl,X0.o.trans hx'⟩
    | false =>
     go_wp2_with (refine Xy (Hb0.o.ext hx') rfl ?_);clear hx;refine(Gr T _ l _ [4] _ (H.o.up xE) (HL.o.ext xE) (Wl _ _ [4] 1 rfl _ rfl (by omega))).mono ?_;rintro e w5 ⟨b5,rfl,hx5⟩;have hx'':Ext (w.alloc (Wz T)) w5:=xE;clear hx' hx5;cases b5 with
     | false =>
      go_wp2_with fail;go_ret2;exact⟨_,_,rfl,X0.o.trans hx''⟩
     | true =>
      go_wp2_with (refine Wp (Hb0.o.ext hx'') (by go_simp) rfl ?_);refine(Gr T _ l _ [3] _ (H.o.up xE) (HL.o.ext xE) (Wl _ _ [3] 1 rfl _ rfl (by omega))).mono ?_;rintro e w6 ⟨b6,rfl,hx6⟩;have hx3':Ext (w.alloc (Wz T)) w6:=xE;clear hx'' hx6;go_wp2_with fail;all_goals
       go_ret2;exact⟨_,_,rfl,X0.o.trans hx3'⟩
  have b1b:(b==1)=false:=by simp[b1]
  by_cases b2:b=2
  ·subst b2;go_wp2_with (refine Xy (Hb0.o.ext hx) rfl ?_);refine(Gr T _ l _ [0,11] _ (H.o.up xE) (HL.o.ext xE) (Wl _ _ [0,11] 2 rfl _ rfl (by omega))).mono ?_;rintro e w4 ⟨b4,rfl,hx4⟩;have hx':Ext (w.alloc (Wz T)) w4:=xE;cases b4 with
   | true =>
    go_wp2_with fail;go_ret2;exact⟨_,_,rfl,X0.o.trans hx'⟩
   | false =>
    clear hx4;go_upto_region 10 with fail;go_cut [35] from 36 to 49 (fun o wx=>∃ q:Bool,o=.bool q∧wx=w4)
    case first =>
     cases a1:(z !=1)<;>cases a2:(z !=2)<;>cases a4:(z !=4)<;>cases a3:(z !=3)
     all_goals
      go_wp2_with fail;go_meet;exact⟨_,rfl,rfl⟩
    obtain⟨q,rfl,rfl⟩:=hcut;cases q with
    | true =>
     go_wp2_with fail;go_ret2;exact⟨_,_,rfl,X0.o.trans hx'⟩
    | false =>
     go_wp2_with (refine Xy (Hb0.o.ext hx') rfl ?_);clear hx;refine(Gr T _ l _ [4] _ (H.o.up xE) (HL.o.ext xE) (Wl _ _ [4] 1 rfl _ rfl (by omega))).mono ?_;rintro e w5 ⟨b5,rfl,hx5⟩;have hx'':Ext (w.alloc (Wz T)) w5:=xE;clear hx' hx5;cases b5 with
     | false =>
      go_wp2_with fail;go_ret2;exact⟨_,_,rfl,X0.o.trans hx''⟩
     | true =>
      go_wp2_with (refine Wp (Hb0.o.ext hx'') (by go_simp) rfl ?_);refine(Gr T _ l _ [3] _ (H.o.up xE) (HL.o.ext xE) (Wl _ _ [3] 1 rfl _ rfl (by omega))).mono ?_;rintro e w6 ⟨b6,rfl,hx6⟩;have hx3':Ext (w.alloc (Wz T)) w6:=xE;clear hx'' hx6;go_wp2_with fail;all_goals
       go_ret2;exact⟨_,_,rfl,X0.o.trans hx3'⟩
  have b2b:(b==2)=false:=by simp[b2]
  by_cases b3:b=0
  ·subst b3;go_wp2_with (refine Xy (Hb0.o.ext hx) rfl ?_);refine(Gr T _ l _ [1,2,3,11] _ (H.o.up xE) (HL.o.ext xE) (Wl _ _ [1,2,3,11] 4 rfl _ rfl (by omega))).mono ?_;rintro e w4 ⟨b4,rfl,hx4⟩;have hx':Ext (w.alloc (Wz T)) w4:=xE;clear hx4 hx;go_wp2_with fail;all_goals
    go_ret2;exact⟨_,_,rfl,X0.o.trans hx'⟩
  have b3b:(b==0)=false:=by simp[b3]
  go_wp2_with fail;go_ret2;exact⟨_,_,rfl,X0.o.trans hx⟩
 have h0b:(!(x==0))=true:=by simp[h0]
 have h0c:(x !=0)=true:=h0b;have h0d:(x==0)=false:=by simp[h0]
 have h0H:=Y8 h0;clear h0;go_wp2_with fail;go_ret2;exact⟨_,_,rfl,X0.o.trans hx0⟩
theorem Zyj{S:Nat→Prop}(v:Value)(l:List Int)(w:World)(h:Xw w S v l):Calls prog 231 #[v] w (Qm w):=by
 obtain⟨A,C,rfl,hlCC,hCC⟩:=h.shape;obtain⟨n,hnn⟩:=gnX ((l).length);have Hnn:=Y8 hnn;have Hh:=Y8 h;unfold maxLen at hCC;rw[hnn]at hlCC⊢;clear h hnn;have HI:=Y8 (show Xw w S (.slice A n C) l by have:=Hh.o;rwa [Hnn.o]at this);go_enter func231,ntmps231;go_wp2_with (go_at_call 252;refine(Zl9 _ l _ _ (HI.o.ext xE)).mono ?_;rintro e w1 ⟨v1,rfl,hx1⟩);all_goals
  go_ret;exact⟨_,rfl,xE⟩
theorem Zva{S:Nat→Prop}(T:Tbl)(hf:Few T)(hu:Uq T)(v:Value)(ls:List (List Int))(w:World)(h:Xg w S T)(hl:Zvq w v ls):Calls prog 216 #[Vg T,v] w (Mn w):=by
 obtain⟨A,C,rfl,hlC,hC⟩:=hl.shape;obtain⟨n,hnn⟩:=gnX (ls.length);have Hh:=Y8 hl;rw[hnn]at hlC⊢;have Hnn:=Y8 hnn;unfold maxLen at hC;clear hl hnn;obtain⟨X0,H,Hb0⟩:=tblX h;clear h;have Hf:=Y8 hf;have Hu:=Y8 hu;clear hf hu;go_enter func216,ntmps216;go_wp2_with (refine Xv rfl ?_);go_loopw [16,6] (fun o b wr=>∃ (i:Nat) (q:Bool),i≤n∧o=.int .i64 (i:Int)∧b=.bool q∧Ext (w.alloc (Wz T)) wr) (fun o _ _=>n-(intOf o).toNat);case atStart=>exact⟨0,false,by omega,rfl,rfl,Yk _⟩
 obtain⟨i,q,hi,rfl,rfl,hx⟩:=hrel;have Hx:=Y8 hx;clear hx;by_cases hlt:i<n
 ·obtain⟨hd_i,i0_i,i1_i⟩:=LTl i n;obtain⟨x,hx0⟩:=geX (l:=ls) (i:=i) (by rw[Hnn.o];exact hlt);obtain⟨g,o,c,u,hv,_,_,hg,c0,hxu⟩:=(Hh.o.ext X0.o).get hx0;obtain⟨rfl,-,rfl⟩:=slcX hv;clear hv;replace c0:=(Hx.o.cell (p:=⟨g,o+i,none⟩) hg).trans c0;have Hxu:=Y8 hxu;have Hx0:=Y8 hx0;clear hxu hx0;go_wp2_with (refine Xy (Hb0.o.ext Hx.o) rfl ?_);refine(V0 T Hf.o Hu.o _ x _ (H.o.up Hx.o) (Hxu.o.ext Hx.o)).mono ?_;rintro e w1 ⟨y,rfl,_,hx1⟩;have Hx1:=Y8 (Hx.o.trans hx1);clear hx1;by_cases h0:y=0
  ·subst h0;cases q with
   | true =>
    go_wp2_with fail;go_roundw;case rel=>exact⟨i+1,true,by omega,by go_num,rfl,Hx1.o⟩
    (simp[intOf];omega)
   | false =>
    go_wp2_with (refine Wp (Hb0.o.ext Hx1.o) (by go_simp) rfl ?_);refine(Zik T Hf.o Hu.o _ x _ (H.o.up Hx1.o) (Hxu.o.ext Hx1.o)).mono ?_;rintro e w2 ⟨q2,rfl,hx2⟩;go_wp2_with fail;go_roundw;case rel=>exact⟨i+1,q2,by omega,by go_num,rfl,Hx1.o.trans hx2⟩
    (simp[intOf];omega)
  have h0b:(!(y==0))=true:=by simp[h0]
  have h0c:(y !=0)=true:=h0b;have h0d:(y==0)=false:=by simp[h0]
  have h0H:=Y8 h0;clear h0;go_wp2_with fail;go_ret2;exact⟨_,_,rfl,X0.o.trans Hx1.o⟩
 have hd_i:=GEl i n;go_wp2_with fail;have Hx1:=Y8 Hx.o;clear Hx hlt hi hd_i;go_loopw [37] (fun o wr=>∃ i:Nat,i≤n∧o=.int .i64 (i:Int)∧Ext (w.alloc (Wz T)) wr) (fun o _=>n-(intOf o).toNat);case atStart=>exact⟨0,by omega,rfl,Hx1.o⟩
 clear Hx1;obtain⟨i,hi_i,rfl,hx⟩:=hrel;have Hx:=Y8 hx;clear hx;by_cases hlt:i<n
 ·obtain⟨hd_i,i0_i,i1_i⟩:=LTl i n;obtain⟨x,hx0⟩:=geX (l:=ls) (i:=i) (by rw[Hnn.o];exact hlt);obtain⟨g,o,c,u,hv,_,_,hg,c0,hxu⟩:=(Hh.o.ext X0.o).get hx0;obtain⟨rfl,-,rfl⟩:=slcX hv;clear hv;replace c0:=(Hx.o.cell (p:=⟨g,o+i,none⟩) hg).trans c0;have Hxu:=Y8 hxu;have Hx0:=Y8 hx0;clear hxu hx0;go_wp2_with (refine Xy (Hb0.o.ext Hx.o) rfl ?_);refine(Zlo T Hf.o Hu.o _ x _ (H.o.up Hx.o) (Hxu.o.ext Hx.o)).mono ?_;rintro e w1 ⟨y,z,rfl,hx1⟩;cases q
  ·go_wp2_with fail;go_roundw;case rel=>exact⟨i+1,by omega,by go_num,Hx.o.trans hx1⟩
   (simp[intOf];omega)
  go_wp2_with fail;all_goals
   first
   | (go_roundw
      case rel=>exact⟨i+1,by omega,by go_num,Hx.o.trans hx1⟩
      (simp[intOf];omega))
   | (go_ret2;exact⟨_,_,rfl,X0.o.trans (Hx.o.trans hx1)⟩)
 have hd_i:=GEl i n;go_wp2_with fail;go_ret2;exact⟨_,_,rfl,X0.o.trans Hx.o⟩
