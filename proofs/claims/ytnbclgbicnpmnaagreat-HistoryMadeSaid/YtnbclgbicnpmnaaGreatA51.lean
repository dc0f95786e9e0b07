/- Lemmas of this claim. Conditions: as named. -/
import Derived.Test.YtnbclgbicnpmnaaGreatA09
import Derived.Test.YtnbclgbicnpmnaaGreatA15
import Derived.Test.YtnbclgbicnpmnaaGreatA36
import Derived.Test.YtnbclgbicnpmnaaGreatA47
import Derived.Test.YtnbclgbicnpmnaaGreatA49
import Derived.Test.YtnbclgbicnpmnaaGreatA50
namespace Go.Proofs.YtnbclgbicnpmnaaGreat
open Go.RowKit Go.Sort
set_option maxHeartbeats 0
set_option maxRecDepth 100000
set_option linter.all false
theorem Sq{α:Type}(E:Enc α)(l:List α){i:Nat}(hi:i≤l.length):E.cells (l.take i)=(E.cells l).take (i*E.z)∧E.cells (l.drop i)=(E.cells l).drop (i*E.z):=by
 have e:E.cells l=E.cells (l.take i)++E.cells (l.drop i):=by rw[← E.app,Zjr]
 have el:(E.cells (l.take i)).length=i*E.z:=by rw[E.len,Zp];congr 1;omega
 rw[e];exact⟨(List.take_left' el).symm,(List.drop_left' el).symm⟩
theorem Own.takeG{α:Type}{E:Enc α}{w:World}{B g n c:Nat}{l:List α}(h:Own E w B (.slice (some ⟨g,0,none⟩) n c) l){i:Nat}(hi:i≤l.length):Own E w B (.slice (some ⟨g,0,none⟩) i c) (l.take i):=by
 obtain⟨h1,h2⟩:=h;have hl:(l.take i).length=i:=by rw[Zp];omega
 refine⟨E.len _,?_⟩;rcases h2 with⟨h2,_⟩ | ⟨g',cap,cur,he,hb,hg,hn,hm,hs,ht⟩
 ·simp at h2
 simp only[Yg,Yf,Zld,Zl2,Zks]at he;obtain⟨rfl,he2,rfl⟩:=he;refine .inr ⟨g,c,cur,by rw[hl],hb,hg,by rw[hl];omega,hm,hs,?_⟩;rw[(Sq E l hi).1,hl,← ht,List.take_take];congr 1;have:i*E.z≤l.length*E.z:=Zl4 _ hi;omega
theorem RdE.dropG{α:Type}{E:Enc α}{w:World}{S:Nat→Prop}{g o n c:Nat}{l:List α}(h:RdE E w S (.slice (some ⟨g,o,none⟩) n c) l){i m:Nat}(hi:i≤l.length)(hm:m=l.length-i){A2:Option Addr}{c2:Nat}(hA:0<m→A2=some ⟨g,o+i*E.z,none⟩)(hc1:m≤c2)(hc2:c2≤maxLen):RdE E w S (.slice A2 m c2) (l.drop i):=by
 have hl:(l.drop i).length=m:=by rw[Z8,hm]
 refine⟨E.len _,A2,c2,by rw[hl],by rw[hl];exact hc1,hc2,fun h0=>?_⟩;rw[hl]at h0;obtain rfl:=hA h0;obtain⟨h1,A',c',hv,h2,h3,h4⟩:=h;cases hv
 obtain⟨g',o',e,hS,hg,hc⟩:=h4 (by omega);cases e
 refine⟨g,o+i*E.z,rfl,hS,hg,fun j u hu=>?_⟩;rw[(Sq E l hi).2,Yz]at hu;have:=hc (i*E.z+j) u hu
 rwa [← Zkf]at this
theorem Zy6{ops:Array Oper}{C:World→Prop}{Q:Act→Prop}{rest:List Oper}{dst:Option Nat}{x:Operand}{t:TypeId}{pos:String}{af:Array Edge}{gd:Option (Nat×Bool)}{a:Act}{b p:Nat}{o:Opn}
 (hw:Region.wanted {dst:=dst,op:=.load 55 x,type:=t,pos:=pos,after:=af,guard:=gd} (yielded ops a.tmps)=true) (hx:a.eval x=.pointer (some ⟨b,p,none⟩)) (hC:∀ w',C w'→K5 w' b p o)
 (hK:wpQuiet Tryz.prog ops C Q rest (a.put dst (opV o))):wpQuiet Tryz.prog ops C Q ({dst:=dst,op:=.load 55 x,type:=t,pos:=pos,after:=af,guard:=gd}::rest) a:=by
 have hu:=It;rw[Zl9]at hu;obtain⟨d,hu,hd⟩:=hu;show if _ then _ else _
 rw[Zlg hw];refine⟨opV o,fun w' hc=>?_,hK⟩;unfold Oper.quietAt execOp;simp only[hx,Instr.loadAt,Instr.sureAddr,Zjt,Zjs,Zki,run_loadVar_mid w' b p _ (opC o) d (hC w' hc).range hu hd (by rw[Ky];rfl)];exact⟨rfl,rfl⟩
theorem K2{ops:Array Oper}{op:Oper}{a:Act}{w:World}{K:Act→World→Prop}{Q:Exit→Act→World→Prop}{F:Prop}{b p:Nat}{o:Opn}(hgd:op.guard=none)(x:Operand)(ho:op.op=.load 55 x)(hx:a.eval x=.pointer (some ⟨b,p,none⟩))(hr:w.rangeAt b p (opC o))
 (h:K (a.put op.dst (opV o)) w):if Region.wanted op (yielded ops a.tmps)=true then op.wp Tryz.prog a w K Q else F:=by
 rw[Zlg (by simp[Region.wanted,hgd])];have hu:=It;rw[Zl9]at hu;obtain⟨d,hu,hd⟩:=hu;exact Zhd _ x ho b p hx (opC o) d hr hu hd (by rw[Ky];rfl) h
structure Uz(w:World)(H:Nat)(v:Value)(os:List OpS):Prop where
 own:Own opE w H v os
 nms:∀ o∈os,Wb w (fun k=>k<H) o.1.nv o.1.ns
theorem Uz.ext{w w':World}{H:Nat}{v:Value}{os:List OpS}(h:Uz w H v os)(x:Ext w w'):Uz w' H v os:=⟨h.own.ext x,fun o ho=>Rd.ext (h.nms o ho) x⟩
theorem Uz.opsAt{w:World}{H:Nat}{v:Value}{os:List OpS}(h:Uz w H v os):Vk w (fun _=>True) v (os.map Subtype.val):=by
 refine⟨?_,fun o ho=>?_⟩
 ·have h1:=Own.rd (E:=opE) h.own;rw[Zq];exact Rd.mono h1 fun _ _ _=>trivial
 obtain⟨x,hx,rfl⟩:=Zl3.1 ho;exact Rd.mono (h.nms x hx) fun _ _ _=>trivial
theorem Uz.set{w:World}{H g n c:Nat}{os:List OpS}(h:Uz w H (.slice (some ⟨g,0,none⟩) n c) os){z f:Nat}{o o':OpS}{vs:List Value}(hz:os[z]?=some o)(hf:f+vs.length≤23)(he:opC o'.1=(opC o.1).take f++(vs++(opC o.1).drop (f+vs.length)))
 (hn:Wb w (fun k=>k<H) o'.1.nv o'.1.ns):Uz (w.setCells g (z*23+f) vs) H (.slice (some ⟨g,0,none⟩) n c) (os.set z o'):=by
 have c:Chg (· = g) w (w.setCells g (z*23+f) vs):=Xo (S:=(· = g)) (.inl rfl) (Chg.refl _ _);have hb:=h.own.blk;have hS:∀ j,j<H→¬ j=g:=fun j hj e=>by omega
 refine⟨?_,fun q hq=>?_⟩
 ·have h0:=h.own;unfold Own at h0⊢;rw[Zf];have h1:=L0 (vs:=vs) (p:=z*23+f) h0;have e:Zxy (opE.cells os) (z*23+f) vs=opE.cells (os.set z o'):=by
   show Zxy (Ud (os.map Subtype.val)) (z*23+f) vs=Ud ((os.set z o').map Subtype.val);rw[Th (o:=o.1) (o':=o'.1) (by rw[Zn,hz];rfl) hf he,Zhm]
  rw[e]at h1;exact h1
 rcases Zkm hq with h1|rfl
 ·exact Rd.chg (h.nms q h1) c hS
 exact Rd.chg hn c hS
theorem Uz.range{w:World}{H g n c:Nat}{os:List OpS}(h:Uz w H (.slice (some ⟨g,0,none⟩) n c) os){z:Nat}{o:OpS}(hz:os[z]?=some o):w.rangeAt g (z*23) (opC o.1):=fun f v hv=>by
 have h23:f<23:=by have:=(Zr.1 hv).1;rw[Qi]at this;exact this
 refine Own.at_ h.own ?_;show(Ud (os.map Subtype.val))[z*23+f]?=_;rw[Ld (o:=o.1) (by rw[Zn,hz];rfl) f h23,hv]
theorem Uz.there{w:World}{H g n c:Nat}{os:List OpS}(h:Uz w H (.slice (some ⟨g,0,none⟩) n c) os){z f m:Nat}(hz:z<os.length)(hf:f+m≤23):w.there g (z*23+f) m:=by
 have hb:Xs w g (opE.cells os):=⟨h.own.blk.2,fun j=>Own.thaw h.own j,fun j hj=>by rw[Zz hj];exact Own.at_ h.own (Zz hj)⟩;refine hb.there ?_;rw[opE.len];have:(z+1)*23≤os.length*23:=Zl4 _ hz;show z*23+f+m≤os.length*23;omega
theorem Uz.put{w:World}{H g n c:Nat}{os:List OpS}(h:Uz w H (.slice (some ⟨g,0,none⟩) n c) os){z:Nat}{o o':OpS}(hz:os[z]?=some o)(hn:Wb w (fun k=>k<H) o'.1.nv o'.1.ns):Uz (w.setCells g (z*23) (opC o'.1)) H (.slice (some ⟨g,0,none⟩) n c) (os.set z o'):=by
 obtain⟨vs,hvs⟩:=gnX (opC o'.1);have hl:vs.length=23:=by rw[← hvs,Qi]
 have h1:(opC o.1).drop (0+vs.length)=[]:=List.drop_eq_nil_of_le (by rw[Qi];omega);have h2:=h.set (z:=z) (f:=0) (o:=o) (o':=o') (vs:=vs) hz (by omega) (by rw[h1,Z7,Zo,Zis];exact hvs) hn;rw[Zko]at h2;rw[hvs];exact h2
theorem Zyb(o:OpS):(opC o.1).toArray.all (·.oneCell')=true:=by
 have h:=Zya [o];have e:Zqb [o]=opC o.1:=by show opC o.1++[]=_;simp
 rw[e]at h;simpa using h
def Zls(o:Opn):Prop:=I64 o.cl∧I64 o.dec∧-9223372036854775808≤o.res.tick∧KS o.ns
def In(os:List OpS):Prop:=os.length≤4096∧∀ o∈os,Zls o.1
theorem Id.fitO{o:Opn}(h:Id o):Zls o:=by
 obtain⟨h1,h2,h3,h4,h5,h6⟩:=h;exact⟨by unfold I64;omega,by unfold I64;omega,by omega,h5⟩
theorem In.set{os:List OpS}(h:In os)(z:Nat){o:OpS}(ho:Zls o.1):In (os.set z o):=by
 refine⟨by rw[Zf];exact h.1,fun q hq=>?_⟩;rcases Zkm hq with h1|rfl
 ·exact h.2 q h1
 exact ho
theorem In.cut{os:List OpS}(h:In os)(k:Nat):In (os.take k++os.drop (k+1)):=by
 refine⟨by rw[Zs,Zp,Z8];have:=h.1;omega,fun q hq=>?_⟩;rcases Zj.1 hq with h1|h1
 ·exact h.2 q (Zif h1)
 exact h.2 q (Zjl h1)
theorem Zy7{S:Nat→Prop}(cl cp:Int)(v:Value)(os:List Opn)(w:World)(ho:Vk w S v os) :
 Calls Tryz.prog 57 #[.agg #[.int .i64 cl,.int .i64 cp],v] w fun e w'=>e=.returned (.tuple #[.int .i64 (Vo cl cp os).1,.int .i64 (Vo cl cp os).2])∧Ext w w':=by
 obtain⟨A,C,rfl⟩:=ho.shape;have X0:=Ya ((Yn w).alloc (.cells #[.int .i64 cl,.int .i64 cp] 37));have F0:=Ya (Xs.new w #[.int .i64 cl,.int .i64 cp] 37);obtain⟨n,hnn⟩:=gnX (os.length);have Hnn:=Ya hnn;have Ho:=Ya ho;rw[hnn];clear ho hnn;rcases Ft cl cp with hc|hc
 ·have HR:=Ya (show Vo cl cp os=(0,3) by unfold Vo;rw[hc];rfl);go_enter Tryz.func57,Tryz.ntmps57;go_wp2_with fail;refine(Qe cl cp _).mono ?_;rintro x w1 ⟨rfl,hx1⟩;rw[hc];have Hx1:=Ya (X0.o.trans hx1);clear hx1 hc;go_wp2_with fail;go_ret2;rw[HR.o];exact⟨rfl,Hx1.o⟩
 have Hc:=Ya hc;by_cases hn4:4096<n
 ·have hd4:decide ((4096:Int)<(n:Int))=true:=Yh (by omega);have HR:=Ya (show Vo cl cp os=(0,7) by unfold Vo;rw[Zlk (by omega),Zlg (by rw[Hnn.o];exact hn4)]);go_enter Tryz.func57,Tryz.ntmps57;go_wp2_with fail;refine(Qe cl cp _).mono ?_;rintro x w1 ⟨rfl,hx1⟩;rw[hc];have Hx1:=Ya (X0.o.trans hx1);clear hx1 hc;go_wp2_with fail;go_ret2;rw[HR.o];exact⟨rfl,Hx1.o⟩
 have hd4:decide ((4096:Int)<(n:Int))=false:=Yi (by omega);have Hl4:=Ya (show ¬ 4096<os.length by rw[Hnn.o];exact hn4);go_enter Tryz.func57,Tryz.ntmps57;go_wp2_with fail;refine(Qe cl cp _).mono ?_;rintro x w1 ⟨rfl,hx1⟩;rw[hc];have FB:=Ya (F0.o.ext hx1);have Hx1:=Ya (X0.o.trans hx1);obtain⟨fb,hfb⟩:=gnX (w.heap.size);rw[hfb]at FB;rw[hfb];clear hx1 hc hfb;go_wp2_with fail;go_loopw [18] (fun o wr=>∃ i:Nat,i≤n∧o=.int .i64 (i:Int)∧Ext w1 wr∧∀ j,j<i→Au cl os j=true) (fun o _=>n-(intOf o).toNat);case atStart=>exact⟨0,by omega,rfl,Yn _,fun j hj=>by omega⟩
 obtain⟨i,hi,rfl,hx,hok⟩:=hrel;rename World=>wr
 have Hx:=Ya hx;have Hok:=Ya hok;clear hx hok;by_cases hin:i<n
 ·obtain⟨hd_i,i0_i,i1_i⟩:=LTl i n (by omega);have c0:=(FB.o.ext Hx.o).at_ 0 (by simp);have c1:=(FB.o.ext Hx.o).at_ 1 (by simp);simp only[Zx,Zw]at c0 c1;go_wp2_with fail;refine(Zt8 cl cp _ os i _ (by have:=Ho.o.ext (Hx1.o.trans Hx.o);rwa [Hnn.o]at this) (by rw[Hnn.o];exact hin)).mono ?_;rintro x w3 ⟨rfl,hx3⟩;have Hx3:=Ya (Hx.o.trans hx3);clear hx3 c0 c1;cases hb:Au cl os i with
  | false =>
   have HR:=Ya (Nf Hc.o Hl4.o (by rw[Hnn.o];exact hin) hb Hok.o);go_wp2_with fail;go_ret2;rw[HR.o];exact⟨rfl,Hx1.o.trans Hx3.o⟩
  | true =>
   have Hb:=Ya hb;clear hb;go_wp2_with fail;go_roundw;case rel=>exact⟨i+1,by omega,by go_num,Hx3.o,fun j hj=>by
    by_cases e:j=i
    ·rw[e];exact Hb.o
    exact Hok.o j (by omega)⟩
   (simp[intOf];omega)
 have hd_i:=GEl i n (by omega);have HR:=Ya (Fc Hc.o Hl4.o (fun j hj=>Hok.o j (by rw[Hnn.o]at hj;omega)));go_wp2_with fail;go_ret2;rw[HR.o];exact⟨rfl,Hx1.o.trans Hx.o⟩
theorem Zzh{S:Nat→Prop}(cl cp:Int)(v:Value)(os:List Opn)(w:World)(ho:Vk w S v os)(hf:∀ o∈os,-9223372036854775808≤o.res.tick) :
 Calls Tryz.prog 58 #[.agg #[.int .i64 cl,.int .i64 cp],v] w fun e w'=>e=.returned (.tuple #[.int .i64 (K0 cl cp os).1,.int .i64 (K0 cl cp os).2])∧Ext w w':=by
 obtain⟨A,C,rfl⟩:=ho.shape;have X0:=Ya ((Yn w).alloc (.cells #[.int .i64 cl,.int .i64 cp] 37));have F0:=Ya (Xs.new w #[.int .i64 cl,.int .i64 cp] 37);obtain⟨n,hnn⟩:=gnX (os.length);have Hnn:=Ya hnn;have Ho:=Ya ho;have Hf:=Ya hf;rw[hnn];clear ho hnn hf;obtain⟨⟨ci,ce⟩,hce⟩:∃ p,Vo cl cp os=p:=⟨_,rfl⟩;have Hce:=Ya hce;go_enter Tryz.func58,Tryz.ntmps58;go_wp2_with fail;refine(Zy7 cl cp _ os _ (by have:=Ho.o.ext X0.o;rwa [Hnn.o]at this)).mono ?_;rintro x w1 ⟨rfl,hx1⟩;rw[hce];have FB:=Ya (F0.o.ext hx1);have Hx1:=Ya (X0.o.trans hx1);obtain⟨fb,hfb⟩:=gnX (w.heap.size);rw[hfb]at FB;rw[hfb];clear hx1 hfb hce;by_cases hc0:ce=0
 ·have hcz:(ce !=0)=false:=by simp[hc0]
  have Hok:=Ya (Fb (show(Vo cl cp os).2=0 by rw[Hce.o];exact hc0));have Hc0:=Ya hc0;clear hc0;go_wp2_with fail;refine(Oi _ os _ (by have:=Ho.o.ext Hx1.o;rwa [Hnn.o]at this) (by have:=Hok.o.2;omega)).mono ?_;rintro e w2 ⟨rv,rfl,hrow,hx2⟩;obtain⟨m,hm⟩:=gnX ((Nq os).length);have hm4:(Nq os).length≤4096:=Zlh (P1 os) Hok.o.2;obtain⟨Ar,Cr,rfl⟩:=Vh.shape hrow;have Hrow:=Ya hrow;have Hx2:=Ya (Hx1.o.trans hx2);have c0:=(FB.o.ext hx2).at_ 0 (by simp);have c1:=(FB.o.ext hx2).at_ 1 (by simp);simp only[Zx,Zw]at c0 c1;have Hm4:=Ya hm4;have Hm:=Ya hm;rw[hm];clear hrow hx2 hm4 hm;go_wp2_with fail;refine(Zn1 cl cp _ _ os (Nq os) _ Hok.o.1 (by have:=Ho.o.ext Hx2.o;rwa [Hnn.o]at this) Hf.o (by have:=Hrow.o;rwa [Hm.o]at this) Hm4.o (fun i hi=>⟨os[i]'(Dw ((Dj os).mem i |>.1 hi)),Zz _⟩)).mono ?_;rintro e w3 ⟨hx3,⟨hr,rfl⟩ | ⟨k,i,c,hr,hk,hc,rfl⟩⟩
  ·have HE:=Ya (show K0 cl cp os=(0,0) by
    unfold K0;rw[Hce.o,Zlk (by have:=Hc0.o;simpa using this),hr])
   have Hx3:=Ya (Hx2.o.trans hx3);clear hx3 hr c0 c1;go_wp2_with fail;go_ret2;rw[HE.o];exact⟨rfl,Hx3.o⟩
  have HE:=Ya (show K0 cl cp os=((i:Int),c) by
   unfold K0;rw[Hce.o,Zlk (by have:=Hc0.o;simpa using this),hr])
  have Hx3:=Ya (Hx2.o.trans hx3);obtain⟨gr,pr,cr,hvr,_,hgr,cj⟩:=Zqj (Rd.ext Hrow.o hx3) hk;rw[Hm.o]at hvr;simp only[Yg,Zl2]at hvr;obtain⟨rfl,rfl⟩:=hvr;have hcz2:(c !=0)=true:=by simp[hc]
  have k0:(0:Int)≤(k:Int):=by omega
  have k1:(k:Int)<(m:Int):=by have:=(Zr.1 hk).1;have:=Hm.o;omega
  clear hx3 hr hk hc c0 c1;go_wp2_with fail;go_ret2;rw[HE.o];exact⟨rfl,Hx3.o⟩
 have hcz:(ce !=0)=true:=by simp[hc0]
 have HR:=Ya (show K0 cl cp os=(ci,ce) by unfold K0;rw[Hce.o,Zlg hc0]);clear hc0;go_wp2_with fail;go_ret2;rw[HR.o];exact⟨rfl,Hx1.o⟩
def nmA:Nm:=⟨⟨#[97]⟩,⟨#[97]⟩,⟨#[97]⟩⟩
def Zlt:Rc:=⟨0,0,⟨#[]⟩,0⟩
def exL(nv:Value):List Opn:=[⟨0,1,5,nv,[nmA],⟨0,0,⟨#[]⟩,Zlt,0⟩,0,9,12,⟨24,0,⟨#[97]⟩,Zlt,0⟩⟩,⟨1,1,5,nv,[nmA],⟨0,0,⟨#[]⟩,Zlt,0⟩,1,5,11,⟨0,-1,⟨#[]⟩,Zlt,0⟩⟩]
theorem Zp2(nv:Value):Nq (exL nv)=[1,0]:=by
 refine(Ig.unique ⟨Zkg.2 ⟨fun j hj=>by rw[Zi.1 hj];rfl,List.pairwise_singleton _ _⟩,fun i=>?_⟩ (Dj (exL nv))).symm
 match i with
 | 0=>exact⟨fun _=>rfl,fun _=>by simp⟩
 | 1=>exact⟨fun _=>rfl,fun _=>by simp⟩
 | i+2=>exact⟨fun h=>by simp at h,fun h=>by have h2:Rh (exL nv) (i+2)=false:=rfl;rw[h2]at h;simp at h⟩
theorem Zn4(nv:Value):V1 2 1 (exL nv) 50=([1,0],3,0):=by kernel_rfl
theorem Zn0(nv:Value):(K0 2 1 (exL nv)).2=0:=by
 unfold K0;rw[Zp2]
 kernel_rfl
theorem Cu(w:World):Calls Tryz.prog 55 #[] w fun e w'=>e=.returned (.slice (some ⟨w.heap.size+1,0,none⟩) 2 2)∧w'=(w.alloc (.cells #[.string ⟨#[97]⟩,.string ⟨#[97]⟩,.string ⟨#[97]⟩] 109)).alloc (.cells (Ud (exL (.slice (some ⟨w.heap.size,0,none⟩) 1 1))).toArray 55):=by
 go_enter Tryz.func55,Tryz.ntmps55;go_wp2_with fail;go_ret;exact⟨rfl,rfl⟩
theorem Znk(w:World)(l:List Opn)(t:TypeId)(b:Nat)(hb:w.heap[b]?=some (.cells (Ud l).toArray t))(S:Nat→Prop)(hS:S b)(hl:l.length≤1000)(hn:∀ o∈l,Wb w S o.nv o.ns):Vk w S (.slice (some ⟨b,0,none⟩) l.length l.length) l:=by
 refine⟨⟨Es l,_,_,rfl,Yp _,by unfold maxLen;omega,fun _=>⟨b,0,rfl,hS,(Zlj.1 hb).1,fun j u hu=>?_⟩⟩,hn⟩;simp only[World.cell?,hb];rw[Zl0,← hu];simp
theorem Zno(w:World)(b:Nat)(t:TypeId)(hb:w.heap[b]?=some (.cells #[.string ⟨#[97]⟩,.string ⟨#[97]⟩,.string ⟨#[97]⟩] t))(S:Nat→Prop)(hS:S b):Wb w S (.slice (some ⟨b,0,none⟩) 1 1) [nmA]:=by
 refine⟨rfl,_,_,rfl,Yp _,by unfold maxLen;omega,fun _=>⟨b,0,rfl,hS,(Zlj.1 hb).1,fun j u hu=>?_⟩⟩;simp only[World.cell?,hb];rw[Zl0,← hu];simp[Wl,nmA];rfl
theorem Pl(nv:Value):(∀ o∈exL nv,o.fits)∧Rf (exL nv):=by
 unfold exL Rf;refine⟨fun o ho=>?_,fun o ho n hn=>?_⟩
 ·simp only[Zg,Zh,Zkh]at ho;rcases ho with rfl|rfl<;>exact⟨by unfold I64;simp;done,by unfold I64;simp;done⟩
 simp only[Zg,Zh,Zkh]at ho;rcases ho with rfl|rfl<;>(rw[Zi.1 hn];exact Zlh (show nmA.k.size≤1 from Yp _) (by unfold maxLen;omega))
theorem Zmd(w:World):Vk ((w.alloc (.cells #[.string ⟨#[97]⟩,.string ⟨#[97]⟩,.string ⟨#[97]⟩] 109)).alloc (.cells (Ud (exL (.slice (some ⟨w.heap.size,0,none⟩) 1 1))).toArray 55)) (fun k=>w.heap.size≤k) (.slice (some ⟨w.heap.size+1,0,none⟩) 2 2) (exL (.slice (some ⟨w.heap.size,0,none⟩) 1 1)):=by
 refine Znk _ (exL _) 55 (w.heap.size+1) ?_ _ (Zjd _) (by simp[exL]) (fun o ho=>?_)
 ·have:=Zl8 (w.alloc (.cells #[.string ⟨#[97]⟩,.string ⟨#[97]⟩,.string ⟨#[97]⟩] 109)) (.cells (Ud (exL (.slice (some ⟨w.heap.size,0,none⟩) 1 1))).toArray 55)
  rwa [show(w.alloc (.cells #[.string ⟨#[97]⟩,.string ⟨#[97]⟩,.string ⟨#[97]⟩] 109)).heap.size=w.heap.size+1 by simp]at this
 have hb:((w.alloc (.cells #[.string ⟨#[97]⟩,.string ⟨#[97]⟩,.string ⟨#[97]⟩] 109)).alloc (.cells (Ud (exL (.slice (some ⟨w.heap.size,0,none⟩) 1 1))).toArray 55)).heap[w.heap.size]?=some (.cells #[.string ⟨#[97]⟩,.string ⟨#[97]⟩,.string ⟨#[97]⟩] 109):=by
  rw[Zij _ _ _ (by simp)];exact Zl8 w _
 have:=Zno _ w.heap.size _ hb (fun k=>w.heap.size≤k) (Yp _);simp only[exL,Zg,Zh,Zkh]at ho;rcases ho with rfl|rfl<;>exact this
theorem Rt(va vb:Value)(l:List Nat)(S T:Nat→Prop)(w:World)(ha:Vh w S va l)(hb:Vh w T vb l)(hl:l.length≤1000000) :
 Calls Tryz.prog 26 #[va,vb] w fun e w'=>e=.returned (.bool true)∧Ext w w':=by
 obtain⟨n,hln⟩:=gnX (l.length);have Ha:=Ya ha;have Hb:=Ya hb;have Hln:=Ya hln;obtain⟨_,A,ca,rfl,ha1,ha2,_⟩:=ha;obtain⟨_,B,cb,rfl,hb1,hb2,_⟩:=hb;unfold maxLen at ha2 hb2;rw[hln]at ha1 hb1 hl⊢;clear hln;go_enter Tryz.func26,Tryz.ntmps26;go_wp2_with fail;go_loopw [13] (fun o wr=>∃ i:Nat,i≤n∧o=.int .i64 (i:Int)∧Ext w wr) (fun o _=>n-(intOf o).toNat);case atStart=>exact⟨0,by omega,rfl,Yn _⟩
 obtain⟨i,hi,rfl,hx⟩:=hrel;by_cases hin:i<n
 ·have hd:decide ((i:Int)<(n:Int))=true:=by simpa using hin
  obtain⟨x,hxx⟩:∃ x,l[i]?=some x:=⟨l[i]'(by have:=Hln.o;omega),by simp⟩;obtain⟨ga,oa,c1,e1,_,_,_,hc1⟩:=Vh.get (Ha.o.ext hx) hxx;obtain⟨gb,ob,c2,e2,_,_,_,hc2⟩:=Vh.get (Hb.o.ext hx) hxx;rw[Hln.o]at e1 e2;simp only[Yg]at e1 e2;obtain⟨rfl,_,rfl⟩:=e1;obtain⟨rfl,_,rfl⟩:=e2;obtain⟨_,d1⟩:=hc1;obtain⟨_,d2⟩:=hc2;have i0:(0:Int)≤(i:Int):=by omega
  have i1:(i:Int)<(n:Int):=by omega
  have Hx:=Ya hx;clear hx hxx;go_wp2_with fail;go_quiet (fail);go_wp2_with fail;go_roundw;case rel=>exact⟨i+1,by omega,by go_num,Hx.o.drewN _⟩
  simp[intOf];omega
 have hd:decide ((i:Int)<(n:Int))=false:=by simp;omega
 go_wp2_with fail;go_ret;exact⟨rfl,hx⟩
theorem In.fits{os:List OpS}(h:In os):∀ o∈os.map Subtype.val,o.fits:=fun o ho=>by
 obtain⟨x,hx,rfl⟩:=Zl3.1 ho;exact⟨(h.2 x hx).1,(h.2 x hx).2.1⟩
theorem In.ticks{os:List OpS}(h:In os):∀ o∈os.map Subtype.val,-9223372036854775808≤o.res.tick:=fun o ho=>by
 obtain⟨x,hx,rfl⟩:=Zl3.1 ho;exact(h.2 x hx).2.2.1
theorem In.keys{os:List OpS}(h:In os):Rf (os.map Subtype.val):=fun o ho n hn=>by
 obtain⟨x,hx,rfl⟩:=Zl3.1 ho;have:=(h.2 x hx).2.2.2 n hn;unfold maxLen;omega
theorem E6(cl cp:Int)(v:Value)(os:List Opn)(w:World)(ho:Vk w (fun _=>True) v os)(h1:∀ o∈os,o.fits)(h2:∀ o∈os,-9223372036854775808≤o.res.tick)(h3:Rf os)(h4:os.length≤4096) :
 Calls Tryz.prog 22 #[.agg #[.int .i64 cl,.int .i64 cp],v] w fun e w'=>e=.returned (.bool true)∧Ext w w':=by
 obtain⟨A,C,rfl⟩:=ho.shape;have X0:=Ya ((Yn w).alloc (.cells #[.int .i64 cl,.int .i64 cp] 37));have F0:=Ya (Xs.new w #[.int .i64 cl,.int .i64 cp] 37);have O0:=Ya (ho.ext X0.o);have H1:=Ya h1;have H2:=Ya h2;have H3:=Ya h3;have H4:=Ya h4;obtain⟨n,hn⟩:=gnX (os.length);rw[hn]at O0⊢;clear ho h1 h2 h3 h4 hn;obtain⟨⟨ci,ce⟩,hce⟩:∃ p,Vo cl cp os=p:=⟨_,rfl⟩;obtain⟨⟨ri,re⟩,hre⟩:∃ p,K0 cl cp os=p:=⟨_,rfl⟩;have Hce:=Ya hce;have Hre:=Ya hre;clear hce hre;go_enter Tryz.func22,Tryz.ntmps22;go_wp2_with fail;obtain⟨fb,hfb⟩:=gnX (w.heap.size);obtain⟨W0,hW0⟩:=gnX (w.alloc (.cells #[.int .i64 cl,.int .i64 cp] 37));rw[hfb]at F0;rw[hW0]at F0 X0 O0;rw[hW0];try rw[hfb]
 clear hW0 hfb;have c0:=F0.o.at_ 0 (by simp);have c1:=F0.o.at_ 1 (by simp);simp only[Zx,Zw]at c0 c1;go_wp2_with fail;refine((I1 cl cp _ os _ O0.o H1.o)).mono ?_;rintro e w1 ⟨rfl,hx⟩;rw[Hce.o];have F1:=Ya (F0.o.ext hx);have X1:=Ya (X0.o.trans hx);have O1:=Ya (O0.o.ext hx);clear hx c0 c1;have c0:=F1.o.at_ 0 (by simp);have c1:=F1.o.at_ 1 (by simp);simp only[Zx,Zw]at c0 c1;go_wp2_with fail;refine((Zy7 cl cp _ os _ O1.o)).mono ?_;rintro e w2 ⟨rfl,hx⟩;rw[Hce.o];have F2:=Ya (F1.o.ext hx);have X2:=Ya (X1.o.trans hx);have O2:=Ya (O1.o.ext hx);clear hx c0 c1;have c0:=F2.o.at_ 0 (by simp);have c1:=F2.o.at_ 1 (by simp);simp only[Zx,Zw]at c0 c1;go_wp2_with fail;refine((Ol cl cp _ os _ O2.o H1.o H3.o)).mono ?_;rintro e w3 ⟨rfl,hx⟩;rw[Hre.o];have F3:=Ya (F2.o.ext hx);have X3:=Ya (X2.o.trans hx);have O3:=Ya (O2.o.ext hx);clear hx c0 c1;have c0:=F3.o.at_ 0 (by simp);have c1:=F3.o.at_ 1 (by simp);simp only[Zx,Zw]at c0 c1;go_wp2_with fail;refine((Zzh cl cp _ os _ O3.o H2.o)).mono ?_;rintro e w4 ⟨rfl,hx⟩;rw[Hre.o];have F4:=Ya (F3.o.ext hx);have X4:=Ya (X3.o.trans hx);have O4:=Ya (O3.o.ext hx);clear hx c0 c1;have q1:(ci==ci)=true:=by simp
 have q2:(ce==ce)=true:=by simp
 have q3:(ri==ri)=true:=by simp
 have q4:(re==re)=true:=by simp
 go_wp2_with fail;refine(Lc _ os _ O4.o (by have:=H4.o;omega)).mono ?_;rintro e w5 ⟨v5,rfl,hn5,hx5⟩;have N5:=Ya hn5;have X5:=Ya (X4.o.trans hx5);have O5:=Ya (O4.o.ext hx5);clear hn5 hx5;go_wp2_with fail;refine(Oi _ os _ O5.o (by have:=H4.o;omega)).mono ?_;rintro e w6 ⟨v6,rfl,hn6,hx6⟩;have N6:=Ya hn6;have N5':=Ya (N5.o.ext hx6);have X6:=Ya (X5.o.trans hx6);clear hn6 hx6;go_wp2_with fail;refine(Rt v5 v6 (Nq os) _ _ _ N5'.o N6.o (by have:=P1 os;have:=H4.o;omega)).mono ?_;rintro e w7 ⟨rfl,hx7⟩;have X7:=Ya (X6.o.trans hx7);clear hx7;go_wp2_with fail;go_ret;exact⟨rfl,X7.o⟩
end Go.Proofs.YtnbclgbicnpmnaaGreat
