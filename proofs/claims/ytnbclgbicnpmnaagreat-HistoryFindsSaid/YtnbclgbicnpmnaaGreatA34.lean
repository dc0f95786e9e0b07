/- Lemmas of this claim: Ext. Conditions: as named. -/
import Derived.Test.YtnbclgbicnpmnaaGreatA32
namespace Go.Proofs.YtnbclgbicnpmnaaGreat
open Go.RowKit Go.Sort Tryz
set_option maxHeartbeats 0
set_option maxRecDepth 100000
set_option linter.all false
theorem Rq{S:Nat→Prop}{w w':World}{base:Nat}{e:TypeId}{size:Nat}{v:Value}{n:Nat}{xs:List Value}(h:w.ownsRow base e size v n xs)(c:Chg S w w')(hS:∀ k,base≤k→v.ownBlock=some k→¬ S k):w'.ownsRow base e size v n xs:=by
 have hl:=h.lt;obtain⟨h1,h2 | ⟨g,cap,cur,hv,hb,hg,h3⟩⟩:=h
 ·exact⟨h1,.inl h2⟩
 have hgl:=hl g (by rw[hv];rfl);exact⟨h1,.inr ⟨g,cap,cur,hv,hb,(c.block g hgl.2 (hS g hgl.1 (by rw[hv];rfl))).trans hg,h3⟩⟩
theorem Zso{w:World}{base:Nat}{e:TypeId}{A:Option Addr}{n m C:Nat}{xs:List Value}(h:w.ownsRow base e 1 (.slice A n C) n xs)(hm:m≤n)(hpos:0<n):w.ownsRow base e 1 (.slice A m C) m (xs.take m):=by
 obtain⟨h1,⟨hv,h0⟩ | ⟨g,cap,cur,hv,hb,hg,h3,h4,h5,h6⟩⟩:=h
 ·omega
 simp only[Ye]at hv;obtain⟨rfl,-,rfl⟩:=hv;refine⟨by rw[Zp];omega,.inr ⟨g,C,cur,rfl,hb,hg,by omega,h4,h5,?_⟩⟩;rw[← h6,List.take_take];congr 1;omega
theorem Zmb{w:World}{base:Nat}{e:TypeId}{A:Option Addr}{n C:Nat}{xs:List Value}(h:w.ownsRow base e 1 (.slice A n C) n xs):n≤C:=by
 obtain⟨h1,⟨hv,h0⟩ | ⟨g,cap,cur,hv,hb,hg,h3,h4,h5,h6⟩⟩:=h
 ·omega
 simp only[Ye]at hv;obtain⟨rfl,-,rfl⟩:=hv;omega
structure Qu(w:World)(sb ib ic base:Nat)(cl cp:Int)(vo:Value)(n left:Nat)(brk:Bool)(vl:Value)(ord:List Nat):Prop where
 c0:w.cell? ⟨sb,0,none⟩=some (.int .i64 cl)
 c1:w.cell? ⟨sb,1,none⟩=some (.int .i64 cp)
 c2:w.cell? ⟨sb,2,none⟩=some vo
 c3:w.cell? ⟨sb,3,none⟩=some (.int .i64 (left:Int))
 c4:w.cell? ⟨sb,4,none⟩=some (.bool brk)
 c5:w.cell? ⟨sb,5,none⟩=some (.slice (some ⟨ib,0,none⟩) n ic)
 c6:w.cell? ⟨sb,6,none⟩=some vl
 z3:w.frozen? ⟨sb,3,none⟩=false
 z4:w.frozen? ⟨sb,4,none⟩=false
 z6:w.frozen? ⟨sb,6,none⟩=false
 inn:Zlc w ib n ord
 zin:∀ j,j<n→w.frozen? ⟨ib,j,none⟩=false
 row:w.ownsRow base 3 1 vl ord.length (ord.map Zwb)
 ne:sb≠ib
 bs:sb<base
 bi:ib<base
 bw:base≤w.heap.size
theorem Qu.lt{w:World}{sb ib ic base:Nat}{cl cp:Int}{vo:Value}{n left:Nat}{brk:Bool}{vl:Value}{ord:List Nat}(h:Qu w sb ib ic base cl cp vo n left brk vl ord):sb<w.heap.size:=lt_of_cell h.c0
theorem Qu.ext{w w':World}{sb ib ic base:Nat}{cl cp:Int}{vo:Value}{n left:Nat}{brk:Bool}{vl:Value}{ord:List Nat}(h:Qu w sb ib ic base cl cp vo n left brk vl ord)(x:Ext w w'):Qu w' sb ib ic base cl cp vo n left brk vl ord :=
 ⟨(x.cell (p:=⟨sb,0,none⟩) h.lt).trans h.c0,(x.cell (p:=⟨sb,1,none⟩) h.lt).trans h.c1,(x.cell (p:=⟨sb,2,none⟩) h.lt).trans h.c2,(x.cell (p:=⟨sb,3,none⟩) h.lt).trans h.c3,(x.cell (p:=⟨sb,4,none⟩) h.lt).trans h.c4,(x.cell (p:=⟨sb,5,none⟩) h.lt).trans h.c5,(x.cell (p:=⟨sb,6,none⟩) h.lt).trans h.c6,
   (x.frozen (p:=⟨sb,3,none⟩) h.lt).trans h.z3,(x.frozen (p:=⟨sb,4,none⟩) h.lt).trans h.z4,(x.frozen (p:=⟨sb,6,none⟩) h.lt).trans h.z6,h.inn.ext x,fun j hj=>(x.frozen (p:=⟨ib,j,none⟩) h.inn.1).trans (h.zin j hj),K6 h.row x,h.ne,h.bs,h.bi,Zjw h.bw x.size⟩
theorem Qu.set{w w':World}{sb ib ic base:Nat}{cl cp:Int}{vo:Value}{n left:Nat}{brk:Bool}{vl:Value}{ord:List Nat}(h:Qu w sb ib ic base cl cp vo n left brk vl ord){left':Nat}{brk':Bool}(hc:Chg (· = sb) w w')(hk:∀ k,k≠3→k≠4→w'.cell? ⟨sb,k,none⟩=w.cell? ⟨sb,k,none⟩)(hf:∀ k,w'.frozen? ⟨sb,k,none⟩=w.frozen? ⟨sb,k,none⟩)(h3:w'.cell? ⟨sb,3,none⟩=some (.int .i64 (left':Int)))(h4:w'.cell? ⟨sb,4,none⟩=some (.bool brk')):Qu w' sb ib ic base cl cp vo n left' brk' vl ord :=
 ⟨(hk 0 (by omega) (by omega)).trans h.c0,(hk 1 (by omega) (by omega)).trans h.c1,(hk 2 (by omega) (by omega)).trans h.c2,h3,h4,(hk 5 (by omega) (by omega)).trans h.c5,(hk 6 (by omega) (by omega)).trans h.c6,(hf 3).trans h.z3,(hf 4).trans h.z4,(hf 6).trans h.z6,
   ⟨Zk8 h.inn.1 hc.size,fun j hj=>(hc.cell (p:=⟨ib,j,none⟩) h.inn.1 (fun e=>h.ne e.symm)).trans (h.inn.2 j hj)⟩,fun j hj=>(hc.frozen (p:=⟨ib,j,none⟩) h.inn.1 (fun e=>h.ne e.symm)).trans (h.zin j hj),
   Rq h.row hc (fun k hk _ e=>by have:=h.bs;omega),h.ne,h.bs,h.bi,Zjw h.bw hc.size⟩
theorem Qu.set3{w:World}{sb ib ic base:Nat}{cl cp:Int}{vo:Value}{n left:Nat}{brk:Bool}{vl:Value}{ord:List Nat}(h:Qu w sb ib ic base cl cp vo n left brk vl ord)(left':Nat):Qu (w.setCell ⟨sb,3,none⟩ (.int .i64 (left':Int))) sb ib ic base cl cp vo n left' brk vl ord :=
 h.set ((Chg.refl (· = sb) w).setCell (.inl rfl) _) (fun k h3 _=>Zjb _ _ _ _ (by simp;first|done|omega)) (fun k=>Zj2 _ _ _ _) (Zit _ _ _ h.c3) ((Zjb _ _ _ _ (by simp)).trans h.c4)
theorem Qu.set4{w:World}{sb ib ic base:Nat}{cl cp:Int}{vo:Value}{n left:Nat}{brk:Bool}{vl:Value}{ord:List Nat}(h:Qu w sb ib ic base cl cp vo n left brk vl ord)(brk':Bool):Qu (w.setCell ⟨sb,4,none⟩ (.bool brk')) sb ib ic base cl cp vo n left brk' vl ord :=
 h.set ((Chg.refl (· = sb) w).setCell (.inl rfl) _) (fun k _ h4=>Zjb _ _ _ _ (by simp;first|done|omega)) (fun k=>Zj2 _ _ _ _) ((Zjb _ _ _ _ (by simp)).trans h.c3) (Zit _ _ _ h.c4)
theorem Gv{cl cp:Int}{os:List Opn}{rec:Nat→List Nat→Sx}(hr:∀ left ord,(rec left ord).left≤left∧((rec left ord).found=false→(rec left ord).broken=false→(rec left ord).ord=ord)):∀ (c:List Nat) (left:Nat) (ord:List Nat),(Gw cl cp os rec c left ord).left≤left∧((Gw cl cp os rec c left ord).found=false→(Gw cl cp os rec c left ord).broken=false→(Gw cl cp os rec c left ord).ord=ord)
 | [],left,ord=>⟨Yn _,fun _ _=>rfl⟩
 | i::c,left,ord=>by
  rw[Gw];split
  ·exact Gv hr c left ord
  split
  ·exact⟨Zjn _,fun _ h=>by simp at h⟩
  split
  ·have h:=Gv (cl:=cl) (cp:=cp) (os:=os) hr c (left-1) ord;exact⟨by omega,h.2⟩
  split
  ·have h1:=hr (left-1) (ord++[i]);split
   ·rename_i hq;refine⟨by omega,fun h2 h3=>?_⟩;rw[h2,h3]at hq;simp at hq
   have h:=Gv (cl:=cl) (cp:=cp) (os:=os) hr c (rec (left-1) (ord++[i])).left ord;exact⟨by omega,h.2⟩
  have h:=Gv (cl:=cl) (cp:=cp) (os:=os) hr c (left-1) ord;exact⟨by omega,h.2⟩
theorem Lq{cl cp:Int}{os:List Opn}:∀ (d left:Nat) (ord:List Nat),(Kg cl cp os d left ord).left≤left∧((Kg cl cp os d left ord).found=false→(Kg cl cp os d left ord).broken=false→(Kg cl cp os d left ord).ord=ord)
 | 0,left,ord=>⟨Yn _,fun h=>by simp[Kg]at h⟩
 | d+1,left,ord=>Gv (fun l o=>Lq d l o) _ left ord
theorem Qu.put{w w3:World}{sb ib ic base:Nat}{cl cp:Int}{vo:Value}{n left:Nat}{brk:Bool}{vl:Value}{ord:List Nat}(h:Qu w sb ib ic base cl cp vo n left brk vl ord){k:Nat}{b:Bool}{v':Value}{ord':List Nat}(hk:k<n)(hc:Chg (fun i=>base≤i) w w3)(hown:w3.ownsRow base 3 1 v' ord'.length (ord'.map Zwb))(hcont:∀ j,j<n→ord'.contains j=if j=k then b else ord.contains j) :
 Qu ((w3.setCell ⟨ib,k,none⟩ (.bool b)).setCell ⟨sb,6,none⟩ v') sb ib ic base cl cp vo n left brk v' ord':=by
 have hne:=h.ne;have hbs:=h.bs;have hbi:=h.bi;have hbw:=h.bw;have hs:∀ j,w3.cell? ⟨sb,j,none⟩=w.cell? ⟨sb,j,none⟩:=fun j=>hc.cell (p:=⟨sb,j,none⟩) h.lt (by simp only;omega)
 have hi:∀ j,w3.cell? ⟨ib,j,none⟩=w.cell? ⟨ib,j,none⟩:=fun j=>hc.cell (p:=⟨ib,j,none⟩) h.inn.1 (by simp only;omega)
 have hsf:∀ j,w3.frozen? ⟨sb,j,none⟩=w.frozen? ⟨sb,j,none⟩:=fun j=>hc.frozen (p:=⟨sb,j,none⟩) h.lt (by simp only;omega)
 have hif:∀ j,w3.frozen? ⟨ib,j,none⟩=w.frozen? ⟨ib,j,none⟩:=fun j=>hc.frozen (p:=⟨ib,j,none⟩) h.inn.1 (by simp only;omega)
 obtain⟨w4,hw4⟩:=gnX (w3.setCell ⟨ib,k,none⟩ (.bool b));have hs4:∀ j,w4.cell? ⟨sb,j,none⟩=w.cell? ⟨sb,j,none⟩:=fun j=>by rw[← hw4];exact(Zjb _ _ _ _ (by simp;first|done|omega)).trans (hs j)
 have hi4:∀ j,j≠k→w4.cell? ⟨ib,j,none⟩=w.cell? ⟨ib,j,none⟩:=fun j hj=>by rw[← hw4];exact(Zjb _ _ _ _ (by simp;first|done|omega)).trans (hi j)
 have hik:w4.cell? ⟨ib,k,none⟩=some (.bool b):=by rw[← hw4];exact Zit _ _ _ ((hi k).trans (h.inn.2 k hk))
 have hf4:∀ p,w4.frozen? p=w3.frozen? p:=fun p=>by rw[← hw4];exact Zj2 _ _ _ _
 have hz4:w4.heap.size=w3.heap.size:=by rw[← hw4];simp[World.setCell]
 have hc4:Chg (· = ib) w3 w4:=by rw[← hw4];exact(Chg.refl (· = ib) w3).setCell (.inl rfl) _
 rw[hw4];have hc5:Chg (· = sb) w4 (w4.setCell ⟨sb,6,none⟩ v'):=(Chg.refl (· = sb) w4).setCell (.inl rfl) _;have hs5:∀ j,j≠6→(w4.setCell ⟨sb,6,none⟩ v').cell? ⟨sb,j,none⟩=w.cell? ⟨sb,j,none⟩:=fun j hj=>(Zjb _ _ _ _ (by simp;first|done|omega)).trans (hs4 j)
 have hi5:∀ j,(w4.setCell ⟨sb,6,none⟩ v').cell? ⟨ib,j,none⟩=w4.cell? ⟨ib,j,none⟩:=fun j=>Zjb _ _ _ _ (by simp;first|done|omega)
 have hf5:∀ p,(w4.setCell ⟨sb,6,none⟩ v').frozen? p=w3.frozen? p:=fun p=>(Zj2 _ _ _ _).trans (hf4 p)
 have hz:w.heap.size≤(w4.setCell ⟨sb,6,none⟩ v').heap.size:=by have:=hc.size;simp[World.setCell];omega
 refine⟨(hs5 0 (by omega)).trans h.c0,(hs5 1 (by omega)).trans h.c1,(hs5 2 (by omega)).trans h.c2,(hs5 3 (by omega)).trans h.c3,(hs5 4 (by omega)).trans h.c4,(hs5 5 (by omega)).trans h.c5,Zit _ _ _ ((hs4 6).trans h.c6),
  (hf5 _).trans ((hsf 3).trans h.z3),(hf5 _).trans ((hsf 4).trans h.z4),(hf5 _).trans ((hsf 6).trans h.z6),⟨Zk8 h.inn.1 hz,fun j hj=>?_⟩,fun j hj=>(hf5 _).trans ((hif j).trans (h.zin j hj)),
  Rq (Rq hown hc4 (fun i hi _ e=>by omega)) hc5 (fun i hi _ e=>by omega),hne,hbs,hbi,Zjw hbw hz⟩
 rw[hi5 j,hcont j hj];by_cases hjk:j=k
 ·rw[Zjx hjk,hjk];exact hik
 rw[Zk9 hjk];exact(hi4 j hjk).trans (h.inn.2 j hj)
def Znm(sb ib ic base:Nat)(cl cp:Int)(vo:Value)(os:List Opn)(r:Sx)(w:World)(e:Ending)(w':World):Prop :=
 e=.returned (.bool r.found)∧(∃ vl,Qu w' sb ib ic base cl cp vo os.length r.left r.broken vl r.ord)∧Chg (fun k=>k=sb∨k=ib∨base≤k) w w'
theorem Zwu(sb ib ic base:Nat)(cl cp:Int)(vo:Value)(os:List Opn)(hc:V7 cl cp=0)(hk:Sz os)(hlen:os.length≤4096)(hic:os.length≤ic)(hic2:ic≤maxLen) :
 ∀ (d left:Nat) (ord:List Nat) (vl:Value) (w:World),ord.length+d=os.length→left≤2000000→(∀ i∈ord,∃ o,os[i]?=some o)→Qu w sb ib ic base cl cp vo os.length left false vl ord→V6 w (fun k=>k<base∧k≠sb∧k≠ib) vo os →
 Calls prog 61 #[.pointer (some ⟨sb,0,none⟩)] w (Znm sb ib ic base cl cp vo os (Kg cl cp os d left ord) w):=by
 intro d
 induction d with
 | zero =>
  intro left ord vl w hd hl hm h ho;obtain⟨A,C,rfl⟩:=ho.shape;obtain⟨A2,C2,hvl⟩:=Xb h.row;subst hvl;have c2:=h.c2;have c6:=h.c6;have hd':ord.length=os.length:=by omega
  have H:=Y4 h;have q:((ord.length:Int)==(os.length:Int))=true:=by simp;omega
  clear h ho hd hd';go_enter func61,ntmps61;go_wp2_with fail;go_region;go_wp2_with fail;go_ret;exact⟨rfl,⟨_,H.o.ext (Yl _).drew⟩,(Chg.refl _ w).drew⟩
 | succ d ih =>
  intro left ord vl w hd hl hm h ho;obtain⟨A,C,rfl⟩:=ho.shape;obtain⟨A2,C2,hvl⟩:=Xb h.row;subst hvl;have c2:=h.c2;have c6:=h.c6;have H:=Y4 h;have Ho:=Y4 ho;have IH:=Y4 ih;have Hm:=Y4 hm;have q:((ord.length:Int)==(os.length:Int))=false:=by simp;omega
  obtain⟨n,hnn⟩:=gnX (os.length);have Hnn:=Y4 hnn;obtain⟨r0,hr0⟩:=gnX (Kg cl cp os (d+1) left ord);have HR:=Y4 (show Gw cl cp os (Kg cl cp os d) (List.range n) left ord=r0 by rw[← hr0,← hnn];rfl);rw[hr0];rw[hnn]at hd hlen hic c2 q;clear h ho ih hm hnn hr0;go_enter func61,ntmps61;go_wp2_with fail;go_region;go_wp2_with fail;go_loopw [20] (fun o wr=>∃ (k lf:Nat) (vx:Value),k≤n∧lf≤2000000∧o=.int .i64 (k:Int)∧Qu wr sb ib ic base cl cp (.slice A n C) n lf false vx ord∧Gw cl cp os (Kg cl cp os d) ((List.range n).drop k) lf ord=r0∧Chg (fun k=>k=sb∨k=ib∨base≤k) w wr) (fun o _=>n-(intOf o).toNat);case atStart=>exact⟨0,left,_,by omega,hl,rfl,by have:=H.o.ext (Yl w).drew;rwa [Hnn.o]at this,HR.o,(Chg.refl _ w).drew⟩
  obtain⟨k,lf,vx,hkn,hlf,rfl,hs,htr,hch⟩:=hrel;have Hs:=Y4 hs;have Htr:=Y4 htr;have Hch:=Y4 hch;have c2:=hs.c2;have c3:=hs.c3;have c4:=hs.c4;have c5:=hs.c5;have z3:=hs.z3;have z4:=hs.z4;have hsl:=hs.lt;have hne:=hs.ne;clear hs htr hch c6;by_cases hkl:k<n
  ·have hdk:decide ((k:Int)<(n:Int))=true:=by simp;omega
   have hdrop:(List.range n).drop k=k::(List.range n).drop (k+1):=K2 (by simp[hkl]);have Hdrop:=Y4 hdrop;have kin:=Hs.o.inn.2 k hkl;have q1:(0:Int)≤(k:Int):=by omega
   have q2:(k:Int)<(n:Int):=by omega
   clear hdrop;cases hcn:ord.contains k with
   | true =>
    rw[hcn]at kin;have HT:=Y4 (Htr.o);go_wp2_with fail;go_roundw;case rel=>exact⟨k+1,lf,vx,by omega,hlf,by go_num,Hs.o,by rw[← HT.o,Hdrop.o,Zrk hcn],Hch.o⟩
    simp[intOf];omega
   | false =>
    rw[hcn]at kin;cases lf with
    | zero =>
     have hz0:(((0:Nat):Int)==0)=true:=rfl;have HT:=Y4 (show r0=⟨false,true,0,ord⟩ by rw[← Htr.o,Hdrop.o,Zvh hcn]);go_wp2_with fail;go_ret;rw[HT.o];refine⟨rfl,⟨vx,?_⟩,Hch.o.setCell (.inl (.inl rfl)) _⟩;have:=Hs.o.set4 true
     rwa [Hnn.o]
    | succ lf =>
     have hz0:(((lf+1:Nat):Int)==0)=false:=by simp;omega
     go_upto_region 11 with fail;have hs1:=Hs.o.set3 lf;obtain⟨w1,hw1⟩:=gnX (wr.setCell ⟨sb,3,none⟩ (.int .i64 (lf:Int)));have hc1:Chg (fun k=>k=sb∨k=ib∨base≤k) w w1:=by rw[← hw1];exact Hch.o.setCell (.inl (.inl rfl)) _
     rw[hw1]at hs1⊢;have Hs1:=Y4 hs1;have Hc1:=Y4 hc1;have hos1:V6 w1 (fun k=>k<base∧k≠sb∧k≠ib) (.slice A os.length C) os:=Ho.o.chg hc1 (fun k hk e=>by omega);have HE:=Y4 (Zu6 sb ib (.slice A os.length C) os ord k ic w1 (by have:=hs1.c2;rwa [← Hnn.o]at this) (by have:=hs1.c5;rwa [← Hnn.o]at this) hos1 (by have:=hs1.inn;rwa [← Hnn.o]at this) (by rw[Hnn.o];exact hkl) (by rw[Hnn.o];exact hlen) (by rw[Hnn.o];exact hic) hic2);clear hs1 hc1 hw1 hos1 c2 c3 c4 c5 z3 z4 hsl kin;go_wp2_with fail;refine Zhx HE.o ?_;rintro x w2 ⟨rfl,hx2⟩;have Hs2:=Y4 (Hs1.o.ext hx2);have Hc2:=Y4 (Hc1.o.trans (hx2.chg _));clear hx2 HE Hs1 Hc1;cases hea:Ja os ord k with
     | true =>
      go_wp2_with fail;go_roundw;case rel=>exact⟨k+1,lf,vx,by omega,by omega,by go_num,Hs2.o,by rw[← Htr.o,Hdrop.o,Pk hcn hea],Hc2.o⟩
      simp[intOf];omega
     | false =>
      have c5:=Hs2.o.c5;have c6:=Hs2.o.c6;have z6:=Hs2.o.z6;have kin:=Hs2.o.inn.2 k hkl;have zin:=Hs2.o.zin k hkl;have hrow:=Hs2.o.row;have hsl:=Hs2.o.lt;have hil:=Hs2.o.inn.1;obtain⟨A3,C3,hv3⟩:=Xb hrow;subst hv3;go_upto_region 12 with fail;refine Gu (S:=fun w'=>w'.cell? ⟨sb,5,none⟩=some (.slice (some ⟨ib,0,none⟩) n ic)∧w'.cell? ⟨sb,6,none⟩=some (.slice A3 ord.length C3)) 17 17 (by rfl) (by decide) (by kernel_rfl) (by kernel_rfl) ?_ (fun hHeld=>?_)
      ·exact⟨by go_simp,by go_simp⟩
      refine Xv [0,1,2,3,4,5,6,7,8,9,10] 6 (by rfl) (by kernel_rfl) (by kernel_rfl) (fun _ _ d _ _ h=>by cases d<;>exact h) (by assumption) ?_;simp only[Z3,Z4,Z5,Zw,Zx];repeat(refine Xu (v:=?_) (by kernel_rfl) ?_ ?_;rotate_left;(focus((intro w hSw;(try dsimp only at hSw);go_simp);(first|done|(with_reducible rfl))));(try simp only[Act.put]);(try simp only[Zv]))
      refine Xs ?_;refine Zjv (rs:=[11]) (by kernel_rfl) (by simp) ?_;refine Yr (o:=_) rfl (fun K hK=>?_) Yq;go_simp;have hX:=((Yl w2).alloc (.cells #[.int .i64 (k:Int)] 3)).drew;have Hs3:=Y4 (Hs2.o.ext hX);have Hc3:=Y4 (Hc2.o.trans (hX.chg _));have hrl:Rd (w2.alloc (.cells #[.int .i64 (k:Int)] 3)).drew (fun _=>True) 1 (.slice (some ⟨w2.heap.size,0,none⟩) 1 1) 1 [.int .i64 (k:Int)]:=(Qr w2 #[.int .i64 (k:Int)] 3 1 (by rfl)).drew;have Hrl:=Y4 hrl;have c5:=Hs3.o.c5;have c6:=Hs3.o.c6;refine hK.out _ _ ⟨c5,c6⟩ (fun hHeld=>?_);clear hK K hX hrl c5 c6 z6 kin zin hrow hsl hil Hs2 Hc2;try simp only[Act.put,Zv,Zu,Zt]
      refine Zjv (rs:=[12]) (by kernel_rfl) (by simp) ?_;refine Yr (o:=_) rfl (fun K hK=>?_) Yq;obtain⟨i0,hi,hz0,hz1,hz2⟩:=Zju Tx;refine Kt _ (by rfl) (.tmp 57) (.tmp 59) 22 (by rfl) base 3 i0 _ 1 8 Ij hi hz0 hz1 hz2 (by rfl) (by decide) (.slice A3 ord.length C3) ord.length (ord.map Zwb) (by rfl) Hs3.o.row (fun _=>True) (.slice (some ⟨w2.heap.size,0,none⟩) 1 1) 1 [.int .i64 (k:Int)] (by rfl) Hrl.o (by simp[Value.oneCell']) (by unfold maxLen;omega) (by omega) Hs3.o.bw ?_;intro v' w3 ha;obtain⟨a2,c2,rfl⟩:=Xb ha.own;have hcg:Chg (fun i=>base≤i) (w2.alloc (.cells #[.int .i64 (k:Int)] 3)).drew w3:=(Chg.refl _ _).grown ha.grown (fun i hi=>.inl (Hs3.o.row.lt i hi).1);have c5:=(hcg.cell (p:=⟨sb,5,none⟩) Hs3.o.lt (by have:=Hs3.o.bs;simp only;omega)).trans Hs3.o.c5;have c6:=(hcg.cell (p:=⟨sb,6,none⟩) Hs3.o.lt (by have:=Hs3.o.bs;simp only;omega)).trans Hs3.o.c6;have z6:=(hcg.frozen (p:=⟨sb,6,none⟩) Hs3.o.lt (by have:=Hs3.o.bs;simp only;omega)).trans Hs3.o.z6;have kin:=(hcg.cell (p:=⟨ib,k,none⟩) Hs3.o.inn.1 (by have:=Hs3.o.bi;simp only;omega)).trans (Hs3.o.inn.2 k hkl);have zin:=(hcg.frozen (p:=⟨ib,k,none⟩) Hs3.o.inn.1 (by have:=Hs3.o.bi;simp only;omega)).trans (Hs3.o.zin k hkl);have Hcg:=Y4 hcg;have Hown:=Y4 (show w3.ownsRow base 3 1 (.slice a2 (ord.length+1) c2) (ord++[k]).length ((ord++[k]).map Zwb) by rw[Zs,Yy];exact ha.own);clear ha hcg hi hz0 hz1 hz2 Hrl;go_simp;refine hK.out _ _ ⟨c5,c6⟩ (fun hHeld=>?_);clear hK K;try simp only[Act.put,Zv,Zu,Zt]
      refine Zih (i:=13) (oi:=_) (v:=?_) rfl (by kernel_rfl) (by kernel_rfl) (by kernel_rfl) (fun _ _ _ h=>h) (Or.inl ⟨by rfl,?_⟩) (by assumption) ?_;rotate_left;(focus((intro w hSw;(try dsimp only at hSw);go_simp);(first|done|(with_reducible rfl))));(try simp only[Act.put]);(try simp only[Zv]);refine Zjv (rs:=[14]) (by kernel_rfl) (by simp) ?_;refine Yr (o:=_) rfl (fun K hK=>?_) Yq;go_simp;refine hK.out _ _ ⟨by go_simp,by go_simp⟩ (fun hHeld=>?_);clear hK K;(try simp only[Act.put]);(try simp only[Zv])
      refine Xv [15,16] 0 (by rfl) (by kernel_rfl) (by kernel_rfl) (fun _ _ d _ _ h=>by cases d<;>exact h) (by assumption) ?_;simp only[Z3,Z4,Z5,Zw,Zx];repeat(refine Xu (v:=?_) (by kernel_rfl) ?_ ?_;rotate_left;(focus((intro w hSw;(try dsimp only at hSw);go_simp);(first|done|(with_reducible rfl))));(try simp only[Act.put]);(try simp only[Zv]))
      refine Xs ?_;refine Zjf (by kernel_rfl) ?_ _;refine Ss (o:=_) rfl (by rfl) ?_;go_simp;have hp4:=Hs3.o.put (k:=k) (b:=true) (ord':=ord++[k]) hkl Hcg.o Hown.o (fun j _=>by by_cases h:j=k<;>simp[h]);obtain⟨w4,hw4⟩:=gnX ((w3.setCell ⟨ib,k,none⟩ (.bool true)).setCell ⟨sb,6,none⟩ (.slice a2 (ord.length+1) c2));have hc4:Chg (fun k=>k=sb∨k=ib∨base≤k) w w4:=by rw[← hw4];exact((Hc3.o.trans (Hcg.o.mono fun i _ h=>.inr (.inr h))).setCell (.inl (.inr (.inl rfl))) _).setCell (.inl (.inl rfl)) _
      rw[hw4]at hp4⊢;have hm4:∀ i∈ord++[k],∃ o,os[i]?=some o:=fun i hi=>by
       rcases Zj.1 hi with hi|hi
       ·exact Hm.o i hi
       rw[Zi.1 hi];exact⟨os[k]'(by rw[Hnn.o];exact hkl),Zz _⟩
      have hos4:V6 w4 (fun k=>k<base∧k≠sb∧k≠ib) (.slice A os.length C) os:=Ho.o.chg hc4 (fun k hk e=>by omega);have HE:=Y4 (Sc (T:=fun _=>True) sb cl cp (.slice A os.length C) _ os (ord++[k]) w4 hc hp4.c0 hp4.c1 (by have:=hp4.c2;rwa [← Hnn.o]at this) hp4.c6 hos4 hk (Rd.of_own hp4.row (fun _ _=>trivial)) (by rw[Zs];simp only[Zj3];omega) hm4);have Hs4:=Y4 hp4;have Hc4:=Y4 hc4;have Hm4:=Y4 hm4;clear hp4 hc4 hos4 hm4 hw4 c5 c6 z6 kin zin Hs3 Hc3 Hcg Hown hHeld;go_upto_region 13 with fail;try go_frame
      go_cut [69] (fun v wx=>∃ (f br:Bool) (lg:Nat) (vy:Value) (ord':List Nat),v=.bool f∧Qu wx sb ib ic base cl cp (.slice A n C) n lg br vy ord'∧Chg (fun k=>k=sb∨k=ib∨base≤k) w wx∧lg≤2000000∧(((f=true∨br=true)∧r0=⟨f,br,lg,ord'⟩)∨(f=false∧br=false∧ord'=ord++[k]∧Gw cl cp os (Kg cl cp os d) ((List.range n).drop (k+1)) lg ord=r0)));case first =>
       go_wp2_with fail;refine Zhx HE.o ?_;rintro x w5 ⟨rfl,hx5⟩;have Hs5:=Y4 (Hs4.o.ext hx5);have Hc5:=Y4 (Hc4.o.trans (hx5.chg _));clear hx5 HE Hs4 Hc4;obtain⟨e,he⟩:=gnX (Bu cl cp os (ord++[k]));rw[show(Aa cl cp os (ord++[k]) ([],0,true)).isNone=e from he];cases e with
       | false =>
        have HT:=Y4 (show Gw cl cp os (Kg cl cp os d) ((List.range n).drop (k+1)) lf ord=r0 by rw[← Htr.o,Hdrop.o,Zxl hcn hea he]);clear he;go_wp2_with fail;go_meet;exact⟨false,false,lf,_,ord++[k],rfl,Hs5.o,Hc5.o,by omega,.inr ⟨rfl,rfl,rfl,HT.o⟩⟩
       | true =>
        have Hex:=Y4 he;clear he;go_wp2_with fail;refine Zhx (IH.o lf (ord++[k]) _ w5 (by rw[Zs,Hnn.o];simp only[Zj3];omega) (by omega) Hm4.o (by rw[Hnn.o];exact Hs5.o) (Ho.o.chg Hc5.o (fun k hk e=>by omega))) ?_;rintro x w6 ⟨rfl,⟨vx6,hs6⟩,hc6⟩;rw[Hnn.o]at hs6;have hre:=Lq (cl:=cl) (cp:=cp) (os:=os) d lf (ord++[k]);have HD:Y0 ((((Kg cl cp os d lf (ord++[k])).found=true∨(Kg cl cp os d lf (ord++[k])).broken=true)∧r0=⟨(Kg cl cp os d lf (ord++[k])).found,(Kg cl cp os d lf (ord++[k])).broken,(Kg cl cp os d lf (ord++[k])).left,(Kg cl cp os d lf (ord++[k])).ord⟩)∨((Kg cl cp os d lf (ord++[k])).found=false∧(Kg cl cp os d lf (ord++[k])).broken=false∧(Kg cl cp os d lf (ord++[k])).ord=ord++[k]∧Gw cl cp os (Kg cl cp os d) ((List.range n).drop (k+1)) (Kg cl cp os d lf (ord++[k])).left ord=r0)):=by
         refine Y4 ?_;by_cases hfb:(Kg cl cp os d lf (ord++[k])).found=true∨(Kg cl cp os d lf (ord++[k])).broken=true
         ·exact .inl ⟨hfb,by rw[← Htr.o,Hdrop.o,Zxm hcn hea Hex.o hfb]⟩
         simp only[not_or,Zg9]at hfb;exact .inr ⟨hfb.1,hfb.2,hre.2 hfb.1 hfb.2,by rw[← Htr.o,Hdrop.o,Il hcn hea Hex.o hfb.1 hfb.2]⟩
        obtain⟨r,hr⟩:=gnX (Kg cl cp os d lf (ord++[k]));rw[hr]at hs6 hre HD⊢;have Hs6:=Y4 hs6;have Hc6:=Y4 (Hc5.o.trans hc6);have Hle:=Y4 (show r.left≤2000000 by have:=hre.1;omega);clear hs6 hc6 hre hr Hs5 Hc5;go_wp2_with fail;go_meet;exact⟨r.found,r.broken,r.left,vx6,r.ord,rfl,Hs6.o,Hc6.o,Hle.o,HD.o⟩
      obtain⟨f,br,lg,vy,ord',rfl,hs,hch,hlg,hd5⟩:=hcut;have Hsy:=Y4 hs;have Hcy:=Y4 hch;clear hs hch HE Hs4 Hc4;cases f with
      | true =>
       have HT:=Y4 (show r0=⟨true,br,lg,ord'⟩ by rcases hd5 with⟨_,h⟩ | ⟨h,_⟩;exact h;simp at h);clear hd5;go_wp2_with fail;go_ret;rw[HT.o];refine⟨rfl,⟨vy,?_⟩,Hcy.o⟩;have:=Hsy.o
       rwa [Hnn.o]
      | false =>
       have c4:=Hsy.o.c4;cases br with
       | true =>
        have HT:=Y4 (show r0=⟨false,true,lg,ord'⟩ by rcases hd5 with⟨_,h⟩ | ⟨_,h,_⟩;exact h;simp at h);clear hd5;go_wp2_with fail;go_ret;rw[HT.o];refine⟨rfl,⟨vy,?_⟩,Hcy.o⟩;have:=Hsy.o
        rwa [Hnn.o]
       | false =>
        obtain⟨rfl,htr⟩:ord'=ord++[k]∧Gw cl cp os (Kg cl cp os d) ((List.range n).drop (k+1)) lg ord=r0:=by
         rcases hd5 with⟨h|h,_⟩ | ⟨_,_,h1,h2⟩
         ·simp at h
         ·simp at h
         exact⟨h1,h2⟩
        have HT:=Y4 htr;clear hd5 htr;have hrow:=Hsy.o.row;rw[Zs,show[k].length=1 from rfl]at hrow;obtain⟨a4,k4,hv4⟩:=Xb hrow;subst hv4;have hcp:=Zmb hrow;have hot:wc.drew.ownsRow base 3 1 (.slice a4 ord.length k4) ord.length (ord.map Zwb):=by
         have:=Zso (m:=ord.length) hrow (by omega) (by omega);rw[← List.map_take,List.take_left]at this;exact K6 this (Yl _).drew
        have Hot:=Y4 hot;have hwr:IntKind.i64.wrap (ord.length:Int)=(ord.length:Int):=Yp _ (by omega);clear hot;have c5:=Hsy.o.c5;have c6:=Hsy.o.c6;have z6:=Hsy.o.z6;have kin:=Hsy.o.inn.2 k hkl;have zin:=Hsy.o.zin k hkl;go_upto_region 17 with fail;refine Gu (S:=fun w'=>w'.cell? ⟨sb,5,none⟩=some (.slice (some ⟨ib,0,none⟩) n ic)∧w'.cell? ⟨sb,6,none⟩=some (.slice a4 (ord.length+1) k4)) 21 21 (by rfl) (by decide) (by kernel_rfl) (by kernel_rfl) ?_ (fun hHeld=>?_)
        ·exact⟨by go_simp,by go_simp⟩
        refine Xv [0,1,2,3,4,5,6,7,8,9,10,11,12,13,14] 6 (by rfl) (by kernel_rfl) (by kernel_rfl) (fun _ _ d _ _ h=>by cases d<;>exact h) (by assumption) ?_;simp only[Z3,Z4,Z5,Zw,Zx];repeat(refine Xu (v:=?_) (by kernel_rfl) ?_ ?_;rotate_left;(focus((intro w hSw;(try dsimp only at hSw);go_simp);(first|done|(with_reducible rfl))));(try simp only[Act.put]);(try simp only[Zv]))
        refine Xs ?_;refine Zih (i:=15) (oi:=_) (v:=.int .i64 (ord.length:Int)) rfl (by kernel_rfl) (by kernel_rfl) (by kernel_rfl) (fun _ _ _ h=>h) (Or.inl ⟨by rfl,?_⟩) (by assumption) ?_
        ·intro w hSw;go_simp
        (try simp only[Act.put]);(try simp only[Zv])
        refine Zih (i:=16) (oi:=_) (v:=.slice a4 ord.length k4) rfl (by kernel_rfl) (by kernel_rfl) (by kernel_rfl) (fun _ _ _ h=>h) (Or.inl ⟨by rfl,?_⟩) (by assumption) ?_
        ·intro w hSw;go_simp;intro h;omega
        (try simp only[Act.put]);(try simp only[Zv])
        refine Zih (i:=17) (oi:=_) (v:=?_) rfl (by kernel_rfl) (by kernel_rfl) (by kernel_rfl) (fun _ _ _ h=>h) (Or.inl ⟨by rfl,?_⟩) (by assumption) ?_;rotate_left;(focus((intro w hSw;(try dsimp only at hSw);go_simp);(first|done|(with_reducible rfl))));(try simp only[Act.put]);(try simp only[Zv]);refine Zjv (rs:=[18]) (by kernel_rfl) (by simp) ?_;refine Yr (o:=_) rfl (fun K hK=>?_) Yq;go_simp;refine hK.out _ _ ⟨by go_simp,by go_simp⟩ (fun hHeld=>?_);clear hK K;(try simp only[Act.put]);(try simp only[Zv])
        refine Xv [19,20] 0 (by rfl) (by kernel_rfl) (by kernel_rfl) (fun _ _ d _ _ h=>by cases d<;>exact h) (by assumption) ?_;simp only[Z3,Z4,Z5,Zw,Zx];repeat(refine Xu (v:=?_) (by kernel_rfl) ?_ ?_;rotate_left;(focus((intro w hSw;(try dsimp only at hSw);go_simp);(first|done|(with_reducible rfl))));(try simp only[Act.put]);(try simp only[Zv]))
        refine Xs ?_;refine Zjf (by kernel_rfl) ?_ _;refine Ss (o:=_) rfl (by rfl) ?_;go_simp;have hp7:=Hsy.o.put (w3:=wc.drew) (k:=k) (b:=false) (v':=.slice a4 ord.length k4) (ord':=ord) hkl (Chg.refl _ _).drew Hot.o (fun j _=>by
         by_cases h:j=k
         ·rw[Zjx h,h];exact hcn
         rw[Zk9 h];simp[h])
        have Hp7:=Y4 hp7;clear hp7 c4 c5 c6 z6 kin zin hHeld hrow;go_wp2_with fail;go_roundw;case rel=>exact⟨k+1,lg,_,by omega,hlg,by go_num,Hp7.o,HT.o,(Hcy.o.drew.setCell (.inl (.inr (.inl rfl))) _).setCell (.inl (.inl rfl)) _⟩
        simp[intOf];omega
  have hdk:decide ((k:Int)<(n:Int))=false:=by simp;omega
  obtain rfl:k=n:=by omega
  have HT:=Y4 (show r0=⟨false,false,lf,ord⟩ by rw[← Htr.o,Zim (by simp)];rfl);go_wp2_with fail;go_ret;rw[HT.o];refine⟨rfl,⟨vx,?_⟩,Hch.o⟩;have:=Hs.o
  rwa [Hnn.o]
