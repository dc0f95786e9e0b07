/- Lemmas of this claim: HSx. Conditions: as named. -/
import Derived.Test.YtnbclgbicnpmnaaGreatA49
namespace Go.Proofs.YtnbclgbicnpmnaaGreat
open Go.RowKit Go.Sort
set_option maxHeartbeats 0
set_option maxRecDepth 100000
set_option linter.all false
theorem El.use{w:World}{sb base:Nat}{cl cp:Int}{vo:Value}{budget used:Int}{vl:Value}{ord:List Nat}(h:El w sb base cl cp vo budget used vl ord)(u:Int):El (w.setCell ⟨sb,4,none⟩ (.int .i64 u)) sb base cl cp vo budget u vl ord :=
 ⟨h.blk.set (j:=4) (by simp) _,h.row.chg ((Chg.refl (· = sb) w).setCell (p:=⟨sb,4,none⟩) (.inl rfl) _) (fun k hk e=>by have:=(h.row.lt k hk).1;have:=h.bs;omega),h.bs,Zlo h.bw ((Chg.refl (· = sb) w).setCell (p:=⟨sb,4,none⟩) (.inl rfl) (.int .i64 u)).size⟩
theorem El.order{w:World}{sb base:Nat}{cl cp:Int}{vo:Value}{budget used:Int}{vl vl':Value}{ord':List Nat}(hb:Xr w sb [.int .i64 cl,.int .i64 cp,vo,.int .i64 budget,.int .i64 used,vl])(hs:sb<base)(hw:base≤w.heap.size)(hr:Own Zpg w base vl' ord'):El (w.setCell ⟨sb,5,none⟩ vl') sb base cl cp vo budget used vl' ord' :=
 ⟨hb.set (j:=5) (by simp) _,hr.chg ((Chg.refl (· = sb) w).setCell (p:=⟨sb,5,none⟩) (.inl rfl) _) (fun k hk e=>by have:=(hr.lt k hk).1;omega),hs,Zlo hw ((Chg.refl (· = sb) w).setCell (p:=⟨sb,5,none⟩) (.inl rfl) vl').size⟩
def Zpq(sb base:Nat)(cl cp:Int)(vo:Value)(budget:Int)(sx:Sx)(ord:List Nat)(w:World)(e:Ending)(w':World):Prop :=
 ∃ vl':Value,e=.returned (.bool sx.found)∧El w' sb base cl cp vo budget (if sx.broken=true then budget+1 else budget-sx.left) vl' (if sx.found=true then sx.ord else ord)∧Chg (fun k=>k=sb∨base≤k) w w'
theorem Zwt{n i:Nat}(h:i<n):(List.range n).drop i=i::(List.range n).drop (i+1):=by
 rw[Zjw (by simpa using h)];simp
theorem Zt1{S:Nat→Prop}(sb base:Nat)(cl cp:Int)(vo:Value)(budget used:Int)(vl:Value)(os:List Opn)(ord:List Nat)(left:Nat)(w:World)(h:El w sb base cl cp vo budget used vl ord)(ho:Vy w S vo os)(hu:used=budget-left)(hl:ord.length=os.length) :
 Calls Tryz.prog 62 #[.pointer (some ⟨sb,0,none⟩)] w (Zpq sb base cl cp vo budget ⟨true,false,left,ord⟩ ord w):=by
 obtain⟨A,C,rfl⟩:=ho.shape;obtain⟨A2,C2,rfl,_,_⟩:=h.row.shape;obtain⟨n,hn⟩:=gnX (os.length);have s1:=lat (h.c 2 rfl);have s5:=lat (h.c 5 rfl);have H:=Ya h;have Hu:=Ya hu;rw[hn]at s1 H hl⊢;rw[hl]at s5 H;clear h ho hu hn;go_enter Tryz.func62,Tryz.ntmps62;have hun:=Yd;go_upto_region 1 with fail;refine Y0 (by kernel_rfl) (by kernel_rfl) ?_;repeat((with_reducible refine Yw ?_);intro K hK;go_simp;(with_reducible refine hK _ ?_);clear hK K)
 (with_reducible refine Yv ?_)
 intro w9 hy9;clear hun;try simp only[Ye]
 go_wp2_with fail;go_ret;exact⟨_,rfl,by rw[← Hu.o];exact H.o.ext hy9,hy9.chg _⟩
theorem Es(cl cp:Int)(os:List Opn)(rec:Nat→List Nat→Sx)(hr:∀ l o,(rec l o).left≤l):∀ (c:List Nat) (left:Nat) (ord:List Nat),(J9 cl cp os rec c left ord).left≤left
 | [],_,_=>Yp _
 | i::c,left,ord=>by
  rw[J9];split
  ·exact Es cl cp os rec hr c left ord
  split
  ·exact Zlf _
  split
  ·exact Zlo (Es cl cp os rec hr c (left-1) ord) (Zha _ _)
  split
  ·split
   ·exact Zlo (hr _ _) (Zha _ _)
   exact Zlo (Es cl cp os rec hr c _ ord) (Zlo (hr _ _) (Zha _ _))
  exact Zlo (Es cl cp os rec hr c (left-1) ord) (Zha _ _)
theorem Pu(cl cp:Int)(os:List Opn):∀ (d left:Nat) (ord:List Nat),(Qn cl cp os d left ord).left≤left
 | 0,_,_=>Yp _
 | d+1,left,ord=>Es cl cp os _ (fun l o=>Pu cl cp os d l o) _ left ord
theorem Zyh{S:Nat→Prop}(sb base:Nat)(cl cp:Int)(vo:Value)(budget:Int)(os:List Opn)(hc:Vc cl cp=0)(hf:∀ o∈os,-9223372036854775808≤o.res.tick)(h4:os.length≤4096)(hb0:0≤budget)(hb1:budget≤2000000)(hS:∀ k,S k→k<base∧k≠sb) :
 ∀ (d left:Nat) (ord:List Nat) (vl:Value) (used:Int) (w:World),El w sb base cl cp vo budget used vl ord→Vy w S vo os→used=budget-left→(left:Int)≤budget→ord.length+d=os.length→(∀ k∈ord,k<os.length) →
 Calls Tryz.prog 62 #[.pointer (some ⟨sb,0,none⟩)] w (Zpq sb base cl cp vo budget (Qn cl cp os d left ord) ord w)
 | 0,left,ord,vl,used,w,h,ho,hu,_,hl,_=>Zt1 sb base cl cp vo budget used vl os ord left w h ho hu (by omega)
 | d+1,left,ord,vl,used,w,h,ho,hu,hlb,hl,hm=>by
  have IH:=Ya (Zyh sb base cl cp vo budget os hc hf h4 hb0 hb1 hS d);obtain⟨A,C,rfl⟩:=ho.shape;obtain⟨A2,C2,rfl,_,_⟩:=h.row.shape;obtain⟨n,hn⟩:=gnX (os.length);obtain⟨m,hm1⟩:=gnX (ord.length);have s1:=lat (h.c 2 rfl);have s5:=lat (h.c 5 rfl);have H:=Ya h;have Ho:=Ya ho;have Hu:=Ya hu;have Hn:=Ya hn;have HM:=Ya hm;have Hm1:=Ya hm1;have Hc:=Ya hc;have Hf:=Ya hf;have HS:=Ya hS;have hmn:m+(d+1)=n:=by rw[← hm1,← hn];exact hl
  rw[hn]at s1 H Ho h4 IH⊢;rw[hm1]at s5 H;have HX:=Ya (show Qn cl cp os (d+1) left ord=J9 cl cp os (Qn cl cp os d) ((List.range n).drop 0) left ord from by rw[← hn];rfl);have e0:((m:Int)==(n:Int))=false:=by simp;omega
  have e00:(m==n)=false:=by simp;omega
  clear h ho hu hn hm hm1 hc hf hS hl;go_enter Tryz.func62,Tryz.ntmps62;have hun:=Yd;go_upto_region 1 with fail;refine Y0 (by kernel_rfl) (by kernel_rfl) ?_;repeat((with_reducible refine Yw ?_);intro K hK;go_simp;(with_reducible refine hK _ ?_);clear hK K)
  (with_reducible refine Yv ?_)
  intro w9 hy9;clear hun s1 s5;try simp only[Ye]
  have H9:=Ya (H.o.ext hy9);have O9:=Ya (Ho.o.ext hy9);have C9:=Ya (hy9.chg (fun k=>k=sb∨base≤k));have s1:=H9.o.c 2 rfl;clear hy9 H Ho;go_wp2_with fail;go_loopw [20] (fun o wr=>∃ (i left':Nat) (vl:Value),i≤n∧o=.int .i64 (i:Int)∧El wr sb base cl cp (.slice A n C) budget (budget-left') vl ord∧(left':Int)≤budget∧Vy wr S (.slice A n C) os∧Chg (fun k=>k=sb∨base≤k) w wr∧Qn cl cp os (d+1) left ord=J9 cl cp os (Qn cl cp os d) ((List.range n).drop i) left' ord) (fun o _=>n-(intOf o).toNat);case atStart=>exact⟨0,left,_,by omega,rfl,by rw[← Hu.o];exact H9.o,hlb,O9.o,C9.o,HX.o⟩
  clear H9 O9 C9 HX s1;obtain⟨i,lf,vl,hi,rfl,h,hlb,ho,hcg,hx⟩:=hrel;rename World=>wr
  obtain⟨A3,C3,rfl,hlC,hC3⟩:=h.row.shape;rw[Hm1.o]at h hlC;unfold maxLen at hC3;have H:=Ya h;have Ho:=Ya ho;have HC:=Ya hcg;have HX:=Ya hx;clear h ho hcg hx;by_cases hlt:i<n
  ·obtain⟨hd_i,i0_i,i1_i⟩:=LTl i n;have HX2:=Ya (HX.o.trans (by rw[Zwt hlt]));go_wp2_with fail;refine(Fy sb base cl cp _ budget _ _ ord i _ H.o).mono ?_;rintro e w2 ⟨rfl,hx2⟩;have H2:=Ya (H.o.ext hx2);have O2:=Ya (Ho.o.ext hx2);have C2:=Ya (HC.o.trans (hx2.chg _));clear hx2 H Ho HC;cases hcn:ord.contains i with
   | true =>
    have HX3:=Ya (HX2.o.trans (Zsk hcn));clear hcn;go_wp2_with fail;go_roundw;case rel=>exact⟨i+1,lf,_,by omega,by go_num,H2.o,hlb,O2.o,C2.o,HX3.o⟩
    (simp[intOf];omega)
   | false =>
    have Hcn:=Ya hcn;clear hcn;have s4:=H2.o.c 4 rfl;have f4:=H2.o.blk.fz;obtain⟨u,hu⟩:=gnX (budget-(lf:Int)+1);have r1:IntKind.i64.wrap (budget-(lf:Int)+1)=u:=by rw[Yr _ (by omega)];exact hu
    have H3:=Ya (H2.o.use u);have C3':=Ya (C2.o.setCell (p:=⟨sb,4,none⟩) (.inl (.inl rfl)) (.int .i64 u));have O3:=Ya (O2.o.chg ((Chg.refl (· = sb) w2).setCell (p:=⟨sb,4,none⟩) (.inl rfl) (.int .i64 u)) (fun k hk e=>(HS.o k hk).2 e));go_upto_region 8 with fail;obtain⟨w3,hw3⟩:=gnX (w2.setCell ⟨sb,4,none⟩ (.int .i64 u));rw[hw3]at H3 C3' O3;rw[hw3];clear hw3 s4 f4 H2 C2 O2 r1;have l3:=lat (H3.o.c 3 rfl);have l4:=lat (H3.o.c 4 rfl);cases lf with
    | zero =>
     have d1:decide (budget<u)=true:=Yh;have HX3:=Ya (HX2.o.trans (On Hcn.o));have hun:=Yd;refine Y0 (by kernel_rfl) (by kernel_rfl) ?_;repeat((with_reducible refine Yw ?_);intro K hK;go_simp;(with_reducible refine hK _ ?_);clear hK K)
     (with_reducible refine Yv ?_)
     intro w4 hy4;clear hun;try simp only[Ye]
     go_wp2_with fail;go_ret;refine⟨.slice A3 m C3,by rw[HX3.o];rfl,?_,C3'.o.trans (hy4.chg _)⟩;rw[HX3.o];have:=H3.o.ext hy4;rw[← hu]at this;simpa using this
    | succ lf =>
     have d1:decide (budget<u)=false:=Yi;obtain rfl:u=budget-(lf:Int):=by omega
     have hun:=Yd;refine Y0 (by kernel_rfl) (by kernel_rfl) ?_;repeat((with_reducible refine Yw ?_);intro K hK;go_simp;(with_reducible refine hK _ ?_);clear hK K)
     (with_reducible refine Yv ?_)
     intro w4 hy4;clear hun;try simp only[Ye]
     clear hu l3 l4;have H4:=Ya (H3.o.ext hy4);have C4:=Ya (C3'.o.trans (hy4.chg _));have O4:=Ya (O3.o.ext hy4);have s5:=H4.o.c 5 rfl;have f5:=H4.o.blk.fz;clear hy4 H3 C3' O3;have hbs:=H4.o.bs;go_upto_region 11 with(at_builtin;refine Xu Zpg _ _ _ rfl rfl rfl rfl (H4.o.row.ext ((Yn _).alloc _)) rfl (Znx w4 i _ _ rfl) (by rw[Hm1.o];show m+1≤_;omega) (by show 8≤1000;omega) (by have:=H4.o.bw;simp;omega) ?_;intro A5 n5 c5 w5 hg5;have G5:=Ya hg5;have x5:=Ya ((((Yn w4).alloc _).chg (fun k=>base≤k)).trans (hg5.chg.mono fun k _ e=>(H4.o.row.lt k e).1));have B5:=Ya (H4.o.blk.chg x5.o (by omega));have s5:w5.cell? ⟨sb,5,none⟩=some (.slice A3 m C3):=B5.o.at_ 5 (by simp);have f5:=B5.o.fz);have hM:n5=m+1:=by rw[G5.o.len,Zs,Hm1.o];rfl
     have H6:=Ya (El.order B5.o hbs (Zlo H4.o.bw x5.o.size) G5.o.own);have cs:Chg (· = sb) w5 (w5.setCell ⟨sb,5,none⟩ (.slice A5 n5 c5)):=(Chg.refl (· = sb) w5).setCell (p:=⟨sb,5,none⟩) (.inl rfl) _;have C6:=Ya ((C4.o.trans (x5.o.mono fun _ _ e=>.inr e)).trans (cs.mono fun _ _ e=>.inl e));have O6:=Ya ((O4.o.chg x5.o fun k hk e=>by have:=(HS.o k hk).1;omega).chg cs fun k hk e=>(HS.o k hk).2 e);obtain⟨w6,hw6⟩:=gnX (w5.setCell ⟨sb,5,none⟩ (.slice A5 n5 c5));rw[hw6]at H6 C6 O6;rw[hw6];clear hw6 cs s5 f5 H4 C4 O4 G5 x5 B5;go_wp2_with fail;refine(Zt2 (S:=S) sb base cl cp _ budget _ _ os ord i _ H6.o O6.o Hc.o Hf.o (by rw[Hn.o];exact h4) (by rw[Zs,Hm1.o];show m+1≤_;omega) (fun k hk=>by
      rcases Zj.1 hk with h|h
      ·exact HM.o k h
      rw[Zi.1 h,Hn.o];exact hlt)).mono ?_
     rintro e w7 ⟨rfl,hx7⟩;have H7:=Ya (H6.o.ext hx7);have C7:=Ya (C6.o.trans (hx7.chg _));have O7:=Ya (O6.o.ext hx7);clear hx7 H6 C6 O6;have d1:decide (budget<budget-(lf:Int))=false:=Yi;cases he:Qm os ord i with
     | true =>
      have HX3:=Ya (HX2.o.trans (Om Hcn.o he));clear he;go_wp2_with fail;obtain⟨gp,cq,hvp,hgb,hgl,hnc,hcm⟩:=H7.o.row.some_ (by rw[Zs];show 0<_+1;omega);obtain⟨M,hM1⟩:=gnX (m+1);have hlM:(ord++[i]).length=M:=by rw[Zs,Hm1.o];exact hM1
      rw[hlM]at hvp hnc;have l5:=lat (H7.o.c 5 rfl);rw[hvp]at l5;have HV:=Ya hvp;have HlM:=Ya hlM;unfold maxLen at hcm;have p1:IntKind.i64.wrap ((M:Int)-1)=(m:Int):=by rw[Yr _ (by omega)];omega
      have p2:(0:Int)≤(m:Int):=by omega
      have p3:(m:Int)≤(M:Int):=by omega
      have p4:(m:Int)≤(cq:Int):=by omega
      have p5:m≤cq:=by omega
      have p6:m≤M:=by omega
      clear hvp hlM hgb hgl;go_upto_region 13 with fail;refine Xs 14 15 (by kernel_rfl) (by omega) (by kernel_rfl) (by kernel_rfl) (by kernel_rfl) ?_;simp only[Z4,Z5,Z6,Z7];repeat((with_reducible refine Yw ?_);intro K hK;go_simp;(with_reducible refine hK _ ?_);clear hK K)
      (with_reducible refine Yv ?_)
      intro wp hyp;have HP:=Ya (H7.o.ext hyp);have CP:=Ya (C7.o.trans (hyp.chg _));have OP:=Ya (O7.o.ext hyp);have TK:=Ya (show Own Zpg wp base (.slice (some ⟨gp,0,none⟩) m cq) ord from by
       have h1:=HP.o.row;rw[HV.o]at h1;have h2:=h1.takeG (i:=m) (by rw[HlM.o];omega)
       rwa [Zjb Hm1.o]at h2)
      have s5:=HP.o.c 5 rfl;have f5:=HP.o.blk.fz;have HZ:=Ya (El.order HP.o.blk HP.o.bs HP.o.bw TK.o);have cs:Chg (· = sb) wp (wp.setCell ⟨sb,5,none⟩ (.slice (some ⟨gp,0,none⟩) m cq)):=(Chg.refl (· = sb) wp).setCell (p:=⟨sb,5,none⟩) (.inl rfl) _;have CZ:=Ya (CP.o.trans (cs.mono fun _ _ e=>.inl e));have OZ:=Ya (OP.o.chg cs fun k hk e=>(HS.o k hk).2 e);clear hyp l5 cs;go_upto_region 14 with fail;obtain⟨wz,hwz⟩:=gnX (wp.setCell ⟨sb,5,none⟩ (.slice (some ⟨gp,0,none⟩) m cq));rw[hwz]at HZ CZ OZ;rw[hwz];clear hwz s5 f5 HP CP OP TK p1 p2 p3 p4 p5 p6;have l3:=lat (HZ.o.c 3 rfl);have l4:=lat (HZ.o.c 4 rfl);have hun:=Yd;refine Y0 (by kernel_rfl) (by kernel_rfl) ?_;repeat((with_reducible refine Yw ?_);intro K hK;go_simp;(with_reducible refine hK _ ?_);clear hK K)
      (with_reducible refine Yv ?_)
      intro w9 hy9;clear hun;try simp only[Ye]
      replace HZ:=Ya (HZ.o.ext hy9);replace CZ:=Ya (CZ.o.trans (hy9.chg _));replace OZ:=Ya (OZ.o.ext hy9);clear hy9 l3 l4;go_wp2_with fail;go_roundw;case rel=>exact⟨i+1,lf,_,by omega,by go_num,HZ.o,by omega,OZ.o,CZ.o,HX3.o⟩
      (simp[intOf];omega)
     | false =>
      cases hxp:Fi cl cp os (ord++[i])with
      | false =>
       have HX3:=Ya (HX2.o.trans (Zy1 Hcn.o he hxp));clear he hxp;go_wp2_with fail;obtain⟨gp,cq,hvp,hgb,hgl,hnc,hcm⟩:=H7.o.row.some_ (by rw[Zs];show 0<_+1;omega);obtain⟨M,hM1⟩:=gnX (m+1);have hlM:(ord++[i]).length=M:=by rw[Zs,Hm1.o];exact hM1
       rw[hlM]at hvp hnc;have l5:=lat (H7.o.c 5 rfl);rw[hvp]at l5;have HV:=Ya hvp;have HlM:=Ya hlM;unfold maxLen at hcm;have p1:IntKind.i64.wrap ((M:Int)-1)=(m:Int):=by rw[Yr _ (by omega)];omega
       have p2:(0:Int)≤(m:Int):=by omega
       have p3:(m:Int)≤(M:Int):=by omega
       have p4:(m:Int)≤(cq:Int):=by omega
       have p5:m≤cq:=by omega
       have p6:m≤M:=by omega
       clear hvp hlM hgb hgl;go_upto_region 13 with fail;refine Xs 14 15 (by kernel_rfl) (by omega) (by kernel_rfl) (by kernel_rfl) (by kernel_rfl) ?_;simp only[Z4,Z5,Z6,Z7];repeat((with_reducible refine Yw ?_);intro K hK;go_simp;(with_reducible refine hK _ ?_);clear hK K)
       (with_reducible refine Yv ?_)
       intro wp hyp;have HP:=Ya (H7.o.ext hyp);have CP:=Ya (C7.o.trans (hyp.chg _));have OP:=Ya (O7.o.ext hyp);have TK:=Ya (show Own Zpg wp base (.slice (some ⟨gp,0,none⟩) m cq) ord from by
        have h1:=HP.o.row;rw[HV.o]at h1;have h2:=h1.takeG (i:=m) (by rw[HlM.o];omega)
        rwa [Zjb Hm1.o]at h2)
       have s5:=HP.o.c 5 rfl;have f5:=HP.o.blk.fz;have HZ:=Ya (El.order HP.o.blk HP.o.bs HP.o.bw TK.o);have cs:Chg (· = sb) wp (wp.setCell ⟨sb,5,none⟩ (.slice (some ⟨gp,0,none⟩) m cq)):=(Chg.refl (· = sb) wp).setCell (p:=⟨sb,5,none⟩) (.inl rfl) _;have CZ:=Ya (CP.o.trans (cs.mono fun _ _ e=>.inl e));have OZ:=Ya (OP.o.chg cs fun k hk e=>(HS.o k hk).2 e);clear hyp l5 cs;go_upto_region 14 with fail;obtain⟨wz,hwz⟩:=gnX (wp.setCell ⟨sb,5,none⟩ (.slice (some ⟨gp,0,none⟩) m cq));rw[hwz]at HZ CZ OZ;rw[hwz];clear hwz s5 f5 HP CP OP TK p1 p2 p3 p4 p5 p6;have l3:=lat (HZ.o.c 3 rfl);have l4:=lat (HZ.o.c 4 rfl);have hun:=Yd;refine Y0 (by kernel_rfl) (by kernel_rfl) ?_;repeat((with_reducible refine Yw ?_);intro K hK;go_simp;(with_reducible refine hK _ ?_);clear hK K)
       (with_reducible refine Yv ?_)
       intro w9 hy9;clear hun;try simp only[Ye]
       replace HZ:=Ya (HZ.o.ext hy9);replace CZ:=Ya (CZ.o.trans (hy9.chg _));replace OZ:=Ya (OZ.o.ext hy9);clear hy9 l3 l4;go_wp2_with fail;go_roundw;case rel=>exact⟨i+1,lf,_,by omega,by go_num,HZ.o,by omega,OZ.o,CZ.o,HX3.o⟩
       (simp[intOf];omega)
      | true =>
       have He:=Ya he;have Hxp:=Ya hxp;clear he hxp;go_wp2_with fail;refine(IH.o lf (ord++[i]) _ _ _ H7.o O7.o rfl (by omega) (by rw[Zs,Hm1.o];show m+1+d=n;omega) (fun k hk=>by
        rcases Zj.1 hk with h|h
        ·have:=HM.o k h;rwa [Hn.o]at this
        rw[Zi.1 h];exact hlt)).mono ?_
       rintro e w8 ⟨vl8,rfl,h8,c8⟩;have C8:=Ya (C7.o.trans c8);have O8:=Ya (O7.o.chg c8 fun k hk e=>by have:=HS.o k hk;rcases e with e|e<;>omega);have H8:=Ya h8;clear h8 c8 H7 C7 O7;cases hfd:(Qn cl cp os d lf (ord++[i])).found with
       | true =>
        have HX3:=Ya (HX2.o.trans (P9 Hcn.o He.o Hxp.o (.inl hfd)));have Hfd:=Ya hfd;clear hfd;go_wp2_with fail;go_ret;refine⟨vl8,by rw[HX3.o,Hfd.o];rfl,?_,C8.o⟩;have:=H8.o;rw[HX3.o];rw[Zlm Hfd.o]at this⊢;exact this
       | false =>
        have H8b:=H8.o;simp only[hfd,Zid,Zhk]at H8b;have Hfd:=Ya hfd;clear H8 hfd;have H8:=Ya H8b;clear H8b;cases hbk:(Qn cl cp os d lf (ord++[i])).broken with
        | true =>
         have HX3:=Ya (HX2.o.trans (P9 Hcn.o He.o Hxp.o (.inr hbk)));have H8b:=H8.o;rw[hbk,Zlm rfl]at H8b;have Hbk:=Ya hbk;clear H8 hbk;have H8:=Ya H8b;clear H8b;have d2:decide (budget<budget+1)=true:=Yh;go_wp2_with fail;obtain⟨gp,cq,hvp,hgb,hgl,hnc,hcm⟩:=H8.o.row.some_ (by rw[Zs];show 0<_+1;omega);obtain⟨M,hM1⟩:=gnX (m+1);have hlM:(ord++[i]).length=M:=by rw[Zs,Hm1.o];exact hM1
         rw[hlM]at hvp hnc;have l5:=lat (H8.o.c 5 rfl);rw[hvp]at l5;have HV:=Ya hvp;have HlM:=Ya hlM;unfold maxLen at hcm;have p1:IntKind.i64.wrap ((M:Int)-1)=(m:Int):=by rw[Yr _ (by omega)];omega
         have p2:(0:Int)≤(m:Int):=by omega
         have p3:(m:Int)≤(M:Int):=by omega
         have p4:(m:Int)≤(cq:Int):=by omega
         have p5:m≤cq:=by omega
         have p6:m≤M:=by omega
         clear hvp hlM hgb hgl;go_upto_region 13 with fail;refine Xs 14 15 (by kernel_rfl) (by omega) (by kernel_rfl) (by kernel_rfl) (by kernel_rfl) ?_;simp only[Z4,Z5,Z6,Z7];repeat((with_reducible refine Yw ?_);intro K hK;go_simp;(with_reducible refine hK _ ?_);clear hK K)
         (with_reducible refine Yv ?_)
         intro wp hyp;have HP:=Ya (H8.o.ext hyp);have CP:=Ya (C8.o.trans (hyp.chg _));have OP:=Ya (O8.o.ext hyp);have TK:=Ya (show Own Zpg wp base (.slice (some ⟨gp,0,none⟩) m cq) ord from by
          have h1:=HP.o.row;rw[HV.o]at h1;have h2:=h1.takeG (i:=m) (by rw[HlM.o];omega)
          rwa [Zjb Hm1.o]at h2)
         have s5:=HP.o.c 5 rfl;have f5:=HP.o.blk.fz;have HZ:=Ya (El.order HP.o.blk HP.o.bs HP.o.bw TK.o);have cs:Chg (· = sb) wp (wp.setCell ⟨sb,5,none⟩ (.slice (some ⟨gp,0,none⟩) m cq)):=(Chg.refl (· = sb) wp).setCell (p:=⟨sb,5,none⟩) (.inl rfl) _;have CZ:=Ya (CP.o.trans (cs.mono fun _ _ e=>.inl e));have OZ:=Ya (OP.o.chg cs fun k hk e=>(HS.o k hk).2 e);clear hyp l5 cs;go_upto_region 14 with fail;obtain⟨wz,hwz⟩:=gnX (wp.setCell ⟨sb,5,none⟩ (.slice (some ⟨gp,0,none⟩) m cq));rw[hwz]at HZ CZ OZ;rw[hwz];clear hwz s5 f5 HP CP OP TK p1 p2 p3 p4 p5 p6;have l3:=lat (HZ.o.c 3 rfl);have l4:=lat (HZ.o.c 4 rfl);have hun:=Yd;refine Y0 (by kernel_rfl) (by kernel_rfl) ?_;repeat((with_reducible refine Yw ?_);intro K hK;go_simp;(with_reducible refine hK _ ?_);clear hK K)
         (with_reducible refine Yv ?_)
         intro w9 hy9;clear hun;try simp only[Ye]
         replace HZ:=Ya (HZ.o.ext hy9);replace CZ:=Ya (CZ.o.trans (hy9.chg _));replace OZ:=Ya (OZ.o.ext hy9);clear hy9 l3 l4;go_wp2_with fail;go_ret;refine⟨.slice (some ⟨gp,0,none⟩) m cq,by rw[HX3.o,Hfd.o];rfl,?_,CZ.o⟩;rw[HX3.o,Hbk.o,Hfd.o];exact HZ.o
        | false =>
         have HX3:=Ya (HX2.o.trans (Tg Hcn.o He.o Hxp.o Hfd.o hbk));have H8b:=H8.o;rw[hbk,Zlq (by simp)]at H8b;clear H8 hbk;have hlf:=Pu cl cp os d lf (ord++[i]);obtain⟨lf2,hlf2⟩:=gnX ((Qn cl cp os d lf (ord++[i])).left);rw[hlf2]at HX3 H8b hlf;have H8:=Ya H8b;clear H8b hlf2;have d2:decide (budget<budget-(lf2:Int))=false:=Yi;go_wp2_with fail;obtain⟨gp,cq,hvp,hgb,hgl,hnc,hcm⟩:=H8.o.row.some_ (by rw[Zs];show 0<_+1;omega);obtain⟨M,hM1⟩:=gnX (m+1);have hlM:(ord++[i]).length=M:=by rw[Zs,Hm1.o];exact hM1
         rw[hlM]at hvp hnc;have l5:=lat (H8.o.c 5 rfl);rw[hvp]at l5;have HV:=Ya hvp;have HlM:=Ya hlM;unfold maxLen at hcm;have p1:IntKind.i64.wrap ((M:Int)-1)=(m:Int):=by rw[Yr _ (by omega)];omega
         have p2:(0:Int)≤(m:Int):=by omega
         have p3:(m:Int)≤(M:Int):=by omega
         have p4:(m:Int)≤(cq:Int):=by omega
         have p5:m≤cq:=by omega
         have p6:m≤M:=by omega
         clear hvp hlM hgb hgl;go_upto_region 13 with fail;refine Xs 14 15 (by kernel_rfl) (by omega) (by kernel_rfl) (by kernel_rfl) (by kernel_rfl) ?_;simp only[Z4,Z5,Z6,Z7];repeat((with_reducible refine Yw ?_);intro K hK;go_simp;(with_reducible refine hK _ ?_);clear hK K)
         (with_reducible refine Yv ?_)
         intro wp hyp;have HP:=Ya (H8.o.ext hyp);have CP:=Ya (C8.o.trans (hyp.chg _));have OP:=Ya (O8.o.ext hyp);have TK:=Ya (show Own Zpg wp base (.slice (some ⟨gp,0,none⟩) m cq) ord from by
          have h1:=HP.o.row;rw[HV.o]at h1;have h2:=h1.takeG (i:=m) (by rw[HlM.o];omega)
          rwa [Zjb Hm1.o]at h2)
         have s5:=HP.o.c 5 rfl;have f5:=HP.o.blk.fz;have HZ:=Ya (El.order HP.o.blk HP.o.bs HP.o.bw TK.o);have cs:Chg (· = sb) wp (wp.setCell ⟨sb,5,none⟩ (.slice (some ⟨gp,0,none⟩) m cq)):=(Chg.refl (· = sb) wp).setCell (p:=⟨sb,5,none⟩) (.inl rfl) _;have CZ:=Ya (CP.o.trans (cs.mono fun _ _ e=>.inl e));have OZ:=Ya (OP.o.chg cs fun k hk e=>(HS.o k hk).2 e);clear hyp l5 cs;go_upto_region 14 with fail;obtain⟨wz,hwz⟩:=gnX (wp.setCell ⟨sb,5,none⟩ (.slice (some ⟨gp,0,none⟩) m cq));rw[hwz]at HZ CZ OZ;rw[hwz];clear hwz s5 f5 HP CP OP TK p1 p2 p3 p4 p5 p6;have l3:=lat (HZ.o.c 3 rfl);have l4:=lat (HZ.o.c 4 rfl);have hun:=Yd;refine Y0 (by kernel_rfl) (by kernel_rfl) ?_;repeat((with_reducible refine Yw ?_);intro K hK;go_simp;(with_reducible refine hK _ ?_);clear hK K)
         (with_reducible refine Yv ?_)
         intro w9 hy9;clear hun;try simp only[Ye]
         replace HZ:=Ya (HZ.o.ext hy9);replace CZ:=Ya (CZ.o.trans (hy9.chg _));replace OZ:=Ya (OZ.o.ext hy9);clear hy9 l3 l4;go_wp2_with fail;go_roundw;case rel=>exact⟨i+1,lf2,_,by omega,by go_num,HZ.o,by omega,OZ.o,CZ.o,HX3.o⟩
         (simp[intOf];omega)
  have hd_i:=GEl i n;have HX3:=Ya (HX.o.trans (by rw[Zkk (by simp;omega)];rfl:_=(⟨false,false,lf,ord⟩:Sx)));go_wp2_with fail;go_ret;exact⟨_,by rw[HX3.o];rfl,by rw[HX3.o];exact H.o,HC.o⟩
end Go.Proofs.YtnbclgbicnpmnaaGreat
