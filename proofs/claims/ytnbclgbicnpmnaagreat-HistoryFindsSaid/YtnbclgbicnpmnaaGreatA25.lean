/- Lemmas of this claim: HChk2, Perf. Conditions: as named. -/
import Derived.Test.YtnbclgbicnpmnaaGreatA23
import Derived.Test.YtnbclgbicnpmnaaGreatA24
namespace Go.Proofs.YtnbclgbicnpmnaaGreat
open Go.RowKit Go.Sort Tryz
set_option maxHeartbeats 0
set_option maxRecDepth 100000
set_option linter.all false
theorem Zx9(cl:Int)(o:Opn):(decide (o.cl<0)=true∧Kw cl o=false)∨(decide (o.cl<0)=false∧decide (cl≤o.cl)=true∧Kw cl o=false)∨(decide (o.cl<0)=false∧decide (cl≤o.cl)=false∧decide (o.begun<0)=true∧Kw cl o=false) ∨
 (decide (o.cl<0)=false∧decide (cl≤o.cl)=false∧decide (o.begun<0)=false∧(o.dec == -1)=true∧Kw cl o=(o.ans == -1)) ∨
 (decide (o.cl<0)=false∧decide (cl≤o.cl)=false∧decide (o.begun<0)=false∧(o.dec == -1)=false∧decide (o.begun<o.dec)=false∧Kw cl o=false) ∨
 (decide (o.cl<0)=false∧decide (cl≤o.cl)=false∧decide (o.begun<0)=false∧(o.dec == -1)=false∧decide (o.begun<o.dec)=true∧(o.ans == -1)=true∧Kw cl o=true) ∨
 (decide (o.cl<0)=false∧decide (cl≤o.cl)=false∧decide (o.begun<0)=false∧(o.dec == -1)=false∧decide (o.begun<o.dec)=true∧(o.ans == -1)=false∧Kw cl o=decide (o.dec<o.ans)):=by
 by_cases h1:o.cl<0
 ·exact .inl ⟨by simpa using h1,by simp[Kw,h1]⟩
 by_cases h2:cl≤o.cl
 ·exact .inr (.inl ⟨by simpa using h1,by simpa using h2,by simp[Kw,h2]⟩)
 by_cases h3:o.begun<0
 ·exact .inr (.inr (.inl ⟨by simpa using h1,by simpa using h2,by simpa using h3,by simp[Kw,h3]⟩))
 have h0:¬ (o.cl<0∨cl≤o.cl∨o.begun<0):=by omega
 by_cases h4:o.dec = -1
 ·exact .inr (.inr (.inr (.inl ⟨by simpa using h1,by simpa using h2,by simpa using h3,by simpa using h4,by unfold Kw;rw[Zk9 h0,Zjx h4]⟩)))
 by_cases h5:o.begun<o.dec
 ·by_cases h6:o.ans = -1
  ·exact .inr (.inr (.inr (.inr (.inr (.inl ⟨by simpa using h1,by simpa using h2,by simpa using h3,by simpa using h4,by simpa using h5,by simpa using h6,by unfold Kw;rw[Zk9 h0,Zk9 h4];simp[h5,h6]⟩)))))
  exact .inr (.inr (.inr (.inr (.inr (.inr ⟨by simpa using h1,by simpa using h2,by simpa using h3,by simpa using h4,by simpa using h5,by simpa using h6,by unfold Kw;rw[Zk9 h0,Zk9 h4];simp[h5,h6]⟩)))))
 exact .inr (.inr (.inr (.inr (.inl ⟨by simpa using h1,by simpa using h2,by simpa using h3,by simpa using h4,by simpa using h5,by unfold Kw;rw[Zk9 h0,Zk9 h4];simp[h5]⟩))))
theorem cons_any(cl cp:Int)(o:Opn)(w:World):Calls prog 91 #[.agg #[.int .i64 cl,.int .i64 cp],opV o] w fun e w'=>e=.returned (.bool (Kw cl o))∧Ext w w':=by
 rcases Zx9 cl o with⟨d1,hc⟩ | ⟨d1,d2,hc⟩ | ⟨d1,d2,d3,hc⟩ | ⟨d1,d2,d3,d4,hc⟩ | ⟨d1,d2,d3,d4,d5,hc⟩ | ⟨d1,d2,d3,d4,d5,d6,hc⟩ | ⟨d1,d2,d3,d4,d5,d6,hc⟩<;>(
  rw[hc];clear hc;unfold opV;go_enter func91,ntmps91;go_wp2_with fail;go_ret;exact⟨rfl,((Yl w).alloc _).alloc _⟩)
theorem Nk{ops:Array Oper}{rest:List Oper}{dst:Option Nat}{x y:Operand}{t:TypeId}{pos:String}{af:Array Edge}{a:Act}{w:World}{Q:Exit→Act→World→Prop}{o:Opn}{c:Array Value}{s:Nat}(hs:w.heap.size=s)(hc:c.size=23)(hx:a.eval x=.pointer (some ⟨s,0,none⟩))(hy:a.eval y=opV o)(hnv:o.nv.oneCell'=true)(hK:wpList prog ops Q rest (a.put dst undef) (w.alloc (opO o))) :
 wpList prog ops Q ({dst:=dst,op:=.store 55 x y,type:=t,pos:=pos,after:=af,guard:=none}::rest) a (w.alloc (.cells c 55)):=by
 subst hs;exact V5 hc hx hy hnv hK
theorem Uv.drewO{w:World}{b p:Nat}{o:Opn}(h:Uv w b p o):Uv w.drew b p o:=h
structure Opn.fits(o:Opn):Prop where
 cl:I64 o.cl
 dec:I64 o.dec
structure Znu(w:World)(fb m1 m2:Nat)(cl cp:Int)(os:List Opn)(i:Nat)(wr:World):Prop where
 ints:∃ ks,Vi wr m1 ks∧ks.length=i∧∀ k,k∈ks↔seenD os i k=true
 last:Jw wr m2 i (K4 os i)
 ext:Ext w wr
 c0:wr.cell? ⟨fb,0,none⟩=some (.int .i64 cl)
 c1:wr.cell? ⟨fb,1,none⟩=some (.int .i64 cp)
 lo:w.heap.size≤fb∧w.heap.size≤m1∧w.heap.size≤m2∧fb≠m1∧fb≠m2∧m1≠m2∧fb<wr.heap.size
 oks:∀ j,j<i→okAt cl os j=true
theorem Znu.grow{w:World}{fb m1 m2:Nat}{cl cp:Int}{os:List Opn}{i:Nat}{wr w':World}(h:Znu w fb m1 m2 cl cp os i wr)(x:Ext wr w'):Znu w fb m1 m2 cl cp os i w':=by
 obtain⟨ks,h1,h2,h3⟩:=h.ints;exact⟨⟨ks,h1.ext x,h2,h3⟩,h.last.ext x,h.ext.trans x,(x.cell (p:=⟨fb,0,none⟩) h.lo.2.2.2.2.2.2).trans h.c0,(x.cell (p:=⟨fb,1,none⟩) h.lo.2.2.2.2.2.2).trans h.c1,⟨h.lo.1,h.lo.2.1,h.lo.2.2.1,h.lo.2.2.2.1,h.lo.2.2.2.2.1,h.lo.2.2.2.2.2.1,Zk8 h.lo.2.2.2.2.2.2 x.size⟩,h.oks⟩
theorem Zua{S:Nat→Prop}(cl cp:Int)(v:Value)(os:List Opn)(w:World)(ho:V6 w S v os)(hf:∀ o∈os,o.fits) :
 Calls prog 56 #[.agg #[.int .i64 cl,.int .i64 cp],v] w fun e w'=>e=.returned (.tuple #[.int .i64 (Qq cl cp os).1,.int .i64 (Qq cl cp os).2])∧Ext w w':=by
 obtain⟨A,C,rfl⟩:=ho.shape;have hmm:=@run_makeMap prog;have x0:Ext w (w.alloc (.cells #[.int .i64 cl,.int .i64 cp] 37)):=(Yl w).alloc _;have f0:(w.alloc (.cells #[.int .i64 cl,.int .i64 cp] 37)).cell? ⟨w.heap.size,0,none⟩=some (.int .i64 cl):=by go_simp
 have f1:(w.alloc (.cells #[.int .i64 cl,.int .i64 cp] 37)).cell? ⟨w.heap.size,1,none⟩=some (.int .i64 cp):=by go_simp
 have fl:w.heap.size<(w.alloc (.cells #[.int .i64 cl,.int .i64 cp] 37)).heap.size:=by simp
 obtain⟨n,hnn⟩:=gnX (os.length);have Hnn:=Y4 hnn;have Ho:=Y4 (ho.mono (T:=fun k=>k<w.heap.size) fun k _ hk=>hk);have Hf:=Y4 hf;have X0:=Y4 x0;have F0:=Y4 f0;have F1:=Y4 f1;have Fl:=Y4 fl;rw[hnn];clear ho hf x0 f0 f1 fl hnn;rcases P0 cl cp with hc|hc
 ·have HR:=Y4 (show Qq cl cp os=(0,3) by unfold Qq;rw[hc];rfl);go_enter func56,ntmps56;go_wp2_with fail;refine(Fg cl cp _).mono ?_;rintro x w1 (⟨_,rfl,hx1⟩ | ⟨h0,_⟩)
  ·have Hx1:=Y4 (X0.o.trans hx1);clear hx1;go_wp2_with fail;go_ret2;rw[HR.o];exact⟨rfl,Hx1.o⟩
  omega
 have Hc:=Y4 hc;by_cases hn4:4096<n
 ·have hd4:decide ((4096:Int)<(n:Int))=true:=by simp;omega
  have HR:=Y4 (show Qq cl cp os=(0,7) by unfold Qq;rw[Zk9 (by omega),Zjx (by rw[Hnn.o];exact hn4)]);go_enter func56,ntmps56;go_wp2_with fail;refine(Fg cl cp _).mono ?_;rintro x w1 (⟨h0,_⟩ | ⟨_,b,m,rfl,_,_,_,hx1⟩)
  ·omega
  have Hx1:=Y4 (X0.o.trans hx1);clear hx1;go_wp2_with fail;go_ret2;rw[HR.o];exact⟨rfl,Hx1.o⟩
 have hd4:decide ((4096:Int)<(n:Int))=false:=by simp;omega
 go_enter func56,ntmps56;go_wp2_with fail;refine(Fg cl cp _).mono ?_;rintro x w1 (⟨h0,_⟩ | ⟨_,b,m,rfl,_,_,_,hx1⟩)
 ·omega
 have f0:=(hx1.cell (p:=⟨w.heap.size,0,none⟩) Fl.o).trans F0.o;have f1:=(hx1.cell (p:=⟨w.heap.size,1,none⟩) Fl.o).trans F1.o;have fl:=Zk8 Fl.o hx1.size;have Hx1:=Y4 (X0.o.trans hx1);clear hx1 hc hd4;have hI:Znu w w.heap.size w1.heap.size (w1.heap.size+1) cl cp os 0 ((w1.alloc (.map #[] 0)).alloc (.map #[] 0)):=by
  have y1:Ext w1 ((w1.alloc (.map #[] 0)).alloc (.map #[] 0)):=((Yl w1).alloc _).alloc _;refine⟨⟨[],(Ztl w1).ext ((Yl _).alloc _),rfl,fun k=>by simp[seenD]⟩,?_,Hx1.o.trans y1,(y1.cell (p:=⟨w.heap.size,0,none⟩) fl).trans f0,(y1.cell (p:=⟨w.heap.size,1,none⟩) fl).trans f1,⟨Yn _,Hx1.o.size,by have:=Hx1.o.size;omega,by omega,by omega,by omega,by simp;omega⟩,fun j hj=>by omega⟩;have:=Ztf (w1.alloc (.map #[] 0));rw[show(w1.alloc (.map #[] 0)).heap.size=w1.heap.size+1 by simp]at this;exact this
 have HI:=Y4 hI;clear hI f0 f1 fl;go_upto_region 8 with fail;obtain⟨fb,hfb⟩:=gnX (w.heap.size);obtain⟨m1,hm1⟩:=gnX (w1.heap.size);obtain⟨wA,hwA⟩:=gnX ((w1.alloc (.map #[] 0)).alloc (.map #[] 0));have hI:=HI.o;rw[hwA]at hI⊢;have hI2:Znu w fb m1 (m1+1) cl cp os 0 wA:=by rw[← hfb,← hm1];exact hI
 simp only[hm1,hfb];have HI2:=Y4 hI2;clear hI hI2 HI hwA hm1 hfb Hx1 X0 F0 F1 Fl;go_wp2_with fail;go_loopw [29] (fun o wr=>∃ i:Nat,i≤n∧o=.int .i64 (i:Int)∧Znu w fb m1 (m1+1) cl cp os i wr) (fun o _=>n-(intOf o).toNat);case atStart=>exact⟨0,by omega,rfl,HI2.o⟩
 obtain⟨i,hi,rfl,hI⟩:=hrel;have HI:=Y4 hI;clear hI HI2;by_cases hin:i<n
 ·have hd:decide ((i:Int)<(n:Int))=true:=by simp;omega
  obtain⟨o,hoi⟩:∃ o,os[i]?=some o:=⟨os[i]'(by rw[Hnn.o];exact hin),by rw[Zz]⟩;obtain⟨g,p,c,hv,hc1,hc2,_,hA,hN⟩:=(Ho.o.ext HI.o.ext).get hoi;simp only[Ye]at hv;obtain⟨rfl,_,rfl⟩:=hv;rw[Hnn.o]at hc1;have hC:C≤9223372036854775807:=by unfold maxLen at hc2;omega
  obtain⟨nA,nC,hnv⟩:=hN.shape;have hone:o.nv.oneCell'=true:=by rw[hnv];rfl
  have hfits:=Hf.o o (Zy hoi);have HA:=Y4 hA;have Hoi:=Y4 hoi;have xA:Ext wr (wr.alloc (opO o)):=(Yl wr).alloc _;have hN1:=Mu wr o;have hcl1:(wr.alloc (opO o)).cell? ⟨wr.heap.size,0,none⟩=some (.int .i64 o.cl):=hN1.2 0 (by omega);obtain⟨ob,b,hlook,hone2,hob⟩:=(HI.o.last.ext xA).look hfits.cl;have Hfits:=Y4 hfits;have Hob:=Y4 hob;clear hN hnv hA hfits hob hN1 hoi;go_upto_region 12 with(first|(refine Wl HA.o rfl ?_)|(refine V5 rfl rfl rfl hone ?_)|(refine Nk (s:=wr.heap.size+1) (by simp) rfl rfl rfl hone2 ?_));have hI1:=(HI.o.grow xA).grow ((Yl _).alloc (opO ob));have hN2:Uv ((wr.alloc (opO o)).alloc (opO ob)) wr.heap.size 0 o:=(Mu wr o).ext ((Yl _).alloc _)
  have hB2:Uv ((wr.alloc (opO o)).alloc (opO ob)) (wr.heap.size+1) 0 ob:=by
   have:=Mu (wr.alloc (opO o)) ob
   rwa [show(wr.alloc (opO o)).heap.size=wr.heap.size+1 by simp]at this
  have hnew:w.heap.size≤wr.heap.size:=HI.o.ext.size;have hfar:m1<wr.heap.size∧m1+1<wr.heap.size:=by
   obtain⟨ks,h1,_⟩:=HI.o.ints;exact⟨h1.lt,HI.o.last.lt⟩
  obtain⟨W,hW⟩:=gnX ((wr.alloc (opO o)).alloc (opO ob));obtain⟨e,he⟩:=gnX (wr.heap.size);rw[hW]at hI1 hN2 hB2⊢;rw[he]at hN2 hB2 hnew hfar;simp only[he];have c0:=hI1.c0;have c1:=hI1.c1;have HI1:=Y4 hI1;have HN2:=Y4 hN2;have HB2:=Y4 hB2;clear hI1 hN2 hB2 xA hcl1 hlook hW he HI;go_wp2_with (refine Wl HN2.o rfl ?_);refine(cons_any cl cp o _).mono ?_;rintro x w2 ⟨rfl,hx2⟩;have hI2:=HI1.o.grow hx2;have hN3:=HN2.o.ext hx2;have hB3:=HB2.o.ext hx2;have HI2:=Y4 hI2;have HN3:=Y4 hN3;have HB3:=Y4 hB3;clear hx2 HI1 HN2 HB2 c0 c1 hI2 hN3 hB3;have bad:okAt cl os i=false→Y0 (Qq cl cp os=((i:Int),4)):=fun h=>Zx7 Hc.o (by rw[Hnn.o];exact hn4) (by rw[Hnn.o];exact hin) h HI2.o.oks
  have BAD:=Y4 bad;clear bad;cases hcb:Kw cl o with
  | false =>
   have HR:=BAD.o (by simp[okAt,Hoi.o,hcb]);go_wp2_with fail;go_ret2;rw[HR.o];exact⟨rfl,HI2.o.ext⟩
  | true =>
   have hw13:=HI2.o.ext;go_upto_region 13 with fail;go_cut [41] (fun v wx=>v=.bool (Zui os i o)∧wx=w2.drew);case first =>
    have hbg:=HN3.o.begun;by_cases h0:0<i
    ·obtain⟨k,hk1,hk2⟩:∃ k,k+1≤i∧i≤k+1:=⟨i-1,by omega,by omega⟩;obtain⟨q,hq⟩:=geX (l:=os) (i:=k) (by rw[Hnn.o];omega);obtain⟨g',p',c',hv',_,_,_,hQ,_⟩:=(Ho.o.ext hw13).get hq;simp only[Ye,Yd,Zjp,Zj6,Zjj]at hv';obtain⟨⟨rfl,rfl⟩,_⟩:=hv';have hqb:=hQ.begun;have rk:(i:Int)-1=(k:Int):=by omega
     have wk:IntKind.i64.wrap (k:Int)=(k:Int):=by rw[Yp _ (by omega)]
     have hz:(0:Int)<(i:Int):=by omega
     have q0:(0:Int)≤(k:Int):=by omega
     have q1:(k:Int)<(n:Int):=by omega
     have hB:Zui os i o=decide (o.begun≤q.begun):=by
      unfold Zui;rw[show i-1=k by omega,hq];simp[h0]
     have HB:=Y4 hB;clear hB hQ hq hk1 hk2;go_wp2_with fail;go_region;go_wp2_with fail;go_meet;exact⟨by rw[HB.o],rfl⟩
    have hz:¬ (0:Int)<(i:Int):=by omega
    have hB:Zui os i o=false:=by
     unfold Zui;split
     ·simp[h0]
     rfl
    have HB:=Y4 hB;clear hB;go_wp2_with fail;go_region;go_wp2_with fail;go_meet;exact⟨by rw[HB.o],rfl⟩
   obtain⟨rfl,rfl⟩:=hcut;cases hbb:Zui os i o with
   | true =>
    have HR:=BAD.o (by simp[okAt,Hoi.o,hbb]);go_wp2_with fail;go_ret2;rw[HR.o];exact⟨rfl,HI2.o.ext.drew⟩
   | false =>
    obtain⟨ks,hks,hkl,hkm⟩:=HI2.o.ints;have hdc:=HN3.o.dec;have hbg:=HN3.o.begun;have hba:=HB3.o.ans;have hclk:w2.drew.cell? ⟨e,0,none⟩=some (.int .i64 o.cl):=HN3.o.2 0 (by omega);have hl1:=Vi.look (w:=w2.drew) (m:=m1) (ks:=ks) hks Hfits.o.dec;have HKS:=Y4 hks;have HKM:=Y4 hkm;clear hks hkm;by_cases hsd:(o.dec != -1&&seenD os i o.dec)=true
    ·have HR:=BAD.o (by simp only[okAt,Hoi.o,hsd];simp);simp only[Zjg]at hsd;obtain⟨hs1,hs2⟩:=hsd;have hin2:decide (o.dec∈ks)=true:=by simpa using(HKM.o o.dec).2 hs2
     rw[hin2]at hl1;clear hs2 hin2;go_wp2_with fail;go_ret2;rw[HR.o];exact⟨rfl,HI2.o.ext.drew⟩
    have hsd':(o.dec != -1&&seenD os i o.dec)=false:=by simpa using hsd
    have hsel:(o.dec != -1)=false∨((o.dec != -1)=true∧decide (o.dec∈ks)=false):=by
     cases hq:(o.dec != -1)with
     | false=>exact .inl rfl
     | true =>
      rw[hq,Bool.true_and]at hsd';refine .inr ⟨rfl,?_⟩;have:¬ o.dec∈ks:=fun hm=>by rw[(HKM.o o.dec).1 hm]at hsd';simp at hsd'
      simpa using this
    have HSD:=Y4 hsd';clear hsd hsd';go_upto_region 14 with fail;go_cut [41] (fun v wx=>v=.bool false∧wx=w2.drew);case first =>
     rcases hsel with hs | ⟨hs,hs2⟩
     ·go_wp2_with fail;go_meet;exact⟨rfl,rfl⟩
     rw[hs2]at hl1;clear hs2;go_wp2_with fail;go_meet;exact⟨rfl,rfl⟩
    obtain⟨rfl,rfl⟩:=hcut;clear hsel hl1;go_upto_region 15 with fail;go_cut [41] (fun v wx=>v=.bool (Di os i o)∧wx=w2.drew);case first =>
     rcases Hob.o with⟨h1,rfl⟩ | ⟨h1,rfl⟩
     ·have HL:=Y4 (show Di os i o=false by unfold Di;rw[h1]);clear h1;go_wp2_with fail;go_meet;exact⟨by rw[HL.o],rfl⟩
     by_cases h2:ob.ans = -1
     ·have HL:=Y4 (show Di os i o=true by unfold Di;rw[h1];simp[h2]);have h2':(ob.ans == -1)=true:=by simpa using h2
      clear h1 h2;go_wp2_with fail;go_meet;exact⟨by rw[HL.o],rfl⟩
     have HL:=Y4 (show Di os i o=decide (o.begun≤ob.ans) by unfold Di;rw[h1];simp[h2]);have h2':(ob.ans == -1)=false:=by simpa using h2
     clear h1 h2;go_wp2_with fail;go_meet;exact⟨by rw[HL.o],rfl⟩
    obtain⟨rfl,rfl⟩:=hcut;cases hlb:Di os i o with
    | true =>
     have HR:=BAD.o (by simp[okAt,Hoi.o,hlb]);go_wp2_with fail;go_ret2;rw[HR.o];exact⟨rfl,HI2.o.ext.drew⟩
    | false =>
     have hok:okAt cl os i=true:=by simp only[okAt,Hoi.o,hcb,hbb,HSD.o,hlb];rfl
     obtain⟨w3,hrun3,hL3,hC3⟩:=Zpv (w:=w2.drew) HI2.o.last (by unfold maxLen;omega) Hfits.o.cl hone;have hN4:Uv w3 e 0 o:=Uv.chg (S:=(· = m1+1)) (w:=w2.drew) HN3.o hC3 (by omega);have hdc4:=hN4.dec;have hks3:Vi w3 m1 ks:=Vi.chg (w:=w2.drew) HKS.o hC3 (by omega);obtain⟨w4,hrun4,hK4,hC4⟩:=Zq7 hks3 (by rw[hkl];unfold maxLen;omega) Hfits.o.dec;have hlo:=HI2.o.lo;have hI4:Znu w fb m1 (m1+1) cl cp os (i+1) w4:=by
      have f3:∀ k,w3.cell? ⟨fb,k,none⟩=w2.cell? ⟨fb,k,none⟩:=fun k=>hC3.cell (p:=⟨fb,k,none⟩) hlo.2.2.2.2.2.2 hlo.2.2.2.2.1
      have f4:∀ k,w4.cell? ⟨fb,k,none⟩=w3.cell? ⟨fb,k,none⟩:=fun k=>hC4.cell (p:=⟨fb,k,none⟩) (Zk8 hlo.2.2.2.2.2.2 hC3.size) hlo.2.2.2.1
      refine⟨⟨o.dec::ks,hK4,by simp[hkl],fun k=>?_⟩,?_,(HI2.o.ext.drew.chg_new hC3 fun k hk=>by rw[hk];exact hlo.2.2.1).chg_new hC4 fun k hk=>by rw[hk];exact hlo.2.1,(f4 0).trans ((f3 0).trans HI2.o.c0),(f4 1).trans ((f3 1).trans HI2.o.c1),⟨hlo.1,hlo.2.1,hlo.2.2.1,hlo.2.2.2.1,hlo.2.2.2.2.1,hlo.2.2.2.2.2.1,Zk8 (Zk8 hlo.2.2.2.2.2.2 hC3.size) hC4.size⟩,fun j hj=>?_⟩
      ·rw[Zvv os Hoi.o,Zg,HKM.o]
      ·have:=hL3.chg hC4 (by omega)
       rwa [show(fun c=>if o.cl=c then some o.ans else K4 os i c)=K4 os (i+1) from funext fun c=>(Tp os Hoi.o c).symm]at this
      by_cases ej:j=i
      ·rw[ej];exact hok
      exact HI2.o.oks j (by omega)
     have HI4:=Y4 hI4;clear hI4 hK4 hC4 hks3 hL3 hC3 hN4 hok hlo;go_wp2_with (refine Wl HN3.o.drewO rfl ?_);go_roundw;case rel=>exact⟨i+1,by omega,by go_num,HI4.o⟩
     simp[intOf];omega
 have hd:decide ((i:Int)<(n:Int))=false:=by simp;omega
 have HR:=Y4 (Bw Hc.o (by rw[Hnn.o];exact hn4) (fun j hj=>HI.o.oks j (by rw[Hnn.o]at hj;omega)));go_wp2_with fail;go_ret2;rw[HR.o];exact⟨rfl,HI.o.ext⟩
section
def Js(a b:Ax):Bool:=a.e==b.e&&(a.at_==b.at_&&(a.nm.toList==b.nm.toList&&((a.rc.st==b.rc.st&&(a.rc.ow==b.rc.ow&&(a.rc.nm.toList==b.rc.nm.toList&&a.rc.dl==b.rc.dl)))&&a.tick==b.tick)))
theorem Kz(a b:Ax)(w:World):(binOp .neq 53 (Wu a) (Wu b)).run prog w=.ok (.bool (!Js a b)) w:=by
 unfold Wu;go_simp;repeat' split
 all_goals simp_all [Js]
def Db(r:Ax):List Value:=[.int .i64 r.e,.int .i64 r.at_,.string r.nm,.int .i64 r.rc.st,.int .i64 r.rc.ow,.string r.rc.nm,.int .i64 r.rc.dl,.int .i64 r.tick]
theorem Rb:(prog.underlying 53).map TypeDesc.isRow=some true:=by kernel_rfl
theorem Li:(prog.info? 53).map (·.size)=some 8:=by kernel_rfl
theorem Uv.resR{w:World}{b p:Nat}{o:Opn}(h:Uv w b p o):w.rangeAt b (p+15) (Db o.res):=fun j v hv=>by
 have hj:j<8:=by have:=(Zr.1 hv).1;exact this
 rw[Zid,h.2 (15+j) (by omega),← hv];rcases(show j=0∨j=1∨j=2∨j=3∨j=4∨j=5∨j=6∨j=7 by omega)with rfl|rfl|rfl|rfl|rfl|rfl|rfl|rfl<;>rfl
theorem Uv.badR{w:World}{b p:Nat}{o:Opn}(h:Uv w b p o):w.rangeAt b (p+4) (Db o.bad):=fun j v hv=>by
 have hj:j<8:=by have:=(Zr.1 hv).1;exact this
 rw[Zid,h.2 (4+j) (by omega),← hv];rcases(show j=0∨j=1∨j=2∨j=3∨j=4∨j=5∨j=6∨j=7 by omega)with rfl|rfl|rfl|rfl|rfl|rfl|rfl|rfl<;>rfl
section
variable {ops:Array Oper} {rest:List Oper} {dst:Option Nat} {x y:Operand} {t:TypeId} {pos:String} {af:Array Edge} {a:Act} {w:World} {Q:Exit→Act→World→Prop} {b p:Nat} {r:Ax}
theorem Ix{w:World}{b p:Nat}{r:Ax}(h:w.rangeAt b p (Db r)):(Instr.loadAt 53 (.pointer (some ⟨b,p,none⟩))).run prog w=.ok (Wu r) w:=by
 have hu:=Rb;rw[Zjl]at hu;obtain⟨d,hu,hd⟩:=hu;exact run_loadAt_mid w b p _ (Db r) d h hu hd (by rw[Li];rfl)
theorem Q2(h:w.rangeAt b p (Db r))(hx:a.eval x=.pointer (some ⟨b,p,none⟩))(hK:wpList prog ops Q rest (a.put dst (Wu r)) w) :
 wpList prog ops Q ({dst:=dst,op:=.load 53 x,type:=t,pos:=pos,after:=af,guard:=none}::rest) a w:=by
 have hu:=Rb;rw[Zjl]at hu;obtain⟨d,hu,hd⟩:=hu;exact Zfu rfl _ x rfl b p hx (Db r) d h hu hd (by rw[Li];rfl) hK
theorem Dn(x y:Operand)(r1 r2:Ax)(w:World):(eqGuard .neq 53 x y (Wu r1) (Wu r2)).run prog w=.ok () w:=run_eqGuard_agg (P:=prog) w .neq 53 x y _ _ (by kernel_rfl)
theorem Ga{r1 r2:Ax}{s:TypeId}(hx:a.eval x=Wu r1)(hy:a.eval y=Wu r2)(hK:wpList prog ops Q rest (a.put dst (.bool (!Js r1 r2))) w) :
 wpList prog ops Q ({dst:=dst,op:=.binOp .neq 53 x y s,type:=t,pos:=pos,after:=af,guard:=none}::rest) a w:=by
 refine Zgr rfl fun _ hK'=>?_
 unfold Oper.wp execOp;simp only[hx,hy,Zhs,Dn,Kz,Zir,Zhr];exact hK' _ _ hK
end
theorem Zyv{ops:Array Oper}{S:World→Prop}{op:Oper}{a:Act}(hw:Region.wanted op (yielded ops a.tmps)=true){x:Operand}(ho:op.op=.load 53 x)(b p:Nat)(hx:a.eval x=.pointer (some ⟨b,p,none⟩))(r:Ax)(hS:∀ w,S w→w.rangeAt b p (Db r)):YieldsIf prog ops S op (Wu r) a:=by
 have hu:=Rb;rw[Zjl]at hu;obtain⟨d,hu,hd⟩:=hu;exact yieldsIf_load_mid hw _ x ho b p hx (Db r) d hS hu hd (by rw[Li];rfl)
theorem Zyw{ops:Array Oper}{S:World→Prop}{op:Oper}{a:Act}(hw:Region.wanted op (yielded ops a.tmps)=true){x y:Operand}{s:TypeId}(ho:op.op=.binOp .neq 53 x y s){r1 r2:Ax}(hx:a.eval x=Wu r1)(hy:a.eval y=Wu r2):YieldsIf prog ops S op (.bool (!Js r1 r2)) a :=
 .inl ⟨hw,fun w _=>by
  unfold execOp;simp only[ho,hx,hy,Zhs,Dn,Kz,Zir,Zhr]⟩
theorem Dc(o:Opn)(w:World):Calls prog 64 #[opV o] w fun e w'=>e=.returned (.bool (o.bad.e !=0))∧Ext w w':=Zzf o w
structure Ng(w:World)(rb b m:Nat)(cl cp:Int)(l:List Kp)(tick:Int):Prop where
 c0:w.cell? ⟨rb,0,none⟩=some (.pointer (some ⟨b,0,none⟩))
 c1:w.cell? ⟨rb,1,none⟩=some (.int .i64 tick)
 lt:rb<w.heap.size
 nb:rb≠b
 nm:rb≠m
 z1:w.frozen? ⟨rb,1,none⟩=false
 mod:Be w b m cl cp l
theorem Ng.ext{w w':World}{rb b m:Nat}{cl cp:Int}{l:List Kp}{tick:Int}(h:Ng w rb b m cl cp l tick)(x:Ext w w'):Ng w' rb b m cl cp l tick :=
 ⟨(x.cell (p:=⟨rb,0,none⟩) h.lt).trans h.c0,(x.cell (p:=⟨rb,1,none⟩) h.lt).trans h.c1,Zk8 h.lt x.size,h.nb,h.nm,(x.frozen (p:=⟨rb,1,none⟩) h.lt).trans h.z1,h.mod.ext x⟩
def Jm(cl cp:Int)(l:List Kp)(tick:Int)(o:Opn):Int×List Kp×Int :=
 if o.bad.e≠0 then(if Js o.res o.bad then 0 else 26,l,tick)
 else if o.res.tick<tick then(3,l,tick)
 else(if Js (doR cl cp l o.cl o.op o.ttl o.res.tick o.ns) o.res then 0 else 26,doL cl cp l o.cl o.op o.ttl o.res.tick o.ns,o.res.tick)
def Gs(rb b m:Nat)(cl cp:Int)(l:List Kp)(tick:Int)(o:Opn)(w:World)(e:Ending)(w':World):Prop :=
 e=.returned (.int .i64 (Jm cl cp l tick o).1)∧Ng w' rb b m cl cp (Jm cl cp l tick o).2.1 (Jm cl cp l tick o).2.2∧Chg (fun k=>k=m∨k=rb) w w'
theorem Mo{S:Nat→Prop}(rb b m:Nat)(cl cp:Int)(l:List Kp)(tick:Int)(o:Opn)(w:World)(h:Ng w rb b m cl cp l tick)(hl:l.length≤100000)(hn:Vw w S o.nv o.ns)(hks:∀ n∈o.ns,n.k.size≤maxLen)(hm:¬ S m)(hrb:¬ S rb) :
 Calls prog 65 #[.pointer (some ⟨rb,0,none⟩),opV o] w (Gs rb b m cl cp l tick o w):=by
 have hx1:Ext w (w.alloc (opO o)):=(Yl w).alloc _;have hN:=Mu w o;have hne:=Kz o.res o.bad;have H1:=Y4 (h.ext hx1);have Hn1:=Y4 (Rd.ext hn hx1);have Hx1:=Y4 hx1;have HN:=Y4 hN;have Hlt:=Y4 h.lt;have Hml:=Y4 h.mod.map.lt;clear hx1 hN h hn;have hbox:opO o=.cells #[.int .i64 o.cl,.int .i64 o.op,.int .i64 o.ttl,o.nv,.int .i64 o.bad.e,.int .i64 o.bad.at_,.string o.bad.nm,.int .i64 o.bad.rc.st,.int .i64 o.bad.rc.ow,.string o.bad.rc.nm,.int .i64 o.bad.rc.dl,.int .i64 o.bad.tick,.int .i64 o.begun,.int .i64 o.dec,.int .i64 o.ans,.int .i64 o.res.e,.int .i64 o.res.at_,.string o.res.nm,.int .i64 o.res.rc.st,.int .i64 o.res.rc.ow,.string o.res.rc.nm,.int .i64 o.res.rc.dl,.int .i64 o.res.tick] 55:=rfl;have Hbox:=Y4 hbox;clear hbox;unfold opV;go_enter func65,ntmps65;go_upto_region 1 with fail;rw[← Hbox.o];go_wp2_with (refine Wl HN.o rfl ?_);refine(Dc o _).mono ?_;rintro x w2 ⟨rfl,hx2⟩;have h2:=H1.o.ext hx2;have hN2:=HN.o.ext hx2;have Hn2:=Y4 (Rd.ext Hn1.o hx2);have Hx2:=Y4 (Hx1.o.trans hx2);have hes:w.heap.size<w2.heap.size:=Zk8 (by simp) hx2.size;obtain⟨e,he⟩:=gnX (w.heap.size);have Hlt2:=Y4 (show rb<e by have:=Hlt.o;omega);rw[he]at hN2 hes;simp only[he];have HN2:=Y4 hN2;have H2:=Y4 h2;have He:=Y4 he;clear hN2 h2 hx2 Hx1 H1 HN Hn1 Hlt he;by_cases hb:o.bad.e=0
 ·have hbq:(o.bad.e !=0)=false:=by simp[hb]
  rw[hbq];have Hb:=Y4 hb;clear hb hbq;have r0:=H2.o.c0;have r1:=H2.o.c1;have rz:=H2.o.z1;have e22:w2.cell? ⟨e,22,none⟩=some (.int .i64 o.res.tick):=HN2.o.2 22 (by omega);by_cases ht:o.res.tick<tick
  ·have hd:decide (o.res.tick<tick)=true:=by simpa using ht
   have HP:=Y4 (show Jm cl cp l tick o=(3,l,tick) by unfold Jm;rw[Zk9 (by have:=Hb.o;omega),Zjx ht]);go_wp2_with fail;go_region;go_wp2_with fail;go_ret;unfold Gs;rw[HP.o];exact⟨rfl,H2.o.ext (Yl _).drew,(Hx2.o.drew).chg _⟩
  have hd:decide (o.res.tick<tick)=false:=by simpa using ht
  have HP:=Y4 (show Jm cl cp l tick o=(if Js (doR cl cp l o.cl o.op o.ttl o.res.tick o.ns) o.res then 0 else 26,doL cl cp l o.cl o.op o.ttl o.res.tick o.ns,o.res.tick) by unfold Jm;rw[Zk9 (by have:=Hb.o;omega),Zk9 ht]);go_wp2_with fail;go_region;go_upto_region 8 with fail;have hc3:Chg (· = rb) w2 (w2.setCell ⟨rb,1,none⟩ (.int .i64 o.res.tick)).drew:=((Chg.refl (· = rb) w2).setCell (.inl rfl) _).drew;have g0:(w2.setCell ⟨rb,1,none⟩ (.int .i64 o.res.tick)).drew.cell? ⟨rb,0,none⟩=some (.pointer (some ⟨b,0,none⟩)):=(Zjb _ _ _ _ (by simp)).trans r0;have g1:(w2.setCell ⟨rb,1,none⟩ (.int .i64 o.res.tick)).drew.cell? ⟨rb,1,none⟩=some (.int .i64 o.res.tick):=Zit _ _ _ r1;obtain⟨w3,hw3⟩:=gnX ((w2.setCell ⟨rb,1,none⟩ (.int .i64 o.res.tick)).drew);rw[hw3]at hc3 g0 g1⊢;have hne3:rb≠e:=by have:=Hlt2.o;omega
  have hN3:=HN2.o.chg hc3 (fun h=>hne3 h.symm);have hmod3:=H2.o.mod.chg hc3 (fun h=>H2.o.nb h.symm) (fun h=>H2.o.nm h.symm);have Hn3:=Y4 (Rd.chg Hn2.o hc3 (fun k hk e=>hrb (e▸hk)));have hz3:w3.frozen? ⟨rb,1,none⟩=false:=by rw[← hw3];exact(Zj2 _ _ _ _).trans rz
  have k0:w3.cell? ⟨e,0,none⟩=some (.int .i64 o.cl):=hN3.2 0 (by omega);have k1:w3.cell? ⟨e,1,none⟩=some (.int .i64 o.op):=hN3.2 1 (by omega);have k2:w3.cell? ⟨e,2,none⟩=some (.int .i64 o.ttl):=hN3.2 2 (by omega);have k3:w3.cell? ⟨e,3,none⟩=some o.nv:=hN3.2 3 (by omega);have k22:w3.cell? ⟨e,22,none⟩=some (.int .i64 o.res.tick):=hN3.2 22 (by omega);have kr:w3.rangeAt e 15 (Db o.res):=by have:=hN3.resR;rwa [Zjd]at this
  have hel:e<w3.heap.size:=hN3.1;have hrl:rb<w3.heap.size:=Zk8 H2.o.lt hc3.size;have HC3:=Y4 ((Hx2.o.chg (fun k=>k=m∨k=rb)).trans (hc3.mono fun k _ h=>.inr h));have HM3:=Y4 hmod3;have hnm:=H2.o.nm;have hnb:=H2.o.nb;have hml:=hmod3.map.lt;have hem:e≠m:=by have:=He.o;have:=Hml.o;omega
  refine Zjo (S:=fun w'=>w'.cell? ⟨rb,0,none⟩=some (.pointer (some ⟨b,0,none⟩))∧w'.cell? ⟨e,0,none⟩=some (.int .i64 o.cl)∧w'.cell? ⟨e,1,none⟩=some (.int .i64 o.op)∧w'.cell? ⟨e,2,none⟩=some (.int .i64 o.ttl)∧w'.cell? ⟨e,3,none⟩=some o.nv∧w'.cell? ⟨e,22,none⟩=some (.int .i64 o.res.tick)∧w'.rangeAt e 15 (Db o.res)) (by kernel_rfl) ⟨g0,k0,k1,k2,k3,k22,kr⟩ (fun hHeld=>?_);refine Xv [0,1,2,3,4,5,6,7,8,9,10,11,12,13,14,16] 3 (by rfl) (by kernel_rfl) (by kernel_rfl) (fun _ _ d _ _ h=>by cases d<;>exact h) (by assumption) ?_;simp only[Z3,Z4,Z5,Zw,Zx];repeat(refine Xu (v:=?_) (by kernel_rfl) ?_ ?_;rotate_left;(focus((intro w hSw;(try dsimp only at hSw);go_simp);(first|done|(with_reducible rfl))));(try simp only[Act.put]);(try simp only[Zv]))
  refine Xs ?_;refine Zih (i := 17) (oi := { dst := some 43, op := Op.load 53 (Operand.tmp 42), type := 53, pos := "history.go:92", after := #[{ on := 16, ground := Ground.data }], guard := none }) (v := Wu o.res) rfl (by kernel_rfl) (by kernel_rfl) (by kernel_rfl) (fun _ _ _ h => h) ?hy17 (by assumption) ?_;case hy17=>exact Zyv (x:=Operand.tmp 42) rfl rfl e 15 (by simp [Act.eval];done) o.res fun w h=>h.2.2.2.2.2.2
  (try simp only[Act.put]);(try simp only[Zv])
  refine Zjv (rs:=[15]) (by kernel_rfl) (by simp) ?_;refine Yr (o:=_) rfl (fun K hK=>?_) Yq;go_simp;refine(Zmo b m cl cp o.cl o.op o.ttl o.res.tick l o.nv o.ns _ (HM3.o.ext (Yl w3).drew) hl hks (S:=S) (Rd.drew Hn3.o) hm).mono ?_;rintro x w4 ⟨rfl,hmod4,hc4⟩;replace hc4:Chg (· = m) w3 w4:=((Yl w3).drew.chg (· = m)).trans hc4;have j0:=(hc4.cell (p:=⟨rb,0,none⟩) hrl hnm).trans g0;have j1:=(hc4.cell (p:=⟨rb,1,none⟩) hrl hnm).trans g1;have jz:=(hc4.frozen (p:=⟨rb,1,none⟩) hrl hnm).trans hz3;replace k0:=(hc4.cell (p:=⟨e,0,none⟩) hel hem).trans k0;replace k1:=(hc4.cell (p:=⟨e,1,none⟩) hel hem).trans k1;replace k2:=(hc4.cell (p:=⟨e,2,none⟩) hel hem).trans k2;replace k3:=(hc4.cell (p:=⟨e,3,none⟩) hel hem).trans k3;replace k22:=(hc4.cell (p:=⟨e,22,none⟩) hel hem).trans k22;replace kr:w4.rangeAt e 15 (Db o.res):=fun j v hv=>(hc4.cell (p:=⟨e,15+j,none⟩) hel hem).trans (kr j v hv)
  have HR4:=Y4 (show Ng w4 rb b m cl cp (doL cl cp l o.cl o.op o.ttl o.res.tick o.ns) o.res.tick from⟨j0,j1,Zk8 hrl hc4.size,hnb,hnm,jz,hmod4⟩);have HC4:=Y4 (HC3.o.trans (hc4.mono fun k _ h=>.inl h));obtain⟨R,hR⟩:=gnX (doR cl cp l o.cl o.op o.ttl o.res.tick o.ns);have HRe:=Y4 hR;rw[hR];clear hR hc4 hmod4 g0 g1 hz3 HM3 HC3 hN3 hmod3;(try go_wp2_with fail);refine hK.out _ _ ?_ (fun hHeld=>?_);(focus((try dsimp only);(first|done|go_keep)));clear hK K;try simp only[Act.put,Zv,Zu,Zt]
  refine Zih (i := 18) (oi := { dst := some 44, op := Op.binOp BinOp.neq 53 (Operand.tmp 41) (Operand.tmp 43) 53, type := 4, pos := "history.go:92", after := #[{ on := 15, ground := Ground.data }, { on := 17, ground := Ground.data }], guard := none }) (v := .bool (!Js R o.res)) rfl (by kernel_rfl) (by kernel_rfl) (by kernel_rfl) (fun _ _ _ h => h) ?hy18 (by assumption) ?_;case hy18=>exact Zyw (x:=Operand.tmp 41) (y:=Operand.tmp 43) rfl rfl (by simp [Act.eval];done) (by simp [Act.eval];done)
  (try simp only[Act.put]);(try simp only[Zv])
  refine Zjf (by kernel_rfl) ?_ _;clear hHeld k0 k1 k2 k3 k22 kr j0 j1 jz;cases hq:Js R o.res with
  | true =>
   go_wp2_with fail;go_ret;unfold Gs;rw[HP.o,HRe.o,hq];exact⟨rfl,HR4.o,HC4.o⟩
  | false =>
   go_wp2_with fail;go_ret;unfold Gs;rw[HP.o,HRe.o,hq];exact⟨rfl,HR4.o,HC4.o⟩
 have hbq:(o.bad.e !=0)=true:=by simp[hb]
 have hr:=HN2.o.resR;have hbd:=HN2.o.badR;rw[hbq];cases hq:Js o.res o.bad with
 | true =>
  have HP:=Y4 (show Jm cl cp l tick o=(0,l,tick) by unfold Jm;rw[Zjx hb,Zjx hq]);go_wp2_with (first|(refine Q2 hr rfl ?_)|(refine Q2 hbd rfl ?_)|(refine Ga rfl rfl ?_;rw[hq]));go_ret;unfold Gs;rw[HP.o];exact⟨rfl,H2.o,Hx2.o.chg _⟩
 | false =>
  have HP:=Y4 (show Jm cl cp l tick o=(26,l,tick) by unfold Jm;rw[Zjx hb,Zk9 (by rw[hq];simp)]);go_wp2_with (first|(refine Q2 hr rfl ?_)|(refine Q2 hbd rfl ?_)|(refine Ga rfl rfl ?_;rw[hq]));go_ret;unfold Gs;rw[HP.o];exact⟨rfl,H2.o,Hx2.o.chg _⟩
end
