/- Lemmas of this claim: Repl, FindF, Find32. Conditions: as named. -/
import Derived.Test.YtnbclgbicnpmnaaGreatA34
namespace Go.Proofs.YtnbclgbicnpmnaaGreat
open Go.RowKit Go.Sort Tryz
set_option maxHeartbeats 0
set_option maxRecDepth 100000
set_option linter.all false
def Bm(cl cp:Int)(os:List Opn):Int×Int :=
 if(Qq cl cp os).2≠0 then Qq cl cp os else match Aa cl cp os (Kf os) ([],0,true)with|some (i,e)=>((i:Int),e)|none=>(0,0)
theorem Lv{cl cp:Int}{os:List Opn}(h:(Qq cl cp os).2=0):V7 cl cp=0∧os.length≤4096:=by
 unfold Qq at h;split at h
 ·rename_i h1;exact absurd h h1
 rename_i h1;split at h
 ·simp at h
 rename_i h2;exact⟨by omega,by omega⟩
theorem Zw9{S:Nat→Prop}(cl cp:Int)(v:Value)(os:List Opn)(w:World)(ho:V6 w S v os)(hf:∀ o∈os,o.fits)(hk:Sz os) :
 Calls prog 27 #[.agg #[.int .i64 cl,.int .i64 cp],v] w fun e w'=>e=.returned (.tuple #[.int .i64 (Bm cl cp os).1,.int .i64 (Bm cl cp os).2])∧Ext w w':=by
 obtain⟨A,C,rfl⟩:=ho.shape;have x0:Ext w (w.alloc (.cells #[.int .i64 cl,.int .i64 cp] 37)):=(Yl w).alloc _;have f0:(w.alloc (.cells #[.int .i64 cl,.int .i64 cp] 37)).cell? ⟨w.heap.size,0,none⟩=some (.int .i64 cl):=by go_simp
 have f1:(w.alloc (.cells #[.int .i64 cl,.int .i64 cp] 37)).cell? ⟨w.heap.size,1,none⟩=some (.int .i64 cp):=by go_simp
 have fl:w.heap.size<(w.alloc (.cells #[.int .i64 cl,.int .i64 cp] 37)).heap.size:=by simp
 obtain⟨n,hnn⟩:=gnX (os.length);have Hnn:=Y4 hnn;have Ho:=Y4 (ho.mono (T:=fun k=>k<w.heap.size) fun k _ hk=>hk);have HC:=Y4 (Zua cl cp _ os _ (ho.ext x0) hf);have Hk:=Y4 hk;have X0:=Y4 x0;have F0:=Y4 f0;have F1:=Y4 f1;have Fl:=Y4 fl;rw[hnn]at HC⊢;clear ho hf x0 f0 f1 fl hnn hk;obtain⟨⟨ci,ce⟩,hce⟩:∃ p,Qq cl cp os=p:=⟨_,rfl⟩;have Hce:=Y4 hce;rw[hce]at HC;simp only at HC;clear hce;go_enter func27,ntmps27;go_wp2_with fail;refine Zhx HC.o ?_;rintro x w1 ⟨rfl,hx1⟩;have f0:=(hx1.cell (p:=⟨w.heap.size,0,none⟩) Fl.o).trans F0.o;have f1:=(hx1.cell (p:=⟨w.heap.size,1,none⟩) Fl.o).trans F1.o;have Hx1:=Y4 (X0.o.trans hx1);clear hx1 HC;by_cases hc0:ce=0
 ·obtain⟨hconf,hlen⟩:=Lv (cl:=cl) (cp:=cp) (os:=os) (by rw[Hce.o];exact hc0);have hcz:(ce !=0)=false:=by simp[hc0]
  have Hc0:=Y4 hc0;rw[Hnn.o]at hlen;clear hc0;go_wp2_with fail;refine(Iq cl cp hconf _).mono ?_;rintro x w2 ⟨rb,b,m,rfl,hrep,hlo1,hlo2,hx2⟩;have HRp:=Y4 hrep;have Hlt2:=Y4 (show rb<w2.heap.size∧m<w2.heap.size from⟨hrep.lt,hrep.mod.map.lt⟩);have HL:=Y4 (show w.heap.size≤rb∧w.heap.size≤m from⟨Zjw Hx1.o.size hlo1,Zjw Hx1.o.size hlo2⟩);have HO:=Y4 (Tc _ os w2 (Ho.o.ext (Hx1.o.trans hx2)) (by rw[Hnn.o];omega));have Hx2:=Y4 (Hx1.o.trans hx2);rw[Hnn.o]at HO;clear hrep hlo1 hlo2 hx2 Hx1 f0 f1;go_wp2_with fail;refine Zhx HO.o ?_;rintro x w3 ⟨vl,rfl,hl,hx3⟩;obtain⟨A2,C2,rfl⟩:=hl.shape;obtain⟨ord,hord⟩:=gnX (Kf os);have Hord:=Y4 hord;have hmem:∀ i∈ord,∃ o,os[i]?=some o:=fun i hi=>Zpe (by rw[hord];exact hi)
  have hol:ord.length≤4096:=by have:=Zy1 os;rw[hord,Hnn.o]at this;omega
  rw[hord]at hl;simp only[hord];obtain⟨q,hqq⟩:=gnX (ord.length);have Hqq:=Y4 hqq;have hI:Zkf w rb b m cl cp os ord 0 ([],0,true) w3:=⟨HRp.o.ext hx3,rfl,by simp,fun j hj=>by omega,Hx2.o.trans hx3,HL.o⟩;have HI:=Y4 hI;have Hl:=Y4 hl;have Hm:=Y4 hmem;rw[hqq]at hol⊢;clear hl hx3 hord hmem hqq hI HRp Hx2 HO;go_wp2_with fail;go_loopw [9,28] (fun f o wr=>∃ (k:Nat) (st:RSt),k≤q∧o=.int .i64 (k:Int)∧f=.bool st.2.2∧Zkf w rb b m cl cp os ord k st wr∧Vo wr (fun k=>w2.heap.size≤k) (.slice A2 q C2) ord) (fun _ o _=>q-(intOf o).toNat);case atStart=>exact⟨0,_,by omega,rfl,rfl,HI.o,by have:=Hl.o;rwa [Hqq.o]at this⟩
  obtain⟨k,st,hkq,rfl,rfl,hI,hnat⟩:=hrel;have HI2:=Y4 hI;have HNat:=Y4 hnat;clear hI hnat HI Hl;by_cases hkl:k<q
  ·have hd:decide ((k:Int)<(q:Int))=true:=by simp;omega
   obtain⟨i,hi⟩:=geX (l:=ord) (i:=k) (by rw[Hqq.o];exact hkl);obtain⟨o,hoi⟩:=Hm.o i (Zy hi);have xw:=HI2.o.ext;obtain⟨g2,p2,c2',hv2,l1,l2,_,hg2,hcell⟩:=HNat.o.get hi;obtain⟨g,p,c,hv,hc1,hc2,hgS,hA,hN⟩:=(Ho.o.ext xw).get hoi;simp only[Ye]at hv hv2;obtain⟨rfl,-,rfl⟩:=hv;obtain⟨hv2,-,hv3⟩:=hv2;have l3:C2=c2':=hv3;rw[Hnn.o]at hc1;rw[Hqq.o]at l1;rw[← l3]at l1 l2;clear hv3 l3;have hin:i<n:=by rw[← Hnn.o];exact(Zr.1 hoi).1
   have q1:(0:Int)≤(i:Int):=by omega
   have q2:(i:Int)<(n:Int):=by omega
   have hC:C≤9223372036854775807:=by unfold maxLen at hc2;omega
   have hC2:C2≤9223372036854775807:=by unfold maxLen at l2;omega
   have Hi:=Y4 hi;have Hoi:=Y4 hoi;have HA:=Y4 hA;have HN:=Y4 hN;have hml:=HI2.o.rep.mod.map.lt;have hrl:=HI2.o.rep.lt;have hgw:=HI2.o.lo;have hlen2:¬ (q:Int)≤(k:Int):=by omega
   have Hgs:=Y4 (show g≠m∧g≠rb by omega);clear hi hoi hA hN hgw;go_upto_region 9 with fail;clear hcell hv2 hlen2;try go_frame
   go_cut [9,32,33,40] from 34 to 39 (fun f f1 f2 v wx=>f=.bool st.2.2∧f1=.bool st.2.2∧f2=.bool st.2.2∧v=.bool (st.2.2&&(o.bad.e==0))∧Ext wr wx)
   case first =>
    cases hf:st.2.2 with
    | false =>
     go_wp2_with fail;go_meet;exact⟨by rw[hf],by rw[hf],by rw[hf],by rw[hf];rfl,Yl _⟩
    | true =>
     go_wp2_with (first|(refine Gb HA.o rfl rfl ?_)|(go_at_call 64;refine(Dc o _).mono ?_;rintro x w3 ⟨rfl,hx3⟩));go_meet;exact⟨by rw[hf],by rw[hf],by rw[hf],by rw[hf];simp[bne],hx3⟩
   obtain⟨rfl,rfl,rfl,rfl,hx3⟩:=hcut;have hI3:=HI2.o.rep.ext hx3;have hN3:=HA.o.ext hx3;have HN3:=Y4 hN3;have HX3:=Y4 (HI2.o.ext.trans hx3);have HNm:=Y4 (Rd.ext HN.o hx3);have HNat3:=Y4 (show Vo wc _ _ ord from Rd.ext HNat.o hx3);have HR3:=Y4 hI3;have z22:wc.cell? ⟨g,p+i*23+22,none⟩=some (.int .i64 o.res.tick):=hN3.2 22 (by omega);have r1:=hI3.c1;have rz:=hI3.z1;clear hx3 hN3 hI3 HNat;go_upto_if 40 with fail;go_cut [9] (fun v wx=>v=.bool (Qz st o)∧Ng wx rb b m cl cp st.1 (Jq st o)∧Uv wx g (p+i*23) o∧Ext w wx∧Vw wx (fun k=>k<w.heap.size) o.nv o.ns∧Vo wx (fun k=>w2.heap.size≤k) (.slice A2 q C2) ord);case first =>
    cases hq:(st.2.2&&(o.bad.e==0))with
    | false =>
     have h1:¬ (st.2.2=true∧o.bad.e=0):=by simpa using hq
     have H1:=Y4 (show Jq st o=st.2.1 by unfold Jq;rw[Zk9 h1]);have H2:=Y4 (show Qz st o=st.2.2 by unfold Qz;rw[Zk9 h1]);clear h1;go_wp2_with fail;go_meet;exact⟨by rw[H2.o],by rw[H1.o];exact HR3.o,HN3.o,HX3.o,HNm.o,HNat3.o⟩
    | true =>
     have h1:st.2.2=true∧o.bad.e=0:=by simpa using hq
     have H1:=Y4 (show Jq st o=o.res.tick by unfold Jq;rw[Zjx h1]);have H2:=Y4 (show Qz st o=false by unfold Qz;rw[Zjx h1]);clear h1 hq;go_wp2_with fail;go_meet;have hc:Chg (· = rb) wc (wc.setCell ⟨rb,1,none⟩ (.int .i64 o.res.tick)):=(Chg.refl (· = rb) wc).setCell (.inl rfl) _;refine⟨by rw[H2.o],?_,HN3.o.chg hc Hgs.o.2,HX3.o.chg_new hc (fun i hi=>by rw[hi];exact HI2.o.lo.1),Rd.chg HNm.o hc (fun i hi e=>by have:=HI2.o.lo.1;omega),Rd.chg HNat3.o hc (fun i hi e=>by have:=Hlt2.o.1;omega)⟩;rw[H1.o];exact⟨(Zjb _ _ _ _ (by simp)).trans HR3.o.c0,Zit _ _ _ r1,Zk8 HR3.o.lt hc.size,HR3.o.nb,HR3.o.nm,(Zj2 _ _ _ _).trans rz,HR3.o.mod.chg hc (fun h=>HR3.o.nb h.symm) (fun h=>HR3.o.nm h.symm)⟩
   obtain⟨rfl,hR4,hN4,hx4,hn4,hnat4⟩:=hcut;have HN4:=Y4 hN4;have hks:=Hk.o o (Zy Hoi.o);have hfew:=HI2.o.few;have HP:=Y4 (Mo (S:=fun k=>k<w.heap.size) rb b m cl cp st.1 (Jq st o) o wc hR4 (by omega) hn4 hks (by have:=HI2.o.lo.2;omega) (by have:=HI2.o.lo.1;omega));have HX4:=Y4 hx4;have HNat4:=Y4 hnat4;clear hR4 hN4 hx4 hn4 hks z22 r1 rz HR3 HN3 hnat4;go_wp2_with (refine Wl HN4.o rfl ?_);refine Zhx HP.o ?_;rintro x w5 ⟨rfl,hR5,hc5⟩;have hx5:=HX4.o.chg_new hc5 (fun i hi=>by rcases hi with rfl|rfl;exact HI2.o.lo.2;exact HI2.o.lo.1);have hnat5:Vo w5 (fun k=>w2.heap.size≤k) (.slice A2 q C2) ord:=Rd.chg HNat4.o hc5 (fun i hi e=>by have:=Hlt2.o;rcases e with e|e<;>omega);obtain⟨code,hcode⟩:=gnX ((Jm cl cp st.1 (Jq st o) o).1);have Hcode:=Y4 (show(Vm cl cp st o).1=code from hcode);have HR5:=Y4 hR5;have HX5:=Y4 hx5;have HNat5:=Y4 hnat5;rw[hcode];clear hcode hR5 hc5 hx5 hnat5;by_cases h0:code=0
   ·have hz:(code !=0)=false:=by simp[h0]
    have H0:=Y4 h0;clear h0;go_wp2_with fail;go_roundw;case rel =>
     refine⟨k+1,(Vm cl cp st o).2,by omega,by go_num,rfl,⟨HR5.o,?_,?_,fun j hj i' o' h1 h2=>?_,HX5.o,HI2.o.lo⟩,HNat5.o⟩
     ·rw[Rj Hi.o Hoi.o,← HI2.o.is]
     ·have:=Ri (cl:=cl) (cp:=cp) (st:=st) (o:=o);omega
     by_cases ej:j=k
     ·subst ej;have e1:i'=i:=by rw[Hi.o]at h1;exact(Zjy h1).symm
      subst e1;have e2:o'=o:=by rw[Hoi.o]at h2;exact(Zjy h2).symm
      subst e2;rw[← HI2.o.is,Hcode.o,H0.o]
     exact HI2.o.oks j (by omega) i' o' h1 h2
    case measure=>simp[intOf];omega
   have hz:(code !=0)=true:=by simp[h0]
   have HE:=Y4 (show Bm cl cp os=((i:Int),code) by
    have h3:=Zxy HI2.o.oks Hm.o Hi.o Hoi.o (by rw[← HI2.o.is,Hcode.o];exact h0);rw[← HI2.o.is,Hcode.o]at h3;unfold Bm;rw[Hce.o,Zk9 (by have:=Hc0.o;simpa using this),Hord.o,h3])
   clear h0;go_wp2_with fail;go_ret2;rw[HE.o];exact⟨rfl,HX5.o⟩
  have hd:decide ((k:Int)<(q:Int))=false:=by simp;omega
  have HE:=Y4 (show Bm cl cp os=(0,0) by
   unfold Bm;rw[Hce.o,Zk9 (by have:=Hc0.o;simpa using this),Hord.o,Zxz (fun j hj=>HI2.o.oks j (by rw[Hqq.o]at hj;omega)) Hm.o])
  go_wp2_with fail;go_ret2;rw[HE.o];exact⟨rfl,HI2.o.ext⟩
 have hcz:(ce !=0)=true:=by simp[hc0]
 have HR:=Y4 (show Bm cl cp os=(ci,ce) by unfold Bm;rw[Hce.o,Zjx hc0]);clear hc0;go_wp2_with fail;go_ret2;rw[HR.o];exact⟨rfl,Hx1.o⟩
theorem Tf(o:Opn)(w:World):Calls prog 60 #[opV o] w fun e w'=>e=.returned (.bool (o.ans == -1))∧Ext w w':=by
 unfold opV;go_enter func60,ntmps60;go_wp2_with fail;go_ret;exact⟨rfl,(Yl w).alloc _⟩
def Zr9(os:List Opn)(w:World)(e:Ending)(w':World):Prop:=∃ z:Int,e=.returned (.int .i64 z)∧decide (0≤z)=(os.any fun o=>o.ans == -1)∧Ext w w'
theorem Zsx{os:List Opn}{k:Nat}{o:Opn}(h:((os.take k).any fun o=>o.ans == -1)=false)(ho:os[k]?=some o)(hg:(o.ans == -1)=false):((os.take (k+1)).any fun o=>o.ans == -1)=false:=by
 rw[take_at ho,Zgm,h];simp[hg]
theorem Zmu{os:List Opn}{k:Nat}{o:Opn}(ho:os[k]?=some o)(hg:(o.ans == -1)=true):(os.any fun o=>o.ans == -1)=true:=by
 rw[Zii];exact⟨o,Zy ho,hg⟩
theorem Zwp{S:Nat→Prop}(v:Value)(os:List Opn)(w:World)(ho:V6 w S v os)(hlm:os.length≤1000000) :
 Calls prog 94 #[v,.func (.func 60) #[] #[]] w (Zr9 os w):=by
 obtain⟨A,C,rfl⟩:=ho.shape;have eg:∀ args w,(callFunc 60 args).run prog w=.ok (.enter 60 args) w:=enters_of func60 (by kernel_rfl) rfl;obtain⟨n,hnn⟩:=gnX (os.length);have Hnn:=Y4 hnn;have Hn:=Y4 ho;rw[hnn]at hlm⊢;clear ho hnn;go_enter func94,ntmps94;go_wp2_with fail;go_loopw [8] (fun o wr=>∃ k:Nat,k≤n∧o=.int .i64 (k:Int)∧((os.take k).any fun o=>o.ans == -1)=false∧Ext w wr) (fun o _=>n-(intOf o).toNat);case atStart=>exact⟨0,by omega,rfl,by simp,Yl w⟩
 obtain⟨k,hk,rfl,hg,hx⟩:=hrel;have Hg:=Y4 hg;have Hx:=Y4 hx;clear hg hx;by_cases hlt:k<n
 ·have hd:decide ((k:Int)<(n:Int))=true:=by simpa using hlt
  obtain⟨o,hok⟩:=geX (l:=os) (i:=k) (by rw[Hnn.o];exact hlt);obtain⟨g,p,c,hv,hc1,hc2,_,hA,_⟩:=(Hn.o.ext Hx.o).get hok;simp only[Ye]at hv;obtain⟨rfl,_,rfl⟩:=hv;rw[Hnn.o]at hc1;have i0:(0:Int)≤(k:Int):=by omega
  have i1:(k:Int)<(n:Int):=by omega
  have Hok:=Y4 hok;have HA:=Y4 hA;clear hok hA;cases hg:(o.ans == -1)with
  | false =>
   have Hgn:=Y4 hg;go_wp2_with (first|(refine Wl HA.o rfl ?_)|(go_at_fn 60;refine(Tf o _).mono ?_;rintro e w1 ⟨rfl,hy⟩;rw[hg]));go_roundw;case rel=>exact⟨k+1,by omega,by go_num,Zsx Hg.o Hok.o Hgn.o,Hx.o.trans hy⟩
   simp[intOf];omega
  | true =>
   have Hgn:=Y4 hg;go_wp2_with (first|(refine Wl HA.o rfl ?_)|(go_at_fn 60;refine(Tf o _).mono ?_;rintro e w1 ⟨rfl,hy⟩;rw[hg]));go_ret;exact⟨k,rfl,by rw[Zmu Hok.o Hgn.o];simp,Hx.o.trans hy⟩
 have hd:decide ((k:Int)<(n:Int))=false:=by simp;omega
 go_wp2_with fail;go_ret;refine⟨-1,rfl,?_,Hx.o⟩;have:=Hg.o;rw[Zm (by rw[Hnn.o];omega)]at this;rw[this];rfl
theorem P1{S:Nat→Prop}(v:Value)(os:List Opn)(w:World)(ho:V6 w S v os)(hlm:os.length≤1000000) :
 Calls prog 59 #[v,.func (.func 60) #[] #[]] w fun e w'=>e=.returned (.bool (os.any fun o=>o.ans == -1))∧Ext w w':=by
 have Hn:=Y4 ho;clear ho;go_enter func59,ntmps59;go_wp2_with fail;refine(Zwp v os _ Hn.o hlm).mono ?_;rintro e w1 ⟨z,rfl,hz,hx⟩;have Hx:=Y4 hx;have Hz:=Y4 hz;clear hx hz;go_wp2_with fail;go_ret;exact⟨by rw[← Hz.o];rfl,Hx.o⟩
theorem Zto:(prog.info? 4).map (fun i=>(i.zero,i.size,i.bytes))=some (some (.bool false),1,1):=by kernel_rfl
theorem Zvg:prog.underlying 117=some (.slice 4):=by kernel_rfl
def Ka(n:Nat):Array Value:=madeCells #[.bool false] n
theorem Zx6(n:Nat){i:Nat}(h:i<n):(Ka n)[i]?=some (.bool false):=by
 unfold Ka madeCells;rw[Zjt (by simp;omega)];simp[Nat.mod_one]
theorem Zzu(n:Nat)(hn:n≤4096)(w:World):(Instr.makeSlice 117 (.int .i64 (n:Int)) (.int .i64 (n:Int))).run prog w=.ok (.slice (some ⟨w.heap.size,0,none⟩) n n) (w.alloc (.cells (Ka n) 4)):=by
 obtain⟨i0,hi,hz0,hz1,hz2⟩:=Zju Zto;have h:=run_make w 117 4 i0 _ Zvg hi hz0 .i64 .i64 n n (by omega) (by omega) (by rw[hz2];omega) (by omega);simp only[Zg0,hz1,Zgk]at h;exact h
theorem Zp8(w2:World)(cl cp budget:Int)(A:Option Addr)(n C:Nat)(t1 t2:TypeId)(hb:1≤budget)(W:World)(hW:((w2.alloc (.cells (Ka n) t1)).alloc (.cells #[.int .i64 cl,.int .i64 cp,.slice A n C,.int .i64 budget,.bool false,.slice (some ⟨w2.heap.size,0,none⟩) n n,.slice none 0 0] t2)).drew=W) :
 Qu W (w2.heap.size+1) w2.heap.size n (w2.heap.size+2) cl cp (.slice A n C) n budget.toNat false (.slice none 0 0) []:=by
 have hbb:W.heap[w2.heap.size]?=some (.cells (Ka n) t1):=by
  rw[← hW];show((w2.alloc (.cells (Ka n) t1)).alloc _).heap[w2.heap.size]?=_;rw[Zgp _ _ _ (by simp)];exact Zjc w2 _
 have hz:W.heap.size=w2.heap.size+2:=by rw[← hW];simp[World.drew]
 have hbn:((budget.toNat:Nat):Int)=budget:=by omega
 refine⟨by subst hW;go_simp,by subst hW;go_simp,by subst hW;go_simp,by rw[hbn];subst hW;go_simp,by subst hW;go_simp,by subst hW;go_simp,by subst hW;go_simp,by subst hW;go_simp,by subst hW;go_simp,by subst hW;go_simp,⟨by omega,fun j hj=>?_⟩,fun j hj=>by simp[World.frozen?,hbb],Zie _ _ _ _,by omega,by omega,by omega,by omega⟩;simp only[World.cell?,hbb];rw[Zx6 n hj];rfl
def J6(os:List Opn)(cl cp budget:Int)(w:World)(e:Ending)(w':World):Prop :=
 ∃ v,e=.returned (.tuple #[v,.int .i64 (Vd cl cp os budget).2.1,.int .i64 (Vd cl cp os budget).2.2])∧Vo w' (fun k=>w.heap.size≤k) v (Vd cl cp os budget).1∧Ext w w'
theorem Gk(w:World)(S:Nat→Prop):Vo w S (.slice none 0 0) []:=Rd.of_own (Zie w 0 0 1) (fun k hk=>by simp[Value.ownBlock]at hk)
theorem Pp{S:Nat→Prop}(cl cp budget:Int)(v:Value)(os:List Opn)(w:World)(ho:V6 w S v os)(hf:∀ o∈os,o.fits)(hk:Sz os) :
 Calls prog 24 #[.agg #[.int .i64 cl,.int .i64 cp],v,.int .i64 budget] w (J6 os cl cp budget w):=by
 obtain⟨A,C,rfl⟩:=ho.shape;have x0:Ext w (w.alloc (.cells #[.int .i64 cl,.int .i64 cp] 37)):=(Yl w).alloc _;have HC:=Y4 (Zua cl cp _ os _ (ho.ext x0) hf);have X0:=Y4 x0;have Ho:=Y4 (ho.mono (T:=fun k=>k<w.heap.size) fun k _ hk=>hk);have f0:(w.alloc (.cells #[.int .i64 cl,.int .i64 cp] 37)).cell? ⟨w.heap.size,0,none⟩=some (.int .i64 cl):=by go_simp
 have f1:(w.alloc (.cells #[.int .i64 cl,.int .i64 cp] 37)).cell? ⟨w.heap.size,1,none⟩=some (.int .i64 cp):=by go_simp
 have fl:w.heap.size<(w.alloc (.cells #[.int .i64 cl,.int .i64 cp] 37)).heap.size:=by simp
 obtain⟨n,hnn⟩:=gnX (os.length);have Hnn:=Y4 hnn;have Hf:=Y4 hf;have Hk:=Y4 hk;have Fl:=Y4 fl;have F0:=Y4 f0;have F1:=Y4 f1;rw[hnn]at HC⊢;clear ho hf x0 hk fl f0 f1 hnn;go_enter func24,ntmps24;go_wp2_with fail;refine Zhx HC.o ?_;rintro e w1 ⟨rfl,hx⟩;have Hx:=Y4 (X0.o.trans hx);have f0:=(hx.cell (p:=⟨w.heap.size,0,none⟩) Fl.o).trans F0.o;have f1:=(hx.cell (p:=⟨w.heap.size,1,none⟩) Fl.o).trans F1.o;have fl:=Zk8 Fl.o hx.size;obtain⟨ch,hch⟩:=gnX ((Qq cl cp os).2);rw[hch];by_cases hc0:ch=0
 ·have hcq:(ch==0)=true:=by simpa using hc0
  subst hc0;obtain⟨hcf,hlen⟩:=Lv hch;rw[Hnn.o]at hlen;have Hch:=Y4 hch;clear hx hch HC F0 F1 Fl;go_wp2_with fail;refine(P1 _ os _ (by have:=Ho.o.ext Hx.o;rwa [Hnn.o]at this) (by rw[Hnn.o];omega)).mono ?_;rintro e w2 ⟨rfl,hx2⟩;have Hx2:=Y4 (Hx.o.trans hx2);have f0:=(hx2.cell (p:=⟨w.heap.size,0,none⟩) fl).trans f0;have f1:=(hx2.cell (p:=⟨w.heap.size,1,none⟩) fl).trans f1;have fl:=Zk8 fl hx2.size;clear hx2 Hx;obtain⟨an,han⟩:=gnX ((os.any fun o=>o.ans == -1));rw[han];cases an with
  | true =>
   have HR:=Y4 (show Vd cl cp os budget=([],0,26) by unfold Vd;rw[Zk9 (by rw[Hch.o];simp),Zjx han]);clear han;go_wp2_with fail;go_ret3;unfold J6;rw[HR.o];exact⟨_,rfl,Gk _ _,Hx2.o⟩
  | false =>
   have Han:=Y4 han;clear han;by_cases hb1:budget<1
   ·have d1:decide (budget<1)=true:=by simpa using hb1
    have HR:=Y4 (show Vd cl cp os budget=([],0,3) by unfold Vd;rw[Zk9 (by rw[Hch.o];simp),Zk9 (by rw[Han.o];simp),Zjx (.inl hb1)]);go_wp2_with fail;go_ret3;unfold J6;rw[HR.o];exact⟨_,rfl,Gk _ _,Hx2.o⟩
   have d1:decide (budget<1)=false:=by simpa using hb1
   by_cases hb2:1048576<budget
   ·have d2:decide (1048576<budget)=true:=by simpa using hb2
    have HR:=Y4 (show Vd cl cp os budget=([],0,3) by unfold Vd;rw[Zk9 (by rw[Hch.o];simp),Zk9 (by rw[Han.o];simp),Zjx (.inr hb2)]);go_wp2_with fail;go_ret3;unfold J6;rw[HR.o];exact⟨_,rfl,Gk _ _,Hx2.o⟩
   have d2:decide (1048576<budget)=false:=by simpa using hb2
   have HR:Y0 (Vd cl cp os budget=if(Kg cl cp os os.length budget.toNat []).broken then([],0,28)else if(Kg cl cp os os.length budget.toNat []).found then((Kg cl cp os os.length budget.toNat []).ord,budget-(Kg cl cp os os.length budget.toNat []).left,0)else([],budget-(Kg cl cp os os.length budget.toNat []).left,23)):=Y4 (by unfold Vd;rw[Zk9 (by rw[Hch.o];simp),Zk9 (by rw[Han.o];simp),Zk9 (by omega)]);go_upto_region 8 with fail;have hmk:=Zzu n hlen;go_region;obtain⟨w3,hw3⟩:=gnX (((w2.alloc (.cells (Ka n) 4)).alloc (.cells #[.int .i64 cl,.int .i64 cp,.slice A n C,.int .i64 budget,.bool false,.slice (some ⟨w2.heap.size,0,none⟩) n n,.slice none 0 0] 119)).drew);have hx3:Ext w2 w3:=by rw[← hw3];exact(((Yl w2).alloc _).alloc _).drew
   have hs:=Zp8 w2 cl cp budget A n C _ _ hb1 w3 hw3;rw[hw3];have hz3:w2.heap.size+2≤w3.heap.size:=hs.bw;have ho3:V6 w3 (fun k=>k<w2.heap.size+2∧k≠w2.heap.size+1∧k≠w2.heap.size) (.slice A os.length C) os:=((Ho.o.ext Hx2.o).ext hx3).mono (fun k hk _=>by have:=Hx2.o.size;omega);have HE:=Y4 (Zwu (w2.heap.size+1) w2.heap.size n (w2.heap.size+2) cl cp (.slice A os.length C) os hcf Hk.o (by rw[Hnn.o];exact hlen) (by rw[Hnn.o];exact Yn _) (by unfold maxLen;omega) os.length budget.toNat [] _ w3 (by simp) (by omega) (by simp) (by rw[Hnn.o];exact hs) ho3);have Hx3:=Y4 (Hx2.o.trans hx3);have Hzz:=Y4 Hx2.o.size;clear hs hw3 hx3 ho3 hz3 hmk f0 f1 fl;go_wp2_with fail;refine Zhx HE.o ?_;rintro x w4 ⟨rfl,⟨vl,hs4⟩,hc4⟩;obtain⟨r,hr⟩:=gnX (Kg cl cp os os.length budget.toNat []);have HR:=HR.o;rw[hr]at hs4 HR⊢;rw[Hnn.o]at hs4;have HR:=Y4 HR;have hx4:Ext w w4:=Hx3.o.chg_new hc4 fun k hk=>by have:=Hzz.o;rcases hk with h|h|h<;>omega
   have hnat:Vo w4 (fun k=>w.heap.size≤k) vl r.ord:=Rd.of_own hs4.row (fun k hk=>by have:=Hzz.o;have:=(hs4.row.lt k hk).1;omega);obtain⟨a4,k4,hv4⟩:=Xb hs4.row;subst hv4;have c3:=hs4.c3;have c4:=hs4.c4;have c6:=hs4.c6;have Hx4:=Y4 hx4;have Hnat:=Y4 hnat;have Hz4:=Y4 hs4.lt;have hle:=(Lq (cl:=cl) (cp:=cp) (os:=os) os.length budget.toNat []).1;rw[hr]at hle;have hwr:IntKind.i64.wrap (budget-(r.left:Int))=budget-(r.left:Int):=Yp _ (by omega);clear hs4 hc4 hx4 hnat hr HE Hx3;cases hbk:r.broken with
   | true =>
    rw[hbk]at c4;have HR:=Y4 (show Vd cl cp os budget=([],0,28) by rw[HR.o,hbk,Zjx rfl]);go_wp2_with fail;go_ret3;unfold J6;rw[HR.o];exact⟨_,rfl,Gk _ _,Hx4.o⟩
   | false =>
    rw[hbk]at c4;cases hfd:r.found with
    | true =>
     have HR:=Y4 (show Vd cl cp os budget=(r.ord,budget-r.left,0) by rw[HR.o,hbk,hfd];rfl);go_wp2_with fail;go_region;go_wp2_with fail;go_ret3;unfold J6;rw[HR.o];exact⟨_,by first|rfl|(rw[hwr];rfl),Hnat.o.ext (Yl _).drew,Hx4.o.drew⟩
    | false =>
     have HR:=Y4 (show Vd cl cp os budget=([],budget-r.left,23) by rw[HR.o,hbk,hfd];rfl);go_wp2_with fail;go_region;go_wp2_with fail;go_ret3;unfold J6;rw[HR.o];exact⟨_,by first|rfl|(rw[hwr];rfl),Gk _ _,Hx4.o.drew⟩
 have hcq:(ch==0)=false:=by simpa using hc0
 have HR:=Y4 (show Vd cl cp os budget=([],0,ch) by unfold Vd;rw[hch,Zjx hc0]);clear hx hch HC F0 F1 Fl;go_wp2_with fail;go_ret3;unfold J6;rw[HR.o];exact⟨_,rfl,Gk _ _,Hx.o⟩
