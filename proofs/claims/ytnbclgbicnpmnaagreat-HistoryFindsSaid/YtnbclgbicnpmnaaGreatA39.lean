/- Lemmas of this claim: Dt. Conditions: as named. -/
import Derived.Test.YtnbclgbicnpmnaaGreatA38
namespace Go.Proofs.YtnbclgbicnpmnaaGreat
open Go.RowKit Go.Sort Tryz
set_option maxHeartbeats 0
set_option maxRecDepth 100000
set_option linter.all false
section
variable {cc:Int×Int}
theorem Zul{now n:Int}(h0:0≤now)(h1:now≤1073741824):0≤Nf now n∧Nf now n≤1073741824:=by
 have ht:=Q9 ⟨h0,h1⟩;by_cases hn:n<0
 ·rw[Pg ht hn];exact⟨h0,h1⟩
 by_cases hf:1073741824-now<n
 ·rw[Fn ht (by omega) hf];omega
 rw[Pf ht (by omega) (by omega)];omega
theorem Zn3{now n:Int}(h0:0≤now)(h1:now≤1073741824):now≤Nf now n:=by
 have ht:=Q9 ⟨h0,h1⟩;by_cases hn:n<0
 ·rw[Pg ht hn];omega
 by_cases hf:1073741824-now<n
 ·rw[Fn ht (by omega) hf];omega
 rw[Pf ht (by omega) (by omega)];omega
theorem Zp0{S:Nat→Prop}(xb:Nat)(x:Shr)(n:Int)(w:World)(h:Qc w S xb x)(hb:¬ S xb):Calls prog 79 #[.pointer (some ⟨xb,0,none⟩),.int .i64 n] w fun e w'=>e=.returned (.tuple #[])∧Qc w' S xb {x with clock:=Nf x.clock n}∧Chg (· = xb) w w':=by
 have x2:w.cell? ⟨xb,2,none⟩=some (.int .i64 x.clock):=h.c 2 rfl;have fz:=h.cells.fz;have H:=Y4 h;clear h;go_enter func79,ntmps79;go_wp2_with (go_at_call 116;refine(Ta _ _ _).mono ?_;rintro e w' ⟨rfl,rfl⟩);have c:Chg (· = xb) w (w.setCell ⟨xb,2,none⟩ (.int .i64 (Nf x.clock n))):=(Chg.refl (· = xb) w).setCell (p:=⟨xb,2,none⟩) (.inl rfl) _;refine bodyPost_end (v:=.tuple #[]) (by simp[results,results79,go_sem]) rfl ⟨rfl,⟨H.o.cells.set (j:=2) (by show 2<6;omega) _,Rd.chg H.o.ks c (fun _ hk e=>hb (e▸hk)),Rd.chg H.o.rs c (fun _ hk e=>hb (e▸hk))⟩,c⟩
structure DoD(cc:Int×Int)(d d':Dk):Prop where
 lin:V9 cc d'
 load:load d'≤load d+1
def Znq(cc:Int×Int)(U:Nat→Prop)(T:Tbl)(b B:Nat)(d:Dk)(w:World)(e:Ending)(w':World):Prop :=
 ∃ (r:Int) (d':Dk) (U':Nat→Prop),e=.returned (.int .i64 r)∧Wt w' U' T b B d'∧DoD cc d d'∧Chg U w w'∧d'.ms.length=d.ms.length∧d'.t=d.t+1∧d'.n≤d.n+1∧∀ k,U' k→U k∨w.heap.size≤k
theorem Zn9{U:Nat→Prop}(T:Tbl)(hf:Few T)(hu:Uq T)(b B:Nat)(d:Dk)(K C n:Int)(x:ByteArray)(w:World)(h:Wt w U T b B d)(hn:d.n≤99999)(ht:d.t≤1000000)(hl:V9 cc d)(hm:0<d.ms.length):Calls prog 32 #[.pointer (some ⟨b,0,none⟩),.agg #[.int .i64 K,.int .i64 C,.int .i64 n,.string x]] w (Znq cc U T b B d w):=by
 obtain⟨nn,hnn⟩:=gnX (d.ms.length);rw[hnn]at hm;have hn64:nn≤64:=by have:=h.lm;omega
 obtain⟨gm,om,cm,hmv,hpm⟩:=Rn h.ptr (k:=0) (x:=(d.ms[0]'(by omega)).1) (by rw[Zn,Zz (by omega)];rfl);rw[Zq,hnn]at hmv;clear hpm;have hx0:=(Yl w).alloc (.cells #[.int .i64 K,.int .i64 C,.int .i64 n,.string x] 78);have hA:=Xp.new w #[.int .i64 K,.int .i64 C,.int .i64 n,.string x] 78;obtain⟨W0,hW0⟩:=gnX (w.alloc (.cells #[.int .i64 K,.int .i64 C,.int .i64 n,.string x] 78));obtain⟨ab,hab⟩:=gnX (w.heap.size);rw[hW0]at hx0 hA;rw[hab]at hA;have hBa:B≤ab:=by have:=h.big;omega
 have H:=Y4 h;have D0:=Y4 (h.ext hx0);have A0:=Y4 hA;have X0:=Y4 hx0;have Hl:=Y4 hl;have Hnn:=Y4 hnn;have Hmv:=Y4 hmv;have Hf:=Y4 hf;have Hu:=Y4 hu;have Hn:=Y4 hn;have Ht:=Y4 ht;have Hab:=Y4 hab;clear h hl hnn hmv hx0 hA hf hu hn ht;go_enter func32,ntmps32;go_upto_region 2 with fail;try rw[hW0]
 try rw[hab]
 clear hW0 hab;have a0:W0.cell? ⟨ab,0,none⟩=some (.int .i64 K):=(A0.o.ext (Yl W0)).at_ 0 (by simp);have a1:W0.cell? ⟨ab,1,none⟩=some (.int .i64 C):=(A0.o.ext (Yl W0)).at_ 1 (by simp);have a2:W0.cell? ⟨ab,2,none⟩=some (.int .i64 n):=(A0.o.ext (Yl W0)).at_ 2 (by simp);have a3:W0.cell? ⟨ab,3,none⟩=some (.string x):=(A0.o.ext (Yl W0)).at_ 3 (by simp);have b1:W0.cell? ⟨b,1,none⟩=some (.slice (some ⟨gm,om,none⟩) nn cm):=by rw[← Hmv.o];exact(D0.o.ext (Yl W0)).c 1 rfl
 have l0:=lat a0;have l1:=lat a1;have l2:=lat a2;have l3:=lat a3;have e1:=lat b1;obtain⟨kn,hkn⟩:∃ q:Bool,(decide (0≤C)&&decide (C<(nn:Int)))=q:=⟨_,rfl⟩;have Hkn:=Y4 hkn;clear hkn;go_cut [6] (fun o wq=>o=.bool kn∧Ext W0 wq);case first =>
  rename_i J1 K1 hJ hM;cases q0:decide (0≤C)
  ·have hk:=Hkn.o;rw[q0]at hk;obtain rfl:kn=false:=by rw[← hk];rfl
   clear hk;have hun:=Yb;refine Y8 (by kernel_rfl) (by kernel_rfl) ?_;repeat((with_reducible refine Yu ?_);intro K hK;go_simp;(with_reducible refine hK _ ?_);clear hK K)
   (with_reducible refine Yt ?_)
   intro w1 hy1;clear hun;try simp only[Yc]
   refine hM _ _ (hJ _ _ ?_);(repeat apply Exists.intro)
   exact⟨⟨rfl,hy1⟩,rfl⟩
  cases q1:decide (C<(nn:Int))
  ·have hk:=Hkn.o;rw[q0,q1]at hk;obtain rfl:kn=false:=by rw[← hk];rfl
   clear hk;have hun:=Yb;refine Y8 (by kernel_rfl) (by kernel_rfl) ?_;repeat((with_reducible refine Yu ?_);intro K hK;go_simp;(with_reducible refine hK _ ?_);clear hK K)
   (with_reducible refine Yt ?_)
   intro w1 hy1;clear hun;try simp only[Yc]
   refine hM _ _ (hJ _ _ ?_);(repeat apply Exists.intro)
   exact⟨⟨rfl,hy1⟩,rfl⟩
  have hk:=Hkn.o;rw[q0,q1]at hk;obtain rfl:kn=true:=by rw[← hk];rfl
  clear hk;have hun:=Yb;refine Y8 (by kernel_rfl) (by kernel_rfl) ?_;repeat((with_reducible refine Yu ?_);intro K hK;go_simp;(with_reducible refine hK _ ?_);clear hK K)
  (with_reducible refine Yt ?_)
  intro w1 hy1;clear hun;try simp only[Yc]
  refine hM _ _ (hJ _ _ ?_);(repeat apply Exists.intro)
  exact⟨⟨rfl,hy1⟩,rfl⟩
 obtain⟨rfl,hy1⟩:=hcut;rename World=>w1
 have D1:=Y4 (D0.o.ext hy1);have C1:=Y4 (show Chg U w w1 from(X0.o.trans hy1).chg _);clear a0 a1 a2 a3 b1 l0 l1 l2 l3 e1;have a0:w1.cell? ⟨ab,0,none⟩=some (.int .i64 K):=(A0.o.ext hy1).at_ 0 (by simp);have a1:w1.cell? ⟨ab,1,none⟩=some (.int .i64 C):=(A0.o.ext hy1).at_ 1 (by simp);have a2:w1.cell? ⟨ab,2,none⟩=some (.int .i64 n):=(A0.o.ext hy1).at_ 2 (by simp);have a3:w1.cell? ⟨ab,3,none⟩=some (.string x):=(A0.o.ext hy1).at_ 3 (by simp);have b1:w1.cell? ⟨b,1,none⟩=some (.slice (some ⟨gm,om,none⟩) nn cm):=by rw[← Hmv.o];exact(D0.o.ext hy1).c 1 rfl
 by_cases hK1:K=1
 ·subst hK1;cases kn with
  | false =>
   go_upto_region 15 with fail;have c5:w1.cell? ⟨b,5,none⟩=some (.int .i64 ((d).t:Int)):=D1.o.c 5 rfl;have fz:=D1.o.cells.fz;obtain⟨t1,ht1⟩:∃ q:Nat,(d).t+1=q:=⟨_,rfl⟩;have r1:IntKind.i64.wrap (((d).t:Int)+1)=(t1:Int):=by rw[Yp _ (by have:=Ht.o;have:=trivial;omega)];omega
   go_wp2_with fail;go_ret;refine⟨_,{d with t:=t1},_,rfl,D1.o.setT t1,⟨V9.next (d:=d) (Hl.o.up) ht1,Zio _⟩,(C1.o).setCell (p:=⟨b,5,none⟩) (.inl H.o.ub) _,?_,?_,?_,fun _=>.inl⟩
   ·rfl
   ·exact ht1.symm
   exact Zio _
  | true =>
   have hq:=Hkn.o;rw[Zjg,Zjm,Zjm]at hq;obtain⟨q0,q1⟩:=hq;obtain⟨c,rfl⟩:∃ q:Nat,C=q:=⟨C.toNat,by omega⟩;have q2:c<nn:=by omega
   obtain⟨s,hsx⟩:∃ s,d.bx[c]?=some s:=⟨d.bx[c]'(by rw[H.o.lb,Hnn.o];exact q2),Zz _⟩;obtain⟨l,hlx⟩:∃ l,d.bs_[c]?=some l:=⟨d.bs_[c]'(by rw[H.o.lbs,Hnn.o];exact q2),Zz _⟩;obtain⟨hbr,hb8⟩:=D1.o.boxes c s l hsx hlx;obtain⟨sa,sn,sc⟩:=s;obtain⟨_,_,hse,hsc,hscm⟩:=hbr.shape;simp only[Sl.v,Ye]at hse;obtain⟨rfl,hsn,rfl⟩:=hse;have hbx:d.bx.length=nn:=by rw[H.o.lb];exact Hnn.o
   have b2:w1.cell? ⟨b,2,none⟩=some (.slice (some ⟨d.gb,0,none⟩) nn d.cb):=by rw[← hbx];exact D1.o.c 2 rfl
   have bk:w1.cell? ⟨d.gb,c,none⟩=some (.slice sa sn sc):=Own.at_ (E:=ssE) D1.o.box (Ir hsx);have e2:=lat b2;have ek:=lat bk;have l0:=lat a0;have l1:=lat a1;have l2:=lat a2;have l3:=lat a3;have e1:=lat b1;have Hsx:=Y4 hsx;have Hlx:=Y4 hlx;have Hsn:=Y4 hsn;clear hsx hlx hbr hsc hscm hsn hbx;go_upto_region 5 with fail;cases p0:decide ((4096:Int)<(x.size:Int))
   ·cases p1:decide ((8:Int)≤(sn:Int))
    ·have hun:=Yb;refine Y8 (by kernel_rfl) (by kernel_rfl) ?_;repeat((with_reducible refine Yu ?_);intro K hK;go_simp;(with_reducible refine hK _ ?_);clear hK K)
     (with_reducible refine Yt ?_)
     intro w2 hy2;clear hun;try simp only[Yc]
     have D2:=Y4 (D1.o.ext hy2);have C2:=Y4 (C1.o.trans (hy2.chg _));have Y2:=Y4 (hy1.trans hy2);have hs8:sn<8:=by have:=Zj8 p1;omega
     have Hr2:=Y4 (show RdE Jr w2 (fun j=>¬ U j) (.slice sa sn sc) l from(D2.o.boxes c _ l Hsx.o Hlx.o).1);clear a0 a1 a2 a3 b1 b2 bk l0 l1 l2 l3 e1 e2 ek hy1 hy2 D1 C1;have a0:w2.cell? ⟨ab,0,none⟩=some (.int .i64 1):=(A0.o.ext Y2.o).at_ 0 (by simp);have a1:w2.cell? ⟨ab,1,none⟩=some (.int .i64 (c:Int)):=(A0.o.ext Y2.o).at_ 1 (by simp);have a3:w2.cell? ⟨ab,3,none⟩=some (.string x):=(A0.o.ext Y2.o).at_ 3 (by simp);have b2:w2.cell? ⟨b,2,none⟩=some (.slice (some ⟨d.gb,0,none⟩) nn d.cb):=by rw[show nn=d.bx.length from by rw[H.o.lb];exact Hnn.o.symm];exact D2.o.c 2 rfl
     have bk:w2.cell? ⟨d.gb,c,none⟩=some (.slice sa sn sc):=Own.at_ (E:=ssE) D2.o.box (Ir Hsx.o);go_upto_region 8 with fail;have e2:=lat b2;have ek:=lat bk;have l1:=lat a1;have l3:=lat a3;refine Qm (S:=Lat w2) 19 21 (by kernel_rfl) (by omega) (by kernel_rfl) (by kernel_rfl) ?_;refine Xv [0,1,2,3,4,5,6,7,8,9,10,11,12,13,15,16] 3 (by rfl) (by kernel_rfl) (by kernel_rfl) (fun _ _ d _ _ h=>by cases d<;>exact h) Lat.drew ?_;simp only[Z3,Z4,Z5,Zw,Zx];repeat(refine Xu (v:=?_) (by kernel_rfl) ?_ ?_;rotate_left;(focus((rintro wT ⟨pT,rfl⟩;go_simp);(first|done|(with_reducible rfl))));(try simp only[Act.put,Zv,Zu,Zt]))
     refine Xs ?_;clear e2 ek l1 l3;refine Zjv (rs:=[14,17]) (by kernel_rfl) (by simp) ?_;refine Yr (o:=_) rfl (fun K hK=>?_) (Yr (o:=_) rfl (fun K hK=>?_) Yq)
     ·refine Vj Jr (Operand.const (Value.slice none 0 0)) (.tmp 67) 24 (by rfl) (by rfl) (by rfl) (by rfl) (Own.nil Jr _ w2.heap.size) (by rfl) (Rd.ext Hr2.o (Yl w2).drew) (by rw[← Hsn.o];show 0+sn≤_;omega) (by show 16≤1000;omega) (Yn _) ?_;intro A5 n5 c5 w5 hg5;have G5:=Y4 hg5;have Y5:=Y4 (hg5.ext w2 (Yl w2).drew (Yn _));refine hK.out _ _ (Lat.of Y5.o) (fun hHeld=>?_);clear hHeld hK K hg5;try simp only[Act.put,Zv,Zu,Zt]
      refine Zjv (rs:=[17]) (by kernel_rfl) (by simp) ?_;refine Yr (o:=_) rfl (fun K hK=>?_) Yq;go_simp;have Y6:=Y4 (Y5.o.alloc (.cells #[.string x] 9));have O6:=Y4 (G5.o.own.ext ((Yl w5).alloc (.cells #[.string x] 9)));have R6:=Y4 (Nv w5 x 9 _ rfl);have B6:=Y4 (show w2.heap.size≤(w5.alloc (.cells #[.string x] 9)).heap.size from Y6.o.size);obtain⟨W6,hW6⟩:=gnX (w5.alloc (.cells #[.string x] 9));rw[hW6]at Y6 O6 R6 B6;try rw[hW6]
      clear hW6;obtain⟨gt,hgt⟩:=gnX (w5.heap.size);try rw[hgt]at R6
      try rw[hgt]
      clear hgt;refine hK.out _ _ (Lat.of Y6.o) (fun hHeld=>?_);clear hHeld hK K;try simp only[Act.put,Zv,Zu,Zt]
      refine Zjv (rs:=[18]) (by kernel_rfl) (by simp) ?_;refine Yr (o:=_) rfl (fun K hK=>?_) Yq;refine Vj Jr (.tmp 68) (.tmp 71) 24 (by rfl) (by rfl) (by rfl) (by rfl) O6.o (by rfl) R6.o (by rw[Zo,← Hsn.o];show sn+1≤_;omega) (by show 16≤1000;omega) B6.o ?_;intro A7 n7 c7 w7 hg7;have G7:=Y4 hg7;have Y7:=Y4 (hg7.ext w2 Y6.o (Yn _));refine hK.out _ _ (Lat.of Y7.o) (fun hHeld=>?_);clear hHeld hK K hg7;refine Zjf (by kernel_rfl) ?_ _;simp only[Jg,Z6,Z7];try simp only[Act.put,Zv,Zu,Zt]
      have D7:=Y4 (D2.o.ext Y7.o);have hlen7:n7=l.length+1:=by rw[G7.o.len,Zo,Zs];rfl
      have r7:RdE Jr w7 (fun j=>¬ U j) (Sl.v ⟨A7,n7,c7⟩) (l++[x]):=by
       have h7:=G7.o.own.rd;rw[Zo]at h7;exact Rd.mono h7 fun j hj _ hu=>by have:=(D2.o.hU j hu).2;omega
      have D8:=Y4 (D7.o.setBox (k:=c) (by rw[Hnn.o];exact q2) ⟨A7,n7,c7⟩ (l++[x]) r7 (by rw[Zs,← Hsn.o];show sn+1≤8;omega));have C8:=Y4 ((C2.o.trans (Y7.o.chg _)).setCell (p:=⟨d.gb,c,none⟩) (.inl H.o.ugb) (Sl.v ⟨A7,n7,c7⟩));have ck:w7.cell? ⟨d.gb,c,none⟩=some (.slice sa sn sc):=Own.at_ (E:=ssE) D7.o.box (Ir Hsx.o);have fz:w7.frozen? ⟨d.gb,c,none⟩=false:=Own.thaw (E:=ssE) D7.o.box c;clear r7 hlen7 a0 a1 a3 b2 bk;go_upto_region 15 with fail;obtain⟨W8,hW8⟩:=gnX (w7.setCell ⟨d.gb,c,none⟩ (.slice A7 n7 c7));rw[show w7.setCell ⟨d.gb,c,none⟩ (Sl.v ⟨A7,n7,c7⟩)=W8 from hW8]at D8 C8;rw[hW8];clear hW8 ck fz D7;have c5:W8.cell? ⟨b,5,none⟩=some (.int .i64 (({d with bx:=d.bx.set c ⟨A7,n7,c7⟩,bs_:=d.bs_.set c (l++[x])}).t:Int)):=D8.o.c 5 rfl;have fz:=D8.o.cells.fz;obtain⟨t1,ht1⟩:∃ q:Nat,({d with bx:=d.bx.set c ⟨A7,n7,c7⟩,bs_:=d.bs_.set c (l++[x])}).t+1=q:=⟨_,rfl⟩;have r1:IntKind.i64.wrap ((({d with bx:=d.bx.set c ⟨A7,n7,c7⟩,bs_:=d.bs_.set c (l++[x])}).t:Int)+1)=(t1:Int):=by rw[Yp _ (by have:=Ht.o;have:=(show({d with bx:=d.bx.set c ⟨A7,n7,c7⟩,bs_:=d.bs_.set c (l++[x])}:Dk).t=d.t from rfl);omega)];omega
      go_wp2_with fail;go_ret;refine⟨_,{ {d with bx:=d.bx.set c ⟨A7,n7,c7⟩,bs_:=d.bs_.set c (l++[x])}with t:=t1},_,rfl,D8.o.setT t1,⟨V9.next (d:={d with bx:=d.bx.set c ⟨A7,n7,c7⟩,bs_:=d.bs_.set c (l++[x])}) (Hl.o.up) ht1,(by have:=Az List.length (b:=l++[x]) Hlx.o;rw[Zs]at this;simp only[Zj3]at this;show d.ops.length+((d.bs_.set c (l++[x])).map List.length).sum≤d.ops.length+(d.bs_.map List.length).sum+1;omega)⟩,(C8.o).setCell (p:=⟨b,5,none⟩) (.inl H.o.ub) _,?_,?_,?_,fun _=>.inl⟩
      ·rfl
      ·exact ht1.symm
      exact Zio _
     go_simp;have Y5:=Y4 ((Yl w2).alloc (.cells #[.string x] 9)).drew;have R5:=Y4 (RdE.ext (Nv w2 x 9 w2.heap.size rfl) (Yl _).drew);have B5:=Y4 (show w2.heap.size≤(w2.alloc (.cells #[.string x] 9)).drew.heap.size from Y5.o.size);obtain⟨W5,hW5⟩:=gnX ((w2.alloc (.cells #[.string x] 9)).drew);rw[hW5]at Y5 R5 B5;try rw[hW5]
     clear hW5;obtain⟨gt,hgt⟩:=gnX (w2.heap.size);rw[hgt]at R5;try rw[hgt]
     refine hK.out _ _ (Lat.of Y5.o) (fun hHeld=>?_);clear hHeld hK K;try simp only[Act.put,Zv,Zu,Zt]
     refine Zjv (rs:=[14]) (by kernel_rfl) (by simp) ?_;refine Yr (o:=_) rfl (fun K hK=>?_) Yq;refine Vj Jr (Operand.const (Value.slice none 0 0)) (.tmp 67) 24 (by rfl) (by rfl) (by rfl) (by rfl) (Own.nil Jr _ w2.heap.size) (by rfl) (Rd.ext Hr2.o Y5.o) (by rw[← Hsn.o];show 0+sn≤_;omega) (by show 16≤1000;omega) B5.o ?_;intro A5 n5 c5 w6 hg5;have G5:=Y4 hg5;have Y6:=Y4 (hg5.ext w2 Y5.o (Yn _));have O6:=Y4 hg5.own;have R6:=Y4 (Rd.chg R5.o hg5.chg (fun k _ e=>by cases e));have B6:=Y4 (show w2.heap.size≤w6.heap.size from Y6.o.size);clear hgt;refine hK.out _ _ (Lat.of Y6.o) (fun hHeld=>?_);clear hHeld hK K hg5;try simp only[Act.put,Zv,Zu,Zt]
     refine Zjv (rs:=[18]) (by kernel_rfl) (by simp) ?_;refine Yr (o:=_) rfl (fun K hK=>?_) Yq;refine Vj Jr (.tmp 68) (.tmp 71) 24 (by rfl) (by rfl) (by rfl) (by rfl) O6.o (by rfl) R6.o (by rw[Zo,← Hsn.o];show sn+1≤_;omega) (by show 16≤1000;omega) B6.o ?_;intro A7 n7 c7 w7 hg7;have G7:=Y4 hg7;have Y7:=Y4 (hg7.ext w2 Y6.o (Yn _));refine hK.out _ _ (Lat.of Y7.o) (fun hHeld=>?_);clear hHeld hK K hg7;refine Zjf (by kernel_rfl) ?_ _;simp only[Jg,Z6,Z7];try simp only[Act.put,Zv,Zu,Zt]
     have D7:=Y4 (D2.o.ext Y7.o);have hlen7:n7=l.length+1:=by rw[G7.o.len,Zo,Zs];rfl
     have r7:RdE Jr w7 (fun j=>¬ U j) (Sl.v ⟨A7,n7,c7⟩) (l++[x]):=by
      have h7:=G7.o.own.rd;rw[Zo]at h7;exact Rd.mono h7 fun j hj _ hu=>by have:=(D2.o.hU j hu).2;omega
     have D8:=Y4 (D7.o.setBox (k:=c) (by rw[Hnn.o];exact q2) ⟨A7,n7,c7⟩ (l++[x]) r7 (by rw[Zs,← Hsn.o];show sn+1≤8;omega));have C8:=Y4 ((C2.o.trans (Y7.o.chg _)).setCell (p:=⟨d.gb,c,none⟩) (.inl H.o.ugb) (Sl.v ⟨A7,n7,c7⟩));have ck:w7.cell? ⟨d.gb,c,none⟩=some (.slice sa sn sc):=Own.at_ (E:=ssE) D7.o.box (Ir Hsx.o);have fz:w7.frozen? ⟨d.gb,c,none⟩=false:=Own.thaw (E:=ssE) D7.o.box c;clear r7 hlen7 a0 a1 a3 b2 bk;go_upto_region 15 with fail;obtain⟨W8,hW8⟩:=gnX (w7.setCell ⟨d.gb,c,none⟩ (.slice A7 n7 c7));rw[show w7.setCell ⟨d.gb,c,none⟩ (Sl.v ⟨A7,n7,c7⟩)=W8 from hW8]at D8 C8;rw[hW8];clear hW8 ck fz D7;have c5:W8.cell? ⟨b,5,none⟩=some (.int .i64 (({d with bx:=d.bx.set c ⟨A7,n7,c7⟩,bs_:=d.bs_.set c (l++[x])}).t:Int)):=D8.o.c 5 rfl;have fz:=D8.o.cells.fz;obtain⟨t1,ht1⟩:∃ q:Nat,({d with bx:=d.bx.set c ⟨A7,n7,c7⟩,bs_:=d.bs_.set c (l++[x])}).t+1=q:=⟨_,rfl⟩;have r1:IntKind.i64.wrap ((({d with bx:=d.bx.set c ⟨A7,n7,c7⟩,bs_:=d.bs_.set c (l++[x])}).t:Int)+1)=(t1:Int):=by rw[Yp _ (by have:=Ht.o;have:=(show({d with bx:=d.bx.set c ⟨A7,n7,c7⟩,bs_:=d.bs_.set c (l++[x])}:Dk).t=d.t from rfl);omega)];omega
     go_wp2_with fail;go_ret;refine⟨_,{ {d with bx:=d.bx.set c ⟨A7,n7,c7⟩,bs_:=d.bs_.set c (l++[x])}with t:=t1},_,rfl,D8.o.setT t1,⟨V9.next (d:={d with bx:=d.bx.set c ⟨A7,n7,c7⟩,bs_:=d.bs_.set c (l++[x])}) (Hl.o.up) ht1,(by have:=Az List.length (b:=l++[x]) Hlx.o;rw[Zs]at this;simp only[Zj3]at this;show d.ops.length+((d.bs_.set c (l++[x])).map List.length).sum≤d.ops.length+(d.bs_.map List.length).sum+1;omega)⟩,(C8.o).setCell (p:=⟨b,5,none⟩) (.inl H.o.ub) _,?_,?_,?_,fun _=>.inl⟩
     ·rfl
     ·exact ht1.symm
     exact Zio _
    have hun:=Yb;refine Y8 (by kernel_rfl) (by kernel_rfl) ?_;repeat((with_reducible refine Yu ?_);intro K hK;go_simp;(with_reducible refine hK _ ?_);clear hK K)
    (with_reducible refine Yt ?_)
    intro w2 hy2;clear hun;try simp only[Yc]
    have D2:=Y4 (D1.o.ext hy2);have C2:=Y4 (C1.o.trans (hy2.chg _));go_upto_region 15 with fail;have c5:w2.cell? ⟨b,5,none⟩=some (.int .i64 ((d).t:Int)):=D2.o.c 5 rfl;have fz:=D2.o.cells.fz;obtain⟨t1,ht1⟩:∃ q:Nat,(d).t+1=q:=⟨_,rfl⟩;have r1:IntKind.i64.wrap (((d).t:Int)+1)=(t1:Int):=by rw[Yp _ (by have:=Ht.o;have:=trivial;omega)];omega
    go_wp2_with fail;go_ret;refine⟨_,{d with t:=t1},_,rfl,D2.o.setT t1,⟨V9.next (d:=d) (Hl.o.up) ht1,Zio _⟩,(C2.o).setCell (p:=⟨b,5,none⟩) (.inl H.o.ub) _,?_,?_,?_,fun _=>.inl⟩
    ·rfl
    ·exact ht1.symm
    exact Zio _
   have hun:=Yb;refine Y8 (by kernel_rfl) (by kernel_rfl) ?_;repeat((with_reducible refine Yu ?_);intro K hK;go_simp;(with_reducible refine hK _ ?_);clear hK K)
   (with_reducible refine Yt ?_)
   intro w2 hy2;clear hun;try simp only[Yc]
   have D2:=Y4 (D1.o.ext hy2);have C2:=Y4 (C1.o.trans (hy2.chg _));go_upto_region 15 with fail;have c5:w2.cell? ⟨b,5,none⟩=some (.int .i64 ((d).t:Int)):=D2.o.c 5 rfl;have fz:=D2.o.cells.fz;obtain⟨t1,ht1⟩:∃ q:Nat,(d).t+1=q:=⟨_,rfl⟩;have r1:IntKind.i64.wrap (((d).t:Int)+1)=(t1:Int):=by rw[Yp _ (by have:=Ht.o;have:=trivial;omega)];omega
   go_wp2_with fail;go_ret;refine⟨_,{d with t:=t1},_,rfl,D2.o.setT t1,⟨V9.next (d:=d) (Hl.o.up) ht1,Zio _⟩,(C2.o).setCell (p:=⟨b,5,none⟩) (.inl H.o.ub) _,?_,?_,?_,fun _=>.inl⟩
   ·rfl
   ·exact ht1.symm
   exact Zio _
 have f1:(K==1)=false:=by simp[hK1]
 have l0:=lat a0;have l1:=lat a1;have l2:=lat a2;have l3:=lat a3;have e1:=lat b1;go_upto_region 5 with fail;have hun:=Yb;refine Y8 (by kernel_rfl) (by kernel_rfl) ?_;repeat((with_reducible refine Yu ?_);intro K hK;go_simp;(with_reducible refine hK _ ?_);clear hK K)
 (with_reducible refine Yt ?_)
 intro w2 hy2;clear hun;try simp only[Yc]
 have D2:=Y4 (D1.o.ext hy2);have C2:=Y4 (C1.o.trans (hy2.chg _));have Y2:=Y4 (hy1.trans hy2);clear a0 a1 a2 a3 b1 l0 l1 l2 l3 e1 hy1 hy2 D1 C1;have a0:w2.cell? ⟨ab,0,none⟩=some (.int .i64 K):=(A0.o.ext Y2.o).at_ 0 (by simp);have a1:w2.cell? ⟨ab,1,none⟩=some (.int .i64 C):=(A0.o.ext Y2.o).at_ 1 (by simp);have a2:w2.cell? ⟨ab,2,none⟩=some (.int .i64 n):=(A0.o.ext Y2.o).at_ 2 (by simp);have a3:w2.cell? ⟨ab,3,none⟩=some (.string x):=(A0.o.ext Y2.o).at_ 3 (by simp);have b1:w2.cell? ⟨b,1,none⟩=some (.slice (some ⟨gm,om,none⟩) nn cm):=by rw[← Hmv.o];exact(D0.o.ext Y2.o).c 1 rfl
 by_cases hK2:K=2
 ·subst hK2;cases kn with
  | false =>
   go_upto_region 15 with fail;have c5:w2.cell? ⟨b,5,none⟩=some (.int .i64 ((d).t:Int)):=D2.o.c 5 rfl;have fz:=D2.o.cells.fz;obtain⟨t1,ht1⟩:∃ q:Nat,(d).t+1=q:=⟨_,rfl⟩;have r1:IntKind.i64.wrap (((d).t:Int)+1)=(t1:Int):=by rw[Yp _ (by have:=Ht.o;have:=trivial;omega)];omega
   go_wp2_with fail;go_ret;refine⟨_,{d with t:=t1},_,rfl,D2.o.setT t1,⟨V9.next (d:=d) (Hl.o.up) ht1,Zio _⟩,(C2.o).setCell (p:=⟨b,5,none⟩) (.inl H.o.ub) _,?_,?_,?_,fun _=>.inl⟩
   ·rfl
   ·exact ht1.symm
   exact Zio _
  | true =>
   have hq:=Hkn.o;rw[Zjg,Zjm,Zjm]at hq;obtain⟨q0,q1⟩:=hq;obtain⟨c,rfl⟩:∃ q:Nat,C=q:=⟨C.toNat,by omega⟩;have q2:c<nn:=by omega
   go_wp2_with fail;refine(Sd T Hf.o Hu.o b B c d _ D2.o Hn.o (by have:=Ht.o;omega) Hl.o (by rw[Hnn.o];exact q2)).mono ?_;rintro e w3 ⟨r,d',U',rfl,hD,hL,hC,hm',ht',hn',hu'⟩;have D3:=Y4 hD;have L3:=Y4 hL;have C3:=Y4 (C2.o.trans hC);have Ht':=Y4 ht';have Hm':=Y4 hm';have Hu':=Y4 (show ∀ k,U' k→U k∨w.heap.size≤k from fun k hk=>(hu' k hk).imp id (Zjw C2.o.size));clear hD hL hC ht' hm' hu';go_upto_region 15 with fail;have c5:w3.cell? ⟨b,5,none⟩=some (.int .i64 ((d').t:Int)):=D3.o.c 5 rfl;have fz:=D3.o.cells.fz;obtain⟨t1,ht1⟩:∃ q:Nat,(d').t+1=q:=⟨_,rfl⟩;have r1:IntKind.i64.wrap (((d').t:Int)+1)=(t1:Int):=by rw[Yp _ (by have:=Ht.o;have:=Ht'.o;omega)];omega
   go_wp2_with fail;go_ret;refine⟨_,{d' with t:=t1},_,rfl,D3.o.setT t1,⟨V9.next (d:=d') ((by rw[Ht'.o];exact L3.o.lin)) ht1,Zjw L3.o.load (Zio _)⟩,(C3.o).setCell (p:=⟨b,5,none⟩) (.inl H.o.ub) _,?_,?_,?_,Hu'.o⟩
   ·exact Hm'.o
   ·show t1=d.t+1;rw[← Ht'.o];exact ht1.symm
   exact hn'
 have f2:(K==2)=false:=by simp[hK2]
 have f2b:(K !=2)=true:=by simp[hK2]
 by_cases hK3:K=3
 ·subst hK3;have c0:w2.cell? ⟨b,0,none⟩=some (.pointer (some ⟨d.xb,0,none⟩)):=D2.o.c 0 rfl;go_upto_region 12 with fail;refine Zjo (S:=fun w'=>w'.cell? ⟨b,0,none⟩=some (.pointer (some ⟨d.xb,0,none⟩))∧w'.cell? ⟨ab,2,none⟩=some (.int .i64 n)∧True) (by kernel_rfl) ?_ (fun hHeld=>?_)
  ·exact⟨c0,a2,trivial⟩
  refine Xv [0,1,2,3,4,5] 1 (by rfl) (by kernel_rfl) (by kernel_rfl) (fun _ _ d _ _ h=>by cases d<;>exact h) hHeld ?_;simp only[Z3,Z4,Z5,Zw,Zx];repeat(refine Xu (v:=?_) (by kernel_rfl) ?_ ?_;rotate_left;(focus((intro wT hST;obtain⟨hS0,hS1,hS2⟩:=hST;go_simp);(first|done|(with_reducible rfl))));(try simp only[Act.put,Zv,Zu,Zt]))
  refine Xs ?_;clear hHeld;have D2d:=Y4 (D2.o.ext (Yl w2).drew);have A2:=Y4 ((A0.o.ext Y2.o).ext (Yl w2).drew);refine Zjv (rs:=[6]) (by kernel_rfl) (by simp) ?_;refine Yr (o:=_) rfl (fun K hK=>?_) Yq;go_simp;refine(Zp0 d.xb d.x n _ D2d.o.shr (fun q=>q H.o.ux)).mono ?_;rintro e w3 ⟨rfl,hX,hC⟩;obtain⟨mb,m,hm0⟩:∃ mb m,d.ms[0]?=some (mb,m):=⟨_,_,Zz (by rw[Hnn.o];exact hm)⟩;have hmm:=D2d.o.mach _ (Zy hm0);have hne:=(H.o.ne.2.2.2.2.2.2 _ (Zy hm0)).2.1;have D3:=Y4 (D2d.o.step hm0 (hC.mono fun _ _ e=>.inr e) (hmm.1.chg hC hne (fun j hj e=>hj (e▸H.o.ux))) hmm.2 hX (by
   have k:=H.o.xok.up;have hb:=Zul (n:=n) H.o.xok.c0 H.o.xok.c1;exact⟨hb.1,hb.2,k.m0,k.m1,k.k,k.r⟩))
  have C3:=Y4 (C2.o.trans ((Yl w2).drew.chg _ |>.trans (hC.mono fun _ _ e=>e▸H.o.ux)));have hms:d.ms.set 0 (mb,m)=d.ms:=by
   apply Zhd;intro j;by_cases e:0=j
   ·subst e;rw[Zc (by rw[Hnn.o];exact hm)];exact hm0.symm
   rw[Zb e]
  have L3:=Y4 (show Znj cc {d with x:={d.x with clock:=Nf d.x.clock n},ms:=d.ms.set 0 (mb,m),n:=d.n+1} ((d.t:Int)+1) from by
   have h9:=Lin.tick Hl.o.1 (Zn3 (n:=n) H.o.xok.c0 H.o.xok.c1) (Zul (n:=n) H.o.xok.c0 H.o.xok.c1).2;unfold Znj;rw[hms];exact⟨h9,Hl.o.2⟩)
  have s0:w3.cell? ⟨b,0,none⟩=some (.pointer (some ⟨d.xb,0,none⟩)):=D3.o.c 0 rfl;have s2:w3.cell? ⟨ab,2,none⟩=some (.int .i64 n):=(A2.o.chg hC (by have:=(H.o.hU _ H.o.ux).2;have:=Hab.o;omega)).at_ 2 (by simp);refine hK.out _ _ ⟨s0,s2,trivial⟩ (fun hHeld=>?_);clear hHeld hK K hX hC hmm hne hms hm0 s0 s2 D2d A2 c0;refine Zjf (by kernel_rfl) ?_ _;go_simp;clear a0;go_upto_region 15 with fail;have c5:w3.cell? ⟨b,5,none⟩=some (.int .i64 (({d with x:={d.x with clock:=Nf d.x.clock n},ms:=d.ms.set 0 (mb,m),n:=d.n+1}).t:Int)):=D3.o.c 5 rfl;have fz:=D3.o.cells.fz;obtain⟨t1,ht1⟩:∃ q:Nat,({d with x:={d.x with clock:=Nf d.x.clock n},ms:=d.ms.set 0 (mb,m),n:=d.n+1}).t+1=q:=⟨_,rfl⟩;have r1:IntKind.i64.wrap ((({d with x:={d.x with clock:=Nf d.x.clock n},ms:=d.ms.set 0 (mb,m),n:=d.n+1}).t:Int)+1)=(t1:Int):=by rw[Yp _ (by have:=Ht.o;have:=(show({d with x:={d.x with clock:=Nf d.x.clock n},ms:=d.ms.set 0 (mb,m),n:=d.n+1}:Dk).t=d.t from rfl);omega)];omega
  go_wp2_with fail;go_ret;refine⟨_,{ {d with x:={d.x with clock:=Nf d.x.clock n},ms:=d.ms.set 0 (mb,m),n:=d.n+1}with t:=t1},_,rfl,D3.o.setT t1,⟨V9.next (d:={d with x:={d.x with clock:=Nf d.x.clock n},ms:=d.ms.set 0 (mb,m),n:=d.n+1}) (L3.o) ht1,Zio _⟩,(C3.o).setCell (p:=⟨b,5,none⟩) (.inl H.o.ub) _,?_,?_,?_,fun _=>.inl⟩
  ·show(d.ms.set 0 (mb,m)).length=d.ms.length;rw[Zf]
  ·exact ht1.symm
  exact Yn _
 have f3:(K==3)=false:=by simp[hK3]
 go_upto_region 15 with fail;have c5:w2.cell? ⟨b,5,none⟩=some (.int .i64 ((d).t:Int)):=D2.o.c 5 rfl;have fz:=D2.o.cells.fz;obtain⟨t1,ht1⟩:∃ q:Nat,(d).t+1=q:=⟨_,rfl⟩;have r1:IntKind.i64.wrap (((d).t:Int)+1)=(t1:Int):=by rw[Yp _ (by have:=Ht.o;have:=trivial;omega)];omega
 go_wp2_with fail;go_ret;refine⟨_,{d with t:=t1},_,rfl,D2.o.setT t1,⟨V9.next (d:=d) (Hl.o.up) ht1,Zio _⟩,(C2.o).setCell (p:=⟨b,5,none⟩) (.inl H.o.ub) _,?_,?_,?_,fun _=>.inl⟩
 ·rfl
 ·exact ht1.symm
 exact Zio _
end
