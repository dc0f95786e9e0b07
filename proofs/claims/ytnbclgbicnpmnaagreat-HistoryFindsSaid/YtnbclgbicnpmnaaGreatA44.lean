/- Lemmas of this claim: Tg, Kr. Conditions: as named. -/
import Derived.Deep.RegionLaw
import Derived.Test.YtnbclgbicnpmnaaGreatA29
namespace Go.Proofs.YtnbclgbicnpmnaaGreat
open Go.RowKit Go.Sort Tryz
set_option maxHeartbeats 0
set_option maxRecDepth 100000
set_option linter.all false
def Znl(w:World)(e:Ending)(w':World):Prop:=∃ (s:ByteArray) (er:Int),e=.returned (.tuple #[.string s,.int .i64 er])∧s.size≤4096∧Ext w w'
theorem Zwt{R:Nat→Prop}(op ttl:Int)(v:Value)(l:List ByteArray)(w:World)(h:RdE Jr w R v l)(hll:l.length≤1000)(hmem:∀ x∈l,x.size≤100000):Calls prog 89 #[.agg #[.int .i64 op,.int .i64 ttl,v]] w (Znl w):=by
 obtain⟨A,C,rfl,hlC,hC⟩:=h.shape;obtain⟨n,hn⟩:=gnX (l.length);have HL:=Y4 h;rw[hn]at hlC hll⊢;have Hn:=Y4 hn;have Hmem:=Y4 hmem;have hx1:=(Yl w).alloc (.cells #[.int .i64 op,.int .i64 ttl,.slice A n C] 168);have Hx1:=Y4 hx1;clear h hn hmem hx1;obtain⟨t,ht,A1⟩:=Ig op;cases h0:(t.toList==[])
 rotate_left
 ·have e1:t.toList.isEmpty=true:=by simpa using h0
  have e2:t.toList=[]:=by simpa using h0
  go_enter func89,ntmps89;go_wp2_with (go_at_call 128;refine(A1 _).mono ?_;rintro e w' ⟨rfl,rfl⟩);go_ret2;exact⟨_,_,rfl,by show 0≤4096;omega,Hx1.o⟩
 have e1:t.toList.isEmpty=false:=by simpa using h0
 have e2:¬ t.toList=[]:=by simpa using h0
 cases hT:Fw op
 ·cases hz:(ttl==0)
  ·have z1:(!(ttl==0))=true:=by rw[hz];rfl
   have z2:(ttl !=0)=true:=z1;have z3:¬ ttl=0:=by simpa using hz
   go_enter func89,ntmps89;go_wp2_with (first|(go_at_call 128;refine(A1 _).mono ?_;rintro e w' ⟨rfl,rfl⟩)|(go_at_call 129;refine(Qd op _).mono ?_;rintro e w' ⟨rfl,rfl⟩;rw[hT]));go_ret2;exact⟨_,_,rfl,by show 0≤4096;omega,Hx1.o⟩
  obtain rfl:ttl=0:=by simpa using hz
  cases h7:(op==7)
  ·go_enter func89,ntmps89;go_wp2_with (first|(go_at_call 128;refine(A1 _).mono ?_;rintro e w' ⟨rfl,rfl⟩)|(go_at_call 129;refine(Qd op _).mono ?_;rintro e w' ⟨rfl,rfl⟩;rw[hT]));go_loopw [62,4] (fun o t wr=>∃ (i:Nat) (u:ByteArray),i≤n∧o=.int .i64 (i:Int)∧t=.string u∧u.size≤1073741900+300010*i∧Ext w wr) (fun o _ _=>n-(intOf o).toNat);case atStart=>exact⟨0,_,by omega,rfl,rfl,(by omega),Hx1.o⟩
   obtain⟨i,u,hi,rfl,rfl,hus,hx⟩:=hrel;by_cases hlt:i<n
   ·obtain⟨hd_i,i0_i,i1_i⟩:=LTl i n;obtain⟨x,hx0⟩:=geX (l:=l) (i:=i) (by rw[Hn.o];exact hlt);obtain⟨g,o,c,hv,_,_,_,hg,c0⟩:=strs_get (HL.o.ext hx) hx0;rw[Hn.o]at hv;simp only[Ye]at hv;obtain⟨rfl,-,rfl⟩:=hv;have hxs:=Hmem.o x (Zy hx0);clear hx0;go_wp2_with fail;refine(Mj x hxs _).mono ?_;rintro e w5 ⟨q,rfl,hq,hx5⟩;have h1:¬ 9223372036854775807<1+q.size:=by omega
    obtain⟨Z,hZ⟩:=gnX ((⟨#[32]⟩:ByteArray)++q);have hZs:Z.size=1+q.size:=by rw[← hZ,Ym];rfl
    have h2:¬ 9223372036854775807<u.size+Z.size:=by omega
    have HZs:=Y4 hZs;clear hZs;go_wp2_with fail;go_roundw;case rel=>exact⟨i+1,_,by omega,by go_num,rfl,by have:=HZs.o;rw[Ym];omega,hx.trans hx5⟩
    (simp[intOf];omega)
   have hd_i:=GEl i n;by_cases hbig:4096<u.size
   ·have hb1:decide ((4096:Int)<(u.size:Int))=true:=Yf;go_wp2_with fail;go_ret2;exact⟨_,_,rfl,by show 0≤4096;omega,hx⟩
   have hb1:decide ((4096:Int)<(u.size:Int))=false:=Yg;go_wp2_with fail;go_ret2;exact⟨_,_,rfl,by omega,hx⟩
  by_cases hn1:n=1
  ·have n1:(!((n:Int)==1))=false:=by simp;omega
   have n2:((n:Int)!=1)=false:=n1;have n3:(!(n==1))=false:=by simp;omega
   have n4:(n !=1)=false:=n3;clear hn1;go_enter func89,ntmps89;go_wp2_with (first|(go_at_call 128;refine(A1 _).mono ?_;rintro e w' ⟨rfl,rfl⟩)|(go_at_call 129;refine(Qd op _).mono ?_;rintro e w' ⟨rfl,rfl⟩;rw[hT]));go_loopw [62,4] (fun o t wr=>∃ (i:Nat) (u:ByteArray),i≤n∧o=.int .i64 (i:Int)∧t=.string u∧u.size≤1073741900+300010*i∧Ext w wr) (fun o _ _=>n-(intOf o).toNat);case atStart=>exact⟨0,_,by omega,rfl,rfl,(by omega),Hx1.o⟩
   obtain⟨i,u,hi,rfl,rfl,hus,hx⟩:=hrel;by_cases hlt:i<n
   ·obtain⟨hd_i,i0_i,i1_i⟩:=LTl i n;obtain⟨x,hx0⟩:=geX (l:=l) (i:=i) (by rw[Hn.o];exact hlt);obtain⟨g,o,c,hv,_,_,_,hg,c0⟩:=strs_get (HL.o.ext hx) hx0;rw[Hn.o]at hv;simp only[Ye]at hv;obtain⟨rfl,-,rfl⟩:=hv;have hxs:=Hmem.o x (Zy hx0);clear hx0;go_wp2_with fail;refine(Mj x hxs _).mono ?_;rintro e w5 ⟨q,rfl,hq,hx5⟩;have h1:¬ 9223372036854775807<1+q.size:=by omega
    obtain⟨Z,hZ⟩:=gnX ((⟨#[32]⟩:ByteArray)++q);have hZs:Z.size=1+q.size:=by rw[← hZ,Ym];rfl
    have h2:¬ 9223372036854775807<u.size+Z.size:=by omega
    have HZs:=Y4 hZs;clear hZs;go_wp2_with fail;go_roundw;case rel=>exact⟨i+1,_,by omega,by go_num,rfl,by have:=HZs.o;rw[Ym];omega,hx.trans hx5⟩
    (simp[intOf];omega)
   have hd_i:=GEl i n;by_cases hbig:4096<u.size
   ·have hb1:decide ((4096:Int)<(u.size:Int))=true:=Yf;go_wp2_with fail;go_ret2;exact⟨_,_,rfl,by show 0≤4096;omega,hx⟩
   have hb1:decide ((4096:Int)<(u.size:Int))=false:=Yg;go_wp2_with fail;go_ret2;exact⟨_,_,rfl,by omega,hx⟩
  have n1:(!((n:Int)==1))=true:=by simp;omega
  have n2:((n:Int)!=1)=true:=n1;have n3:(!(n==1))=true:=by simp;omega
  have n4:(n !=1)=true:=n3;have n5:¬ (n:Int)=1:=by omega
  go_enter func89,ntmps89;go_wp2_with (first|(go_at_call 128;refine(A1 _).mono ?_;rintro e w' ⟨rfl,rfl⟩)|(go_at_call 129;refine(Qd op _).mono ?_;rintro e w' ⟨rfl,rfl⟩;rw[hT]));go_ret2;exact⟨_,_,rfl,by show 0≤4096;omega,Hx1.o⟩
 by_cases ht1:ttl<1
 ·have z1:decide (ttl<1)=true:=Yf ht1;go_enter func89,ntmps89;go_wp2_with (first|(go_at_call 128;refine(A1 _).mono ?_;rintro e w' ⟨rfl,rfl⟩)|(go_at_call 129;refine(Qd op _).mono ?_;rintro e w' ⟨rfl,rfl⟩;rw[hT]));go_ret2;exact⟨_,_,rfl,by show 0≤4096;omega,Hx1.o⟩
 have z1:decide (ttl<1)=false:=Yg ht1;by_cases ht2:1073741824<ttl
 ·have z2:decide (1073741824<ttl)=true:=Yf ht2;go_enter func89,ntmps89;go_wp2_with (first|(go_at_call 128;refine(A1 _).mono ?_;rintro e w' ⟨rfl,rfl⟩)|(go_at_call 129;refine(Qd op _).mono ?_;rintro e w' ⟨rfl,rfl⟩;rw[hT]));go_ret2;exact⟨_,_,rfl,by show 0≤4096;omega,Hx1.o⟩
 have z2:decide (1073741824<ttl)=false:=Yg ht2;have h7:(op==7)=false:=by
  cases h:(op==7)
  ·rfl
  obtain rfl:op=7:=by simpa using h
  exact absurd hT (by decide)
 obtain⟨k,rfl⟩:∃ k:Nat,ttl=(k:Int):=⟨ttl.toNat,by omega⟩;have A2:=fun w=>Zu2 k (by omega) w
 go_enter func89,ntmps89;go_wp2_with (first|(go_at_call 128;refine(A1 _).mono ?_;rintro e w' ⟨rfl,rfl⟩)|(go_at_call 129;refine(Qd op _).mono ?_;rintro e w' ⟨rfl,rfl⟩;rw[hT]));refine(A2 _).mono ?_;rintro e w2 ⟨d,rfl,hd,hx2⟩;have h1:¬ 9223372036854775807<1+d.size:=by omega
 obtain⟨Z,hZ⟩:=gnX ((⟨#[32]⟩:ByteArray)++d);have hZs:Z.size=1+d.size:=by rw[← hZ,Ym];rfl
 have h2:¬ 9223372036854775807<t.size+Z.size:=by omega
 have HZs:=Y4 hZs;have k2:=(hx2.cell (p:=⟨w.heap.size,2,none⟩) (by simp)).trans (show(w.alloc (.cells #[.int .i64 op,.int .i64 (k:Int),.slice A n C] 168)).cell? ⟨w.heap.size,2,none⟩=some (.slice A n C) by go_simp);have Hx2:=Y4 (Hx1.o.trans hx2);clear hZs hx2;go_wp2_with fail;go_loopw [62,4] (fun o t wr=>∃ (i:Nat) (u:ByteArray),i≤n∧o=.int .i64 (i:Int)∧t=.string u∧u.size≤1073741900+300010*i∧Ext w wr) (fun o _ _=>n-(intOf o).toNat);case atStart=>exact⟨0,_,by omega,rfl,rfl,(by have:=HZs.o;rw[Ym];omega),Hx2.o⟩
 obtain⟨i,u,hi,rfl,rfl,hus,hx⟩:=hrel;by_cases hlt:i<n
 ·obtain⟨hd_i,i0_i,i1_i⟩:=LTl i n;obtain⟨x,hx0⟩:=geX (l:=l) (i:=i) (by rw[Hn.o];exact hlt);obtain⟨g,o,c,hv,_,_,_,hg,c0⟩:=strs_get (HL.o.ext hx) hx0;rw[Hn.o]at hv;simp only[Ye]at hv;obtain⟨rfl,-,rfl⟩:=hv;have hxs:=Hmem.o x (Zy hx0);clear hx0;go_wp2_with fail;refine(Mj x hxs _).mono ?_;rintro e w5 ⟨q,rfl,hq,hx5⟩;have h1:¬ 9223372036854775807<1+q.size:=by omega
  obtain⟨Z,hZ⟩:=gnX ((⟨#[32]⟩:ByteArray)++q);have hZs:Z.size=1+q.size:=by rw[← hZ,Ym];rfl
  have h2:¬ 9223372036854775807<u.size+Z.size:=by omega
  have HZs:=Y4 hZs;clear hZs;go_wp2_with fail;go_roundw;case rel=>exact⟨i+1,_,by omega,by go_num,rfl,by have:=HZs.o;rw[Ym];omega,hx.trans hx5⟩
  (simp[intOf];omega)
 have hd_i:=GEl i n;by_cases hbig:4096<u.size
 ·have hb1:decide ((4096:Int)<(u.size:Int))=true:=Yf;go_wp2_with fail;go_ret2;exact⟨_,_,rfl,by show 0≤4096;omega,hx⟩
 have hb1:decide ((4096:Int)<(u.size:Int))=false:=Yg;go_wp2_with fail;go_ret2;exact⟨_,_,rfl,by omega,hx⟩
structure Gh(B b rb:Nat)(w w':World)(op ttl:Int)(v:Value)(l:List ByteArray):Prop where
 sto:Vx B b w w'
 box:Xp w' rb [.int .i64 op,.int .i64 ttl,v]
 own:Own Jr w' (rb+1) v l
 mem:∀ x∈l,x.size≤13
theorem Gh.next{B b rb:Nat}{w w1 w2:World}{op ttl:Int}{v:Value}{l:List ByteArray}(h:Gh B b rb w w1 op ttl v l)(hne:b<rb)(t:Vx B b w1 w2):Gh B b rb w w2 op ttl v l :=
 ⟨h.sto.trans t,h.box.chg t.chg (by omega),h.own.chg t.chg (fun k hk e=>by have:=(h.own.lt k hk).1;omega),h.mem⟩
theorem Gh.ext{B b rb:Nat}{w w1 w2:World}{op ttl:Int}{v:Value}{l:List ByteArray}(h:Gh B b rb w w1 op ttl v l)(x:Ext w1 w2):Gh B b rb w w2 op ttl v l :=
 ⟨h.sto.ext x,h.box.ext x,h.own.ext x,h.mem⟩
theorem Gh.ttl{B b rb:Nat}{w w1:World}{op ttl:Int}{v:Value}{l:List ByteArray}(h:Gh B b rb w w1 op ttl v l)(hw:w.heap.size≤rb)(hne:b<rb)(z:Int):Gh B b rb w (w1.setCell ⟨rb,1,none⟩ (.int .i64 z)) op z v l :=
 ⟨h.sto.setCell hw (by show rb≠b;omega) (by have:=h.sto.src.ge;show B≤rb;omega) _,h.box.set (j:=1) (by simp) _,h.own.far (fun e=>by have:=(h.own.lt rb e).1;omega) _,h.mem⟩
theorem Gh.grow{B b rb:Nat}{w w1 w5:World}{op ttl:Int}{v:Value}{l:List ByteArray}{o:Obj}{t:ByteArray}{A:Option Addr}{n c:Nat}(h:Gh B b rb w w1 op ttl v l)(hw:w.heap.size≤rb)(hne:b<rb)(ht:t.size≤13)
 (hg:Grew Jr (w1.alloc o) (rb+1) v (l++[t]) A n c w5):Gh B b rb w (w5.setCell ⟨rb,2,none⟩ (.slice A n c)) op ttl (.slice A n c) (l++[t]):=by
 have hB:=h.sto.src.ge;have hlt:∀ k,v.ownBlock=some k→rb+1≤k:=fun k hk=>(h.own.lt k hk).1
 refine⟨⟨?_,?_⟩,?_,?_,?_⟩
 ·exact(((h.sto.src.alloc o).chg hg.chg (fun e=>by have:=hlt b e;omega) (fun k hk e=>by have:=hlt k e;omega))).setCell (by show B≤rb;omega) (by show rb≠b;omega) _
 ·exact(((h.sto.chg.alloc o).thenB hg.chg (fun k hk e=>by have:=hlt k e;omega))).setCell (.inr hw) _
 ·exact((h.box.ext ((Yl _).alloc o)).chg hg.chg (fun e=>by have:=hlt rb e;omega)).set (j:=2) (by simp) _
 ·exact hg.own.far (fun e=>by have:=(hg.own.lt rb e).1;omega) _
 intro x hx;rcases Zj.1 hx with h1|h1
 ·exact h.mem x h1
 rw[Zi.1 h1];exact ht
theorem Mi(B b:Nat)(w:World)(hs:Src B w b):Calls prog 51 #[.pointer (some ⟨b,0,none⟩)] w (Zyr 4096 B b w):=by
 have Hs:=Y4 (Vx.start hs);have hbl:=hs.lt;clear hs;go_enter func51,ntmps51;go_wp2_with fail;refine(Xh b 7 (by omega) (by omega) _ B Hs.o.src).mono ?_;rintro e w1 ⟨v,hv,rfl,h1⟩;have H1:=Y4 (Hs.o.trans h1);clear h1;obtain⟨q,hq⟩:∃ q:Int,1+(v:Int)=q:=⟨_,rfl⟩;have r1:IntKind.i64.wrap (1+(v:Int))=q:=by rw[Yp _ (by omega)];exact hq
 clear hq;go_wp2_with fail;refine(Xh b 3 (by omega) (by omega) _ B H1.o.src).mono ?_;rintro e w2 ⟨v2,hv2,rfl,h2⟩;have H2:=Y4 (H1.o.trans h2);have hb2:=h2.src.lt;have Hwr0:=Y4 (show w.heap.size≤w2.heap.size from H2.o.chg.size);clear h2 r1;obtain⟨rb,hrb⟩:=gnX (w2.heap.size);have Hwr:=Y4 (show w.heap.size≤rb by rw[← hrb];exact Hwr0.o);have Hbr:=Y4 (show b<rb by omega);go_upto_if 13 with fail;go_cut [3] (fun o wx=>∃ op:Int,o=.int .i64 op∧wx=w2);case first =>
  by_cases hv0:v2=0
  ·subst hv0;go_wp2_with fail;go_meet;exact⟨_,rfl,rfl⟩
  have e1:((v2:Int)==0)=false:=by simp;omega
  have e2:(v2==0)=false:=by simp;omega
  have e3:¬ (v2:Int)=0:=by omega
  go_wp2_with fail;go_meet;exact⟨_,rfl,rfl⟩
 obtain⟨op,rfl,rfl⟩:=hcut;have S3:=Y4 (show Gh B b rb w (wc.alloc (.cells #[.int .i64 op,.int .i64 0,.slice none 0 0] 168)) op 0 (.slice none 0 0) [] from⟨H2.o.alloc _,by rw[← hrb];exact Xp.new _ _ _,Own.nil _ _ _,by simp⟩);go_upto_region 5 with fail;obtain⟨W3,hW3⟩:=gnX (wc.alloc (.cells #[.int .i64 op,.int .i64 0,.slice none 0 0] 168));rw[hW3]at S3;rw[hW3];clear hW3 H1 H2 hb2 hrb Hwr0;go_cut [21] (fun o wx=>∃ q:Bool,o=.bool q∧wx=W3);case first =>
  cases hq1:(op==1)
  ·cases hq3:(op==3)
   all_goals
    go_wp2_with fail;go_meet;exact⟨_,rfl,rfl⟩
  go_wp2_with fail;go_meet;exact⟨_,rfl,rfl⟩
 obtain⟨q3,rfl,rfl⟩:=hcut;go_upto_if 21 with fail;go_cut [] (fun wx=>∃ ttl:Int,Gh B b rb w wx op ttl (.slice none 0 0) []);case first =>
  cases q3
  ·go_wp2_with fail;go_meet;exact⟨_,S3.o⟩
  go_wp2_with fail;refine(Xh b 30 (by omega) (by omega) _ B S3.o.sto.src).mono ?_;rintro e w4 ⟨v4,hv4,rfl,h4⟩;have S4:=Y4 (S3.o.next Hbr.o h4);clear h4;have c0:=(S4.o).box.at_ 0 (by simp);have c1:=(S4.o).box.at_ 1 (by simp);have c2:=(S4.o).box.at_ 2 (by simp);have fz:=(S4.o).box.fz;simp only[Zx,Zw]at c0 c1 c2;obtain⟨t4,ht4⟩:∃ t:Int,1+(v4:Int)=t:=⟨_,rfl⟩;have r4:IntKind.i64.wrap (1+(v4:Int))=t4:=by rw[Yp _ (by omega)];exact ht4
  have S5:=Y4 (S4.o.ttl Hwr.o Hbr.o t4);go_wp2_with fail;refine(Xh b 20 (by omega) (by omega) _ B S5.o.sto.src).mono ?_;rintro e w6 ⟨v6,hv6,rfl,h6⟩;have S6:=Y4 (S5.o.next Hbr.o h6);clear h6 c0 c1 c2 fz S4 S5;by_cases hv60:v6=0
  ·subst hv60;go_wp2_with fail;refine(Xh b 3 (by omega) (by omega) _ B S6.o.sto.src).mono ?_;rintro e w7 ⟨v7,hv7,rfl,h7⟩;have S7:=Y4 (S6.o.next Hbr.o h7);clear h7;have c0:=(S7.o).box.at_ 0 (by simp);have c1:=(S7.o).box.at_ 1 (by simp);have c2:=(S7.o).box.at_ 2 (by simp);have fz:=(S7.o).box.fz;simp only[Zx,Zw]at c0 c1 c2;obtain⟨t7,ht7⟩:∃ t:Int,1073741824-(v7:Int)=t:=⟨_,rfl⟩;have r7:IntKind.i64.wrap (1073741824-(v7:Int))=t7:=by rw[Yp _ (by omega)];exact ht7
   have S8:=Y4 (S7.o.ttl Hwr.o Hbr.o t7);go_wp2_with fail;go_meet;exact⟨_,S8.o⟩
  have e1:((v6:Int)==0)=false:=by simp;omega
  have e2:(v6==0)=false:=by simp;omega
  have e3:¬ (v6:Int)=0:=by omega
  go_wp2_with fail;go_meet;exact⟨_,S6.o⟩
 obtain⟨ttl,hS⟩:=hcut;have S9:=Y4 hS;clear S3 hS;rename World=>w9
 go_wp2_with fail;refine(Xh b 3 (by omega) (by omega) _ B S9.o.sto.src).mono ?_;rintro e wa ⟨va,hva,rfl,ha⟩;have Sa:=Y4 (S9.o.next Hbr.o ha);clear ha S9;obtain⟨n1,hn1⟩:=gnX (1+va);have ra:IntKind.i64.wrap (1+(va:Int))=(n1:Int):=by rw[Yp _ (by omega)];omega
 have hn3:n1≤64:=by omega
 clear hn1 hva;go_upto_if 37 with fail;clear ra;go_cut [5] (fun o wx=>∃ k:Nat,k≤64∧o=.int .i64 (k:Int)∧Gh B b rb w wx op ttl (.slice none 0 0) []);case first =>
  cases h7:(op==7)
  rotate_left
  ·go_wp2_with fail;go_meet;exact⟨1,by omega,rfl,Sa.o⟩
  go_wp2_with fail;refine(Xh b 20 (by omega) (by omega) _ B Sa.o.sto.src).mono ?_;rintro e w6 ⟨v6,hv6,rfl,h6⟩;have S6:=Y4 (Sa.o.next Hbr.o h6);clear h6;by_cases hv60:v6=0
  ·subst hv60;go_wp2_with fail;refine(Xh b 2 (by omega) (by omega) _ B S6.o.sto.src).mono ?_;rintro e w7 ⟨v7,hv7,rfl,h7'⟩;have S7:=Y4 (S6.o.next Hbr.o h7');clear h7';obtain⟨m7,hm7⟩:=gnX (16*v7);have r7:IntKind.i64.wrap (16*(v7:Int))=(m7:Int):=by rw[Yp _ (by omega)];omega
   have hm7b:m7≤16:=by omega
   clear hm7;go_wp2_with fail;refine(Xh b 2 (by omega) (by omega) _ B S7.o.sto.src).mono ?_;rintro e w8 ⟨v8,hv8,rfl,h8⟩;have S8:=Y4 (S7.o.next Hbr.o h8);clear h8;obtain⟨m8,hm8⟩:=gnX (1+v8);have r8:IntKind.i64.wrap (1+(v8:Int))=(m8:Int):=by rw[Yp _ (by omega)];omega
   have hm8b:m8≤2:=by omega
   obtain⟨m9,hm9⟩:=gnX (m7*m8);have hm9b:m9≤32:=by rw[← hm9];exact Zjw (Zfq hm7b hm8b) (by omega)
   have r9:IntKind.i64.wrap ((m7:Int)*(m8:Int))=(m9:Int):=by rw[← hm9];rw[Yp _ (by rw[← Int.natCast_mul,hm9];omega)];simp
   clear hm8 hm9;go_wp2_with fail;go_meet;exact⟨m9,by omega,rfl,S8.o⟩
  have e1:((v6:Int)==0)=false:=by simp;omega
  have e2:(v6==0)=false:=by simp;omega
  have e3:¬ (v6:Int)=0:=by omega
  go_wp2_with fail;go_meet;exact⟨n1,hn3,rfl,S6.o⟩
 obtain⟨k0,hk0,rfl,hS⟩:=hcut;have Sb:=Y4 hS;clear hS Sa;rename World=>wb
 go_wp2_with fail;go_loopw [5] (fun o wr=>∃ (k:Nat) (v:Value) (l:List ByteArray),k≤64∧l.length+k≤64∧o=.int .i64 (k:Int)∧Gh B b rb w wr op ttl v l) (fun o _=>(intOf o).toNat);case atStart=>exact⟨k0,_,[],hk0,by simpa using hk0,rfl,Sb.o⟩
 obtain⟨k,v,l,hk,hlk,rfl,hS⟩:=hrel;obtain⟨A,C,rfl,hlC,hC⟩:=hS.own.shape;obtain⟨m,hm⟩:=gnX (l.length);try rw[hm]at hS
 rw[hm]at hlC hlk;have Hm:=Y4 hm;have S1:=Y4 hS;clear hS hm;by_cases hk1:0<k
 ·have d1:decide ((0:Int)<(k:Int))=true:=Yf;go_upto_region 16 with fail;obtain⟨p,hp⟩:=gnX (k-1);have r2:IntKind.i64.wrap ((k:Int)-1)=(p:Int):=by rw[Yp _ (by omega)];omega
  have c0:=(S1.o).box.at_ 0 (by simp);have c1:=(S1.o).box.at_ 1 (by simp);have c2:=(S1.o).box.at_ 2 (by simp);have fz:=(S1.o).box.fz;simp only[Zx,Zw]at c0 c1 c2;go_region_law (first|((refine Vj Jr (.tmp 53) (.tmp 56) 24 (by rfl) (by rfl) (by rfl) (by rfl) (S6.o.own.ext ((Yl _).alloc _)) (by rfl) (Nv w6 t6 _ _ rfl) (by rw[Hm.o];show m+1≤_;omega) (by show 16≤1000;omega) (by have:=S6.o.box.lt;simp;omega) ?_);intro A5 n5 c5 w5 hg5;have Hg5:=Y4 (S6.o.grow Hwr.o Hbr.o ht6 hg5);have cf5:=Y4 ((S6.o.box.ext ((Yl _).alloc (.cells #[.string t6] 9))).chg hg5.chg (fun e=>by have:=(S6.o.own.lt rb e).1;omega));have c5':=cf5.o.at_ 2 (by simp);have f5':=cf5.o.fz;simp only[Zx,Zw]at c5';clear hg5)|(go_simp;go_at_call 88;refine(Zzv B b _ ((S1.o.ext (Yl _).drew).sto.src)).mono ?_;rintro e w6 ⟨t6,rfl,ht6,h6⟩;have S6:=Y4 ((S1.o.ext (Yl _).drew).next Hbr.o h6);have c2':=S6.o.box.at_ 2 (by simp);have c2'':=(S6.o.box.ext ((Yl _).alloc (.cells #[.string t6] 9))).at_ 2 (by simp);simp only[Zx,Zw]at c2' c2'';clear h6));all_goals
   go_wp2_with fail;go_roundw;case rel=>exact⟨p,_,_,by omega,by rw[Zs,Hm.o];show m+1+p≤64;omega,rfl,Hg5.o⟩
   (simp[intOf];omega)
 obtain rfl:k=0:=by omega
 go_wp2_with fail;refine(Xh b 25 (by omega) (by omega) _ B S1.o.sto.src).mono ?_;rintro e w2 ⟨v2,hv2,rfl,h2⟩;have S2:=Y4 (S1.o.next Hbr.o h2);clear h2;by_cases hv0:v2=0
 ·subst hv0;go_wp2_with fail;have hl:=Zxp w2 9 [⟨#[]⟩,⟨#[72,79,76,68,32,97]⟩,⟨#[81,85,69,82,89]⟩,⟨#[72,79,76,68,32,48,32,97]⟩,⟨#[72,79,76,68,32,53,32,32,97]⟩,⟨#[67,65,78,67,69,76,32,37,122,122]⟩] 6 rfl _ rfl (by omega);have hbl2:=S2.o.sto.src.lt;have H3:=Y4 (S2.o.sto.alloc (.cells #[.string ⟨#[]⟩,.string ⟨#[72,79,76,68,32,97]⟩,.string ⟨#[81,85,69,82,89]⟩,.string ⟨#[72,79,76,68,32,48,32,97]⟩,.string ⟨#[72,79,76,68,32,53,32,32,97]⟩,.string ⟨#[67,65,78,67,69,76,32,37,122,122]⟩] 9));refine(Xh b 6 (by omega) (by omega) _ B H3.o.src).mono ?_;rintro e w3 ⟨k,hk,rfl,h2⟩;have H4:=Y4 (H3.o.trans h2);have hl2:=Rd.chg hl h2.chg (fun k hk e=>by omega);obtain⟨L,hL⟩:∃ L:List ByteArray,[⟨#[]⟩,⟨#[72,79,76,68,32,97]⟩,⟨#[81,85,69,82,89]⟩,⟨#[72,79,76,68,32,48,32,97]⟩,⟨#[72,79,76,68,32,53,32,32,97]⟩,⟨#[67,65,78,67,69,76,32,37,122,122]⟩]=L:=⟨_,rfl⟩;have hmem:∀ x∈L,x.size≤4096:=by
   rw[← hL];intro x hx;simp only[Zg,Zh,Zin]at hx;rcases hx with rfl|rfl|rfl|rfl|rfl|rfl<;>decide
  have hlen:L.length=6:=by rw[← hL];rfl
  replace hl2:RdE Jr w3 (fun k=>w2.heap.size≤k) (.slice (some ⟨w2.heap.size,0,none⟩) 6 6) L:=by rw[← hL];exact hl2
  clear hL hl h2;obtain⟨z,hz⟩:∃ z,L[k]?=some z:=⟨_,Zz (by rw[hlen];omega)⟩;obtain⟨g,o,c,hvv,_,_,_,hg,cz⟩:=strs_get hl2 hz;simp only[Ye,Yd,Zjp,Zjj,Zj6]at hvv;obtain⟨⟨rfl,rfl⟩,-,rfl⟩:=hvv;rw[Zjd]at cz;have hzs:=hmem z (Zy hz);have k0:(0:Int)≤(k:Int):=by omega
  have k1:k<6:=by omega
  clear hz hl2 hmem hlen;go_wp2_with fail;go_ret;exact⟨_,rfl,hzs,H4.o⟩
 have e1:((v2:Int)==0)=false:=by simp;omega
 have e2:(v2==0)=false:=by simp;omega
 have e3:¬ (v2:Int)=0:=by omega
 clear hv0;have c0:=(S2.o).box.at_ 0 (by simp);have c1:=(S2.o).box.at_ 1 (by simp);have c2:=(S2.o).box.at_ 2 (by simp);have fz:=(S2.o).box.fz;simp only[Zx,Zw]at c0 c1 c2;go_wp2_with fail;refine(Zwt op ttl _ l _ (show RdE Jr w2 (fun k=>rb+1≤k) (.slice A m C) l from S2.o.own.rd) (by rw[Hm.o];omega) (fun x hx=>by have:=S2.o.mem x hx;omega)).mono ?_;rintro e w3 ⟨t,er,rfl,ht,hx3⟩;go_wp2_with fail;go_ret;exact⟨_,rfl,ht,S2.o.sto.ext hx3⟩
