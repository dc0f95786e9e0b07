/- Lemmas of this claim: Ka, Kg, Kd. Conditions: as named. -/
import Derived.Deep.RegionLaw
import Derived.Test.YtnbclgbicnpmnaaGreatA16
import Derived.Test.YtnbclgbicnpmnaaGreatA17
import Derived.Test.YtnbclgbicnpmnaaGreatA19
import Derived.Test.YtnbclgbicnpmnaaGreatA24
import Derived.Test.YtnbclgbicnpmnaaGreatA35
namespace Go.Proofs.YtnbclgbicnpmnaaGreat
open Go.RowKit Go.Sort
set_option maxHeartbeats 0
set_option maxRecDepth 100000
set_option linter.all false
def J7:List Int:=[173,183,769,776,803,837,885,945,946,947,1072,1488,1523,1576,1577,1632,1776,2381,7680,7681,7682,7683,7684,8204,8205,12539,19968,128512]
def Zrr(w:World)(e:Ending)(w':World):Prop:=∃ v,e=.returned v∧RdE Wk w' (fun k=>w.heap.size≤k) v J7∧Ext w w'
theorem Zyn(w:World):Calls Tryz.prog 43 #[] w (Zrr w):=by
 go_enter Tryz.func43,Tryz.ntmps43;go_wp2_with fail;go_ret;exact⟨_,rfl,Wr w 3 J7 28 rfl _ rfl (by omega),(Yn w).alloc _⟩
def Zox(l:List Int)(B b:Nat)(w:World)(e:Ending)(w':World):Prop:=∃ c:Int,c∈l∧e=.returned (.int .i64 c)∧We B b w w'
theorem Jo{R:Nat→Prop}(B b:Nat)(v:Value)(l:List Int)(w:World)(hs:Src B w b)(hv:RdE Wk w R v l)(hR:¬ R b)(hl1:1≤l.length)(hl2:l.length≤1000):Calls Tryz.prog 45 #[.pointer (some ⟨b,0,none⟩),v] w (Zox l B b w):=by
 obtain⟨A,C,rfl,hlC,hC⟩:=hv.shape;obtain⟨n,hn⟩:=gnX (l.length);have Hs:=Ya (We.start hs);have HV:=Ya hv;rw[hn]at hlC hl1 hl2⊢;have Hn:=Ya hn;clear hs hv hn;go_enter Tryz.func45,Tryz.ntmps45;go_wp2_with fail;refine(Xi b 3 (by omega) (by omega) _ B Hs.o.src).mono ?_;rintro e w1 ⟨v,hv,rfl,h1⟩;have H1:=Ya (Hs.o.trans h1);have HV1:=Ya (Rd.chg HV.o h1.chg (fun k hk e=>hR (e▸hk)));clear h1;by_cases hv0:0<v
 ·have d1:decide ((0:Int)<(v:Int))=true:=Yh;obtain⟨z,hz⟩:=geX (l:=l) (i:=0) (by rw[Hn.o];omega);obtain⟨g,o,c,hvv,_,_,_,hg,cz⟩:=Xy.get (show Xy w1 R _ l from HV1.o) hz;have Hz:=Ya hz;clear hz;rw[Hn.o]at hvv;simp only[Yg]at hvv;obtain⟨rfl,-,rfl⟩:=hvv;rw[Zkt]at cz;have n0:(0:Int)<(n:Int):=by omega
  have n1:0<n:=by omega
  go_wp2_with fail;go_ret;exact⟨_,Zy Hz.o,rfl,H1.o⟩
 have d1:decide ((0:Int)<(v:Int))=false:=Yi;go_wp2_with fail;refine(Xi b (n:Int) (by omega) (by omega) _ B H1.o.src).mono ?_;rintro e w2 ⟨q,hq,rfl,h2⟩;have H2:=Ya (H1.o.trans h2);have hq2:q<n:=by omega
 obtain⟨z,hz⟩:=geX (l:=l) (i:=q) (by rw[Hn.o];omega);obtain⟨g,o,c,hvv,_,_,_,hg,cz⟩:=Xy.get (show Xy w2 R _ l from Rd.chg HV1.o h2.chg (fun k hk e=>hR (e▸hk))) hz;have Hz:=Ya hz;clear hz;rw[Hn.o]at hvv;simp only[Yg]at hvv;obtain⟨rfl,-,rfl⟩:=hvv;have q0:(0:Int)≤(q:Int):=by omega
 go_wp2_with fail;go_ret;exact⟨_,Zy Hz.o,rfl,H2.o⟩
theorem Zpa(w:World)(a b c:Int)(t:TypeId)(g:Nat)(hg:w.heap.size=g):RdE spE (w.alloc (.cells #[.int .i64 a,.int .i64 b,.int .i64 c] t)) (fun _=>True) (.slice (some ⟨g,0,none⟩) 1 1) [⟨a,b,c⟩]:=by
 subst hg;exact Va w #[.int .i64 a,.int .i64 b,.int .i64 c] t 3 rfl
theorem Gt{α:Type}{l:List α}{j:Nat}{x:α}(h:l[j]?=some x):l.set j x=l:=by
 obtain⟨h1,h2⟩:=Zr.1 h;rw[← h2];exact List.set_getElem_self h1
def Zp7(b j:Nat)(cs:List Value)(l0:List Sp)(x:Sp)(S:Nat→Prop)(w:World)(e:Ending)(w':World):Prop :=
 ∃ (u:Value) (l:List Sp),e=.returned (.tuple #[])∧Xr w' b (cs.set j u)∧Vu w' (fun k=>S k∨w.heap.size≤k) u l∧((0<x.val∧l=l0++[x])∨(¬ 0<x.val∧l=l0))∧Chg (· = b) w w'
theorem add_any{S:Nat→Prop}(b j:Nat)(cs:List Value)(u:Value)(l:List Sp)(fr to_ val z:Int)(w:World)(hb:Xr w b cs)(hj:cs[j]?=some u)(hu:Vu w S u l)(_:¬ S b)(hl:l.length≤100000) :
 Calls Tryz.prog 46 #[.pointer (some ⟨b,j,none⟩),.agg #[.int .i64 fr,.int .i64 to_,.int .i64 val],.int .i64 z] w (Zp7 b j cs l ⟨fr,to_,z⟩ S w):=by
 have HB:=Ya hb;have HU:=Ya hu;have Hj:=Ya hj;have hjl:=(Zr.1 hj).1;clear hb hu hj;by_cases hz:0<z
 ·have d1:decide (0<z)=true:=Yh hz;go_enter Tryz.func46,Tryz.ntmps46;go_upto_region 3 with fail;have hx0:=(Yn w).alloc (.cells #[.int .i64 fr,.int .i64 to_,.int .i64 z] 99);have k0:(w.alloc (.cells #[.int .i64 fr,.int .i64 to_,.int .i64 z] 99)).cell? ⟨w.heap.size,0,none⟩=some (.int .i64 fr):=by go_simp
  have k1:(w.alloc (.cells #[.int .i64 fr,.int .i64 to_,.int .i64 z] 99)).cell? ⟨w.heap.size,1,none⟩=some (.int .i64 to_):=by go_simp
  have k2:(w.alloc (.cells #[.int .i64 fr,.int .i64 to_,.int .i64 z] 99)).cell? ⟨w.heap.size,2,none⟩=some (.int .i64 z):=by go_simp
  have hlt0:w.heap.size<(w.alloc (.cells #[.int .i64 fr,.int .i64 to_,.int .i64 z] 99)).heap.size:=by simp
  obtain⟨W0,hW0⟩:=gnX (w.alloc (.cells #[.int .i64 fr,.int .i64 to_,.int .i64 z] 99));rw[hW0]at hx0 k0 k1 k2 hlt0;rw[hW0];clear hW0;obtain⟨A,C,rfl,hlC,hC⟩:=HU.o.shape;obtain⟨n,hn⟩:=gnX (l.length);have HW:=Ya (show Vu w S (.slice A n C) l by have:=HU.o;rwa [hn]at this);rw[hn]at Hj hl;have Hn:=Ya hn;have hB0:=HB.o.ext hx0;have b0:W0.cell? ⟨b,j,none⟩=some (.slice A n C):=by rw[hB0.at_ j hjl];exact Hj.o
  have bf:=hB0.fz;have b0':(W0.alloc (.cells #[.int .i64 fr,.int .i64 to_,.int .i64 z] 99)).cell? ⟨b,j,none⟩=some (.slice A n C):=by rw[(hB0.ext ((Yn _).alloc _)).at_ j hjl];exact Hj.o
  have HX0:=Ya hx0;have HB0:=Ya hB0;clear hx0 hB0 HU hn;go_region_law (first
   | ((refine Vo spE (Operand.const (Value.slice none 0 0)) (.tmp 13) 31 (by rfl) (by rfl) (by rfl) (by rfl) (Own.nil spE _ W0.heap.size) (by rfl) (show RdE spE W0.drew S (.slice A n C) l from HW.o.ext HX0.o.drew) (by rw[Hn.o];show 0+n≤_;omega) (by show 24≤1000;omega) (by simp) ?_);intro A5 n5 c5 w5 hg5;have X5:=Ya (hg5.ext w HX0.o.drew HX0.o.size);have B5:=Ya (HB.o.ext X5.o);have X05:=Ya (show Ext W0 w5 from hg5.ext W0 (Yn _).drew (Yp _));have G5:=Ya hg5;have k0':=(X05.o.cell (p:=⟨w.heap.size,0,none⟩) hlt0).trans k0;have k1':=(X05.o.cell (p:=⟨w.heap.size,1,none⟩) hlt0).trans k1;have k2':=(X05.o.cell (p:=⟨w.heap.size,2,none⟩) hlt0).trans k2;clear hg5)
   | ((refine Vo spE (Operand.const (Value.slice none 0 0)) (.tmp 13) 31 (by rfl) (by rfl) (by rfl) (by rfl) (Own.nil spE _ W0.heap.size) (by rfl) (show RdE spE (W0.alloc (.cells #[.int .i64 fr,.int .i64 to_,.int .i64 z] 99)).drew S (.slice A n C) l from HW.o.ext (HX0.o.alloc _).drew) (by rw[Hn.o];show 0+n≤_;omega) (by show 24≤1000;omega) (by simp) ?_);intro A5 n5 c5 w5 hg5;have X5:=Ya (hg5.ext w (HX0.o.alloc _).drew HX0.o.size);have B5:=Ya (HB.o.ext X5.o);have s5:W0.heap.size≤w5.heap.size:=(by have:=hg5.chg.size;simp at this;omega);have L5:=Ya (show RdE spE w5 (fun _=>True) (.slice (some ⟨W0.heap.size,0,none⟩) 1 1) [⟨fr,to_,z⟩] from Rd.chg (S:=fun _=>True) (RdE.ext (Zpa W0 fr to_ z 99 _ rfl) (Yn _).drew) hg5.chg (fun k _ e=>by cases e));have G5:=Ya hg5;clear hg5)
   | ((refine Vo spE (.tmp 14) (.tmp 16) 31 (by rfl) (by rfl) (by rfl) (by rfl) (G5.o.own.ext ((Yn _).alloc _)) (by rfl) (Zpa w5 fr to_ z 99 _ rfl) (by rw[Zo,Hn.o];show n+1≤_;omega) (by show 24≤1000;omega) (by have:=X05.o.size;simp;omega) ?_);intro A6 n6 c6 w6 hg6;have X6:=Ya (hg6.ext w (X5.o.alloc _) HX0.o.size);have B6:=Ya (HB.o.ext X6.o);have G6:=Ya hg6;have b6:=B6.o.at_ j hjl;have bf6:=B6.o.fz;rw[Hj.o]at b6;clear hg6)
   | ((refine Vo spE (.tmp 14) (.tmp 16) 31 (by rfl) (by rfl) (by rfl) (by rfl) G5.o.own (by rfl) L5.o (by rw[Zo,Hn.o];show n+1≤_;omega) (by show 24≤1000;omega) s5 ?_);intro A6 n6 c6 w6 hg6;have X6:=Ya (hg6.ext w X5.o HX0.o.size);have B6:=Ya (HB.o.ext X6.o);have G6:=Ya hg6;have b6:=B6.o.at_ j hjl;have bf6:=B6.o.fz;rw[Hj.o]at b6;clear hg6))
  all_goals
   go_wp2_with fail;refine Yu (v:=.tuple #[]) (by simp[results,Tryz.results46,go_sem]) rfl ⟨.slice A6 n6 c6,[]++l++[⟨fr,to_,z⟩],rfl,?_,?_,?_,?_⟩
   ·exact B6.o.set hjl _
   ·have h1:Vu w6 (fun k=>W0.heap.size≤k) (.slice A6 n6 c6) ([]++l++[⟨fr,to_,z⟩]):=G6.o.own.rd;have hbl:=HB.o.lt;have hws:=HX0.o.size;exact Rd.mono (Rd.chg h1 ((Chg.refl (· = b) w6).setCell (p:=⟨b,j,none⟩) (.inl rfl) _) (fun k hk e=>by omega)) fun k hk _=>.inr (by omega)
   ·exact .inl ⟨Zjl d1,by rw[Zo]⟩
   exact(X6.o.chg (· = b)).setCell (p:=⟨b,j,none⟩) (.inl rfl) _
 have d1:decide (0<z)=false:=Yi hz;go_enter Tryz.func46,Tryz.ntmps46;go_wp2_with fail;refine Yu (v:=.tuple #[]) (by simp[results,Tryz.results46,go_sem]) rfl ⟨u,l,rfl,?_,?_,.inr ⟨Zi1 d1,rfl⟩,(Chg.refl _ _).alloc _⟩
 ·rw[Gt Hj.o];exact HB.o.ext ((Yn _).alloc _)
 exact Rd.mono (HU.o.ext ((Yn _).alloc _)) fun k hk _=>.inl hk
structure SpP(l:List Sp)(q:Nat)(M:Int):Prop where
 sub:(l.map Sp.fr).Sublist (J7.take q)
 one:∀ s∈l,s.to_=s.fr∧1≤s.val∧s.val≤M
theorem SpP.nil(q:Nat)(M:Int):SpP [] q M:=⟨by simp,by simp⟩
theorem SpP.up{l:List Sp}{q q':Nat}{M:Int}(h:SpP l q M)(hq:q≤q'):SpP l q' M:=⟨h.sub.trans (Zja hq),h.one⟩
theorem SpP.len{l:List Sp}{q:Nat}{M:Int}(h:SpP l q M):l.length≤q:=by
 have:=h.sub.length_le;rw[Zq,Zp]at this;omega
theorem SpP.snoc{l:List Sp}{q:Nat}{M c v:Int}(h:SpP l q M)(hc:J7[q]?=some c)(h1:1≤v)(h2:v≤M):SpP (l++[⟨c,c,v⟩]) (q+1) M:=by
 refine⟨?_,fun s hs=>?_⟩
 ·rw[Z9,Wu hc];exact h.sub.append (Ziu _)
 rcases Zj.1 hs with hs|hs
 ·exact h.one s hs
 rw[Zi.1 hs];exact⟨rfl,h1,h2⟩
theorem SpP.add{l l':List Sp}{q:Nat}{M c v:Int}(h:SpP l q M)(hc:J7[q]?=some c)(h2:v≤M)(ha:(0<v∧l'=l++[⟨c,c,v⟩])∨(¬ 0<v∧l'=l)):SpP l' (q+1) M:=by
 rcases ha with⟨h1,rfl⟩ | ⟨_,rfl⟩
 ·exact h.snoc hc (by omega) h2
 exact h.up (Zji _)
def Ib(k:Nat):List Int:=(List.range k).map fun i:Nat=>7680+(i:Int)
def ToP(to_:List Int)(fr:Int):Prop:=∃ x r,to_=x::r∧(x=97∨x=98∨(7680≤x∧x<fr))∧(r=[]∨∃ y,y∈([769,776,803,837,945]:List Int)∧r=[y])
theorem ToP.one_{l:List Int}{fr:Int}(h:∃ x,l=[x]∧(x=97∨x=98∨(7680≤x∧x<fr))):ToP l fr:=by
 obtain⟨x,rfl,h⟩:=h;exact⟨x,[],rfl,h,.inl rfl⟩
theorem ToP.two{l:List Int}{fr y:Int}(h:∃ x,l=[x]∧(x=97∨x=98∨(7680≤x∧x<fr)))(hy:y∈([769,776,803,837,945]:List Int)):ToP (l++[y]) fr:=by
 obtain⟨x,rfl,h⟩:=h;exact⟨x,[y],rfl,h,.inr ⟨y,hy,rfl⟩⟩
theorem Zn3{dec:List MpS}{j:Nat}{m:MpS}{to3:List Int}{r:Bool}(hm:dec[j]?=some m)(h:∀ x∈dec.take j,x.1.to_≠to3)(hr:decide (m.1.to_=to3)=r)(h0:r=false):∀ x∈dec.take (j+1),x.1.to_≠to3:=by
 intro x hx;rw[Wu hm]at hx;rcases Zj.1 hx with hx|hx
 ·exact h x hx
 rw[Zi.1 hx];exact Zi1 (hr.trans h0)
structure Eo(d:List Mp)(exc:List Int)(k:Nat):Prop where
 sub:(d.map Mp.fr).Sublist (Ib k)
 xs:exc.Sublist (d.map Mp.fr)
 tos:∀ m∈d,ToP m.to_ m.fr
 tw:∀ (i j:Nat) a b,j<i→d[i]?=some a→d[j]?=some b→a.to_=b.to_→a.fr∈exc
theorem Eo.nil:Eo [] [] 0:=⟨by simp,by simp,by simp,fun i j a b _ h=>by simp at h⟩
theorem Zz5{k:Nat}:Ib (k+1)=Ib k++[7680+(k:Int)]:=by unfold Ib;rw[Ziy,Z9];rfl
theorem Eo.up{d:List Mp}{exc:List Int}{k:Nat}(h:Eo d exc k):Eo d exc (k+1) :=
 ⟨by rw[Zz5];exact h.sub.trans (Zi8 _ _),h.xs,h.tos,h.tw⟩
theorem Eo.len{d:List Mp}{exc:List Int}{k:Nat}(h:Eo d exc k):d.length≤k∧exc.length≤k:=by
 have h1:=h.sub.length_le;have h2:=h.xs.length_le;simp only[Ib,Zq,Zi4]at h1 h2;omega
theorem Eo.more{d:List Mp}{exc:List Int}{k:Nat}{m:Mp}(h:Eo d exc k)(hf:m.fr=7680+(k:Int))(ht:ToP m.to_ m.fr){q:Bool}(hq:q=false→∀ x∈d,x.to_≠m.to_){exc':List Int}(he:exc'=if q then exc++[m.fr]else exc):Eo (d++[m]) exc' (k+1):=by
 refine⟨?_,?_,fun x hx=>?_,fun i j a b hji ha hb e=>?_⟩
 ·rw[Z9,Zz5];exact h.sub.append (by rw[← hf];exact Ziu _)
 ·rw[he,Z9];cases q with
  | true=>exact h.xs.append (Ziu _)
  | false=>exact h.xs.trans (Zi8 _ _)
 ·rcases Zj.1 hx with hx|hx
  ·exact h.tos x hx
  rw[Zi.1 hx];exact ht
 have hsub:∀ z∈exc,z∈exc':=fun z hz=>by rw[he];cases q<;>simp[hz]
 have hil:=(Zr.1 ha).1;rw[Zs,Zj1]at hil;by_cases hi:i<d.length
 ·rw[Ze hi]at ha;rw[Ze (by omega)]at hb;exact hsub _ (h.tw i j a b hji ha hb e)
 obtain rfl:i=d.length:=by omega
 rw[Ze hji]at hb;rw[Zd (Yp _),Nat.sub_self]at ha;obtain rfl:m=a:=by simpa using ha
 cases q with
 | true=>rw[he];simp
 | false=>exact absurd e.symm (hq rfl b (Zy hb))
structure Zpr(m:List Mp)(sta:List Sp)(q:Nat):Prop where
 sp:SpP sta q 4
 fr:m.map Mp.fr=(sta.filter fun s=>s.val==3).map Sp.fr
 frs:∀ x∈m,x.fr∈([947,7684,128512]:List Int)
 tos:∀ x∈m,(∃ v:Int,97≤v∧v≤99∧(x.to_=[v]∨x.to_=[v,46]))
structure Zmq(m:List Mp)(sta:List Sp)(q:Nat)(c si:Int):Prop where
 sp:SpP sta q 4
 fr:m.map Mp.fr=(sta.filter fun s=>s.val==3).map Sp.fr++if si=3 then[c]else[]
 frs:∀ x∈m,x.fr∈([947,7684,128512]:List Int)
 tos:∀ x∈m,(∃ v:Int,97≤v∧v≤99∧(x.to_=[v]∨x.to_=[v,46]))
 si:si≤4
theorem Zpr.same{m:List Mp}{sta:List Sp}{q:Nat}(h:Zpr m sta q)(c:Int){si:Int}(h1:si≤4)(h2:si≠3):Zmq m sta q c si:=⟨h.sp,by rw[Zlq h2,Ziw];exact h.fr,h.frs,h.tos,h1⟩
theorem Zpr.more{m:List Mp}{sta:List Sp}{q:Nat}(h:Zpr m sta q)(x:Mp)(hf:x.fr∈([947,7684,128512]:List Int))(ht:∃ v:Int,97≤v∧v≤99∧(x.to_=[v]∨x.to_=[v,46])):Zmq (m++[x]) sta q x.fr 3:=by
 refine⟨h.sp,by rw[Zlm rfl,Z9,h.fr];rfl,fun y hy=>?_,fun y hy=>?_,by omega⟩
 ·rcases Zj.1 hy with hy|hy
  ·exact h.frs y hy
  rw[Zi.1 hy];exact hf
 rcases Zj.1 hy with hy|hy
 ·exact h.tos y hy
 rw[Zi.1 hy];exact ht
theorem Zmq.next{m:List Mp}{sta sta':List Sp}{q:Nat}{c si:Int}(h:Zmq m sta q c si)(hc:J7[q]?=some c)(ha:(0<si∧sta'=sta++[⟨c,c,si⟩])∨(¬ 0<si∧sta'=sta)):Zpr m sta' (q+1):=by
 refine⟨h.sp.add hc h.si ha,?_,h.frs,h.tos⟩;rw[h.fr];rcases ha with⟨h1,rfl⟩ | ⟨h1,rfl⟩
 ·rw[Zjd,Z9];by_cases h3:si=3
  ·subst h3;rw[Zlm rfl];rfl
  have hb:(si==3)=false:=by simp[h3]
  rw[Zlq h3];simp[List.filter,hb]
 rw[Zlq (by omega),Ziw]
def Dg:List (Int×List Int):=[(48,[111]),(109,[114,110]),(945,[97]),(1072,[97]),(1632,[111,803])]
structure Zw4(T:Tbl)(p:List Mp)(q:Nat):Prop where
 sub:(p.map fun m=>(m.fr,m.to_)).Sublist (Dg.take q)
 ign:∀ m∈p,(Wp T.ign m.fr==1)=false∧(Wp T.ign (m.to_.getLastD 0)==1)=false
theorem Zw4.nil(T:Tbl):Zw4 T [] 0:=⟨by simp,by simp⟩
theorem Zw4.up{T:Tbl}{p:List Mp}{q:Nat}(h:Zw4 T p q):Zw4 T p (q+1):=⟨h.sub.trans (Zja (Zji _)),h.ign⟩
theorem Zw4.more{T:Tbl}{p:List Mp}{q:Nat}{m:Mp}(h:Zw4 T p q)(hm:Dg[q]?=some (m.fr,m.to_))(h1:(Wp T.ign m.fr==1)=false)(h2:(Wp T.ign (m.to_.getLastD 0)==1)=false):Zw4 T (p++[m]) (q+1):=by
 refine⟨?_,fun x hx=>?_⟩
 ·rw[Z9,Wu hm];exact h.sub.append (Ziu _)
 rcases Zj.1 hx with hx|hx
 ·exact h.ign x hx
 rw[Zi.1 hx];exact⟨h1,h2⟩
structure KtP(T:Tbl):Prop where
 cat:SpP T.cat 28 8
 cls:SpP T.cls 28 254
 joi:SpP T.joi 28 5
 bid:SpP T.bid 28 11
 scr:SpP T.scr 28 60
 ign:SpP T.ign 28 1
 dec:Eo T.dec T.exc 5
 map:Zpr T.map T.sta 28
 pro:Zw4 T T.pro 5
 ext:T.ext=[]∨∃ v,T.ext=[⟨12539,v,[7,8]⟩]
section
structure Fu(w0 w:World)(B b s:Nat)(cs:List Value)(dv:Value)(dec:List MpS)(ev:Value)(exc:List Int):Prop where
 src:Src B w s
 chg:Chg (fun k=>k=b∨k=s) w0 w
 box:Xr w b ((cs.set 9 dv).set 10 ev)
 dOwn:Own mpE w w0.heap.size dv dec
 eOwn:Own Wk w w0.heap.size ev exc
 dis:∀ k,dv.ownBlock=some k→ev.ownBlock≠some k
 tos:∀ m∈dec,Xy w (fun k=>w0.heap.size≤k∧dv.ownBlock≠some k∧ev.ownBlock≠some k) m.1.tv m.1.to_∧m.1.to_.length≤2
 bs:b≠s
 bl:b<w0.heap.size
 sl:s<w0.heap.size
 bB:B≤b
section
variable {w0 w w':World} {B b s:Nat} {cs:List Value} {dv ev:Value} {dec:List MpS} {exc:List Int}
theorem Fu.to(h:Fu w0 w B b s cs dv dec ev exc)(t:We B s w w'):Fu w0 w' B b s cs dv dec ev exc :=
 have hsl:=h.sl
 ⟨t.src,h.chg.thenB t.chg (fun k _ e=>.inr e),h.box.chg t.chg h.bs,h.dOwn.chg t.chg (fun k hk e=>by have:=(h.dOwn.lt k hk).1;omega),h.eOwn.chg t.chg (fun k hk e=>by have:=(h.eOwn.lt k hk).1;omega),h.dis,
   fun m hm=>⟨(h.tos m hm).1.chg t.chg (fun k hk e=>by have:=hk.1;omega),(h.tos m hm).2⟩,h.bs,h.bl,h.sl,h.bB⟩
theorem Fu.ext(h:Fu w0 w B b s cs dv dec ev exc)(x:Ext w w'):Fu w0 w' B b s cs dv dec ev exc :=
 ⟨h.src.ext x,h.chg.trans (x.chg _),h.box.ext x,h.dOwn.ext x,h.eOwn.ext x,h.dis,fun m hm=>⟨(h.tos m hm).1.ext x,(h.tos m hm).2⟩,h.bs,h.bl,h.sl,h.bB⟩
theorem Fu.growE{A:Option Addr}{n c:Nat}{x:Int}{o:Obj}(h:Fu w0 w B b s cs dv dec ev exc)(h10:10<cs.length)(hg:Grew Wk (w.alloc o) w0.heap.size ev (exc++[x]) A n c w') :
 Fu w0 (w'.setCell ⟨b,10,none⟩ (.slice A n c)) B b s cs dv dec (.slice A n c) (exc++[x]):=by
 have hsl:=h.sl;have hbl:=h.bl;have hlt:∀ k,ev.ownBlock=some k→w0.heap.size≤k:=fun k hk=>(h.eOwn.lt k hk).1
 have hat:∀ k,(Value.slice A n c).ownBlock=some k→ev.ownBlock=some k∨k=(w.alloc o).heap.size:=fun k hk=>by
  rcases hg.at_ with h1|h1
  ·exact .inl (by rw[← h1];exact hk)
  rw[hk]at h1;exact .inr (Zlj h1)
 have hd:∀ k,dv.ownBlock=some k→¬ (Value.slice A n c).ownBlock=some k:=fun k h1 h2=>by
  rcases hat k h2 with h3|h3
  ·exact h.dis k h1 h3
  have:=(h.dOwn.lt k h1).2;simp at h3;omega
 refine⟨?_,?_,?_,?_,?_,?_,?_,h.bs,hbl,hsl,h.bB⟩
 ·exact(((h.src.alloc o).chg hg.chg (fun e=>by have:=hlt s e;omega) (fun k hk e=>by have:=hlt k e;have:=h.src.ge;omega))).setCell h.bB (by show b≠s;exact h.bs) _
 ·exact((h.chg.alloc o).thenB hg.chg (fun k hk e=>by have:=hlt k e;omega)).setCell (.inl (.inl rfl)) _
 ·have h1:=(h.box.ext ((Yn _).alloc o)).chg hg.chg (fun e=>by have:=hlt b e;omega);have h2:=h1.set (j:=10) (by simp;omega) (.slice A n c)
  rwa [Zhn]at h2
 ·exact(((h.dOwn.ext ((Yn _).alloc o)).chg hg.chg (fun k h1 h2=>h.dis k h1 h2))).far (fun e=>by have:=(h.dOwn.lt b e).1;omega) _
 ·exact hg.own.far (fun e=>by have:=(hg.own.lt b e).1;omega) _
 ·exact fun k h1 h2=>hd k h1 h2
 intro m hm;obtain⟨h1,h2⟩:=h.tos m hm;refine⟨?_,h2⟩;have h3:Xy (w.alloc o) (fun k=>(w0.heap.size≤k∧dv.ownBlock≠some k∧ev.ownBlock≠some k)∧k<w.heap.size) m.1.tv m.1.to_:=(Rd.mono h1 fun k hk hl=>⟨hk,hl⟩).ext ((Yn _).alloc o)
 have h4:=(h3.chg hg.chg (fun k hk e=>hk.1.2.2 e)).chg ((Chg.refl (· = b) w').setCell (p:=⟨b,10,none⟩) (.inl rfl) (.slice A n c)) (fun k hk e=>by have:=hk.1.1;omega);exact Rd.mono h4 fun k hk _=>⟨hk.1.1,hk.1.2.1,fun e=>by
  rcases hat k e with h5|h5
  ·exact hk.1.2.2 h5
  have:=hk.2;simp at h5;omega⟩
theorem Fu.growD{A:Option Addr}{n c:Nat}{m:MpS}{o:Obj}(h:Fu w0 w B b s cs dv dec ev exc)(h10:10<cs.length)(hm:Xy w (fun k=>w0.heap.size≤k∧dv.ownBlock≠some k∧ev.ownBlock≠some k) m.1.tv m.1.to_)(hm2:m.1.to_.length≤2)
 (hg:Grew mpE (w.alloc o) w0.heap.size dv (dec++[m]) A n c w'):Fu w0 (w'.setCell ⟨b,9,none⟩ (.slice A n c)) B b s cs (.slice A n c) (dec++[m]) ev exc:=by
 have hsl:=h.sl;have hbl:=h.bl;have hlt:∀ k,dv.ownBlock=some k→w0.heap.size≤k:=fun k hk=>(h.dOwn.lt k hk).1
 have hat:∀ k,(Value.slice A n c).ownBlock=some k→dv.ownBlock=some k∨k=(w.alloc o).heap.size:=fun k hk=>by
  rcases hg.at_ with h1|h1
  ·exact .inl (by rw[← h1];exact hk)
  rw[hk]at h1;exact .inr (Zlj h1)
 refine⟨?_,?_,?_,?_,?_,?_,?_,h.bs,hbl,hsl,h.bB⟩
 ·exact(((h.src.alloc o).chg hg.chg (fun e=>by have:=hlt s e;omega) (fun k hk e=>by have:=hlt k e;have:=h.src.ge;omega))).setCell h.bB (by show b≠s;exact h.bs) _
 ·exact((h.chg.alloc o).thenB hg.chg (fun k hk e=>by have:=hlt k e;omega)).setCell (.inl (.inl rfl)) _
 ·have h1:=(h.box.ext ((Yn _).alloc o)).chg hg.chg (fun e=>by have:=hlt b e;omega);have h2:=h1.set (j:=9) (by simp;omega) (.slice A n c)
  rwa [List.set_comm _ _ (by omega),Zhn]at h2
 ·exact hg.own.far (fun e=>by have:=(hg.own.lt b e).1;omega) _
 ·exact(((h.eOwn.ext ((Yn _).alloc o)).chg hg.chg (fun k h1 h2=>h.dis k h2 h1))).far (fun e=>by have:=(h.eOwn.lt b e).1;omega) _
 ·intro k h1 h2;rcases hat k h1 with h3|h3
  ·exact h.dis k h3 h2
  have:=(h.eOwn.lt k h2).2;simp at h3;omega
 intro q hq;have key:∀ {v:Value} {l:List Int},Xy w (fun k=>w0.heap.size≤k∧dv.ownBlock≠some k∧ev.ownBlock≠some k) v l→Xy (w'.setCell ⟨b,9,none⟩ (.slice A n c)) (fun k=>w0.heap.size≤k∧(Value.slice A n c).ownBlock≠some k∧ev.ownBlock≠some k) v l:=by
  intro v l h1;have h3:Xy (w.alloc o) (fun k=>(w0.heap.size≤k∧dv.ownBlock≠some k∧ev.ownBlock≠some k)∧k<w.heap.size) v l:=Xy.ext (Rd.mono h1 fun k hk hl=>⟨hk,hl⟩) ((Yn _).alloc o);have h4:=(h3.chg hg.chg (fun k hk e=>hk.1.2.1 e)).chg ((Chg.refl (· = b) w').setCell (p:=⟨b,9,none⟩) (.inl rfl) (.slice A n c)) (fun k hk e=>by have:=hk.1.1;omega);exact Rd.mono h4 fun k hk _=>⟨hk.1.1,fun e=>by
   rcases hat k e with h5|h5
   ·exact hk.1.2.1 h5
   have:=hk.2;simp at h5;omega,hk.1.2.2⟩
 rcases Zj.1 hq with hq|hq
 ·exact⟨key (h.tos q hq).1,(h.tos q hq).2⟩
 rw[Zi.1 hq];exact⟨key hm,hm2⟩
end
structure Nw(B s:Nat)(wI w:World)(mb:Nat)(fr:Int)(tv:Value)(to_:List Int):Prop where
 t:We B s wI w
 box:Xr w mb [.int .i64 fr,tv]
 own:Own Wk w wI.heap.size tv to_
 ne:tv.ownBlock≠some mb
 lo:wI.heap.size≤mb
 l1:1≤to_.length
 l2:to_.length≤2
 sl:s<wI.heap.size
section
variable {wI w w':World} {B s mb:Nat} {fr:Int} {tv:Value} {to_:List Int}
theorem Nw.next(h:Nw B s wI w mb fr tv to_)(t:We B s w w'):Nw B s wI w' mb fr tv to_ :=
 have hsl:=h.sl;have hlo:=h.lo
 ⟨h.t.trans t,h.box.chg t.chg (by omega),h.own.chg t.chg (fun k hk e=>by have:=(h.own.lt k hk).1;omega),h.ne,h.lo,h.l1,h.l2,h.sl⟩
theorem Nw.ext(h:Nw B s wI w mb fr tv to_)(x:Ext w w'):Nw B s wI w' mb fr tv to_:=⟨h.t.ext x,h.box.ext x,h.own.ext x,h.ne,h.lo,h.l1,h.l2,h.sl⟩
theorem Nw.ge(h:Nw B s wI w mb fr tv to_):B≤s:=h.t.src.ge
theorem Nw.put{g n c:Nat}{to_:List Int}(h:Nw B s wI w mb fr (.slice (some ⟨g,0,none⟩) n c) to_){j:Nat}(hj:j<to_.length)(x:Int):Nw B s wI (w.setCell ⟨g,j,none⟩ (.int .i64 x)) mb fr (.slice (some ⟨g,0,none⟩) n c) (to_.set j x) :=
 have hsl:=h.sl;have hg:=(h.own.lt g rfl).1;have hBs:=h.ge
 ⟨h.t.setCell hg (by show g≠s;omega) (by show B≤g;omega) _,h.box.far (fun e=>h.ne (by rw[e];rfl)) _,h.own.put rfl hj x rfl,h.ne,h.lo,by rw[Zf];exact h.l1,by rw[Zf];exact h.l2,h.sl⟩
theorem Nw.grow{w5:World}{o:Obj}{x:Int}{A:Option Addr}{n c:Nat}(h:Nw B s wI w mb fr tv to_)(h1:to_.length=1)(hg:Grew Wk (w.alloc o) wI.heap.size tv (to_++[x]) A n c w5):Nw B s wI (w5.setCell ⟨mb,1,none⟩ (.slice A n c)) mb fr (.slice A n c) (to_++[x]):=by
 have hsl:=h.sl;have hlo:=h.lo;have hBs:=h.ge;have hlt:∀ k,tv.ownBlock=some k→wI.heap.size≤k:=fun k hk=>(h.own.lt k hk).1
 have hne:(Value.slice A n c).ownBlock≠some mb:=fun e=>by
  rcases hg.at_ with h2|h2
  ·exact h.ne (by rw[← h2];exact e)
  rw[e]at h2;have:=h.box.lt;simp at h2;omega
 refine⟨⟨?_,?_⟩,?_,?_,hne,hlo,by simp,by simp[h1],hsl⟩
 ·exact((h.t.src.alloc o).chg hg.chg (fun e=>by have:=hlt s e;omega) (fun k hk e=>by have:=hlt k e;omega)).setCell (by show B≤mb;omega) (by show mb≠s;omega) _
 ·exact((h.t.chg.alloc o).thenB hg.chg (fun k hk e=>by have:=hlt k e;omega)).setCell (.inr hlo) _
 ·exact((h.box.ext ((Yn _).alloc o)).chg hg.chg (fun e=>h.ne e)).set (j:=1) (by simp) _
 exact hg.own.far hne _
end
end
end Go.Proofs.YtnbclgbicnpmnaaGreat
