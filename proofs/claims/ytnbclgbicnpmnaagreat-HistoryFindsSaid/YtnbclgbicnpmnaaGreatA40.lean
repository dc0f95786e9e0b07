/- Lemmas of this claim: Ka, Kg, Kh, Kd. Conditions: as named. -/
import Derived.Deep.RegionLaw
import Derived.Test.YtnbclgbicnpmnaaGreatA26
import Derived.Test.YtnbclgbicnpmnaaGreatA28
namespace Go.Proofs.YtnbclgbicnpmnaaGreat
open Go.RowKit Go.Sort Tryz
set_option maxHeartbeats 0
set_option maxRecDepth 100000
set_option linter.all false
def Ku:List Int:=[173,183,769,776,803,837,885,945,946,947,1072,1488,1523,1576,1577,1632,1776,2381,7680,7681,7682,7683,7684,8204,8205,12539,19968,128512]
def Zqp(w:World)(e:Ending)(w':World):Prop:=∃ v,e=.returned v∧RdE Wb w' (fun k=>w.heap.size≤k) v Ku∧Ext w w'
theorem Zy2(w:World):Calls prog 43 #[] w (Zqp w):=by
 go_enter func43,ntmps43;go_wp2_with fail;go_ret;exact⟨_,rfl,Wn w 3 Ku 28 rfl _ rfl (by omega),(Yl w).alloc _⟩
def Zns(l:List Int)(B b:Nat)(w:World)(e:Ending)(w':World):Prop:=∃ c:Int,c∈l∧e=.returned (.int .i64 c)∧Vx B b w w'
theorem Jf{R:Nat→Prop}(B b:Nat)(v:Value)(l:List Int)(w:World)(hs:Src B w b)(hv:RdE Wb w R v l)(hR:¬ R b)(hl1:1≤l.length)(hl2:l.length≤1000):Calls prog 45 #[.pointer (some ⟨b,0,none⟩),v] w (Zns l B b w):=by
 obtain⟨A,C,rfl,hlC,hC⟩:=hv.shape;obtain⟨n,hn⟩:=gnX (l.length);have Hs:=Y4 (Vx.start hs);have HV:=Y4 hv;rw[hn]at hlC hl1 hl2⊢;have Hn:=Y4 hn;clear hs hv hn;go_enter func45,ntmps45;go_wp2_with fail;refine(Xh b 3 (by omega) (by omega) _ B Hs.o.src).mono ?_;rintro e w1 ⟨v,hv,rfl,h1⟩;have H1:=Y4 (Hs.o.trans h1);have HV1:=Y4 (Rd.chg HV.o h1.chg (fun k hk e=>hR (e▸hk)));clear h1;by_cases hv0:0<v
 ·have d1:decide ((0:Int)<(v:Int))=true:=Yf;obtain⟨z,hz⟩:=geX (l:=l) (i:=0) (by rw[Hn.o];omega);obtain⟨g,o,c,hvv,_,_,_,hg,cz⟩:=Xx.get (show Xx w1 R _ l from HV1.o) hz;have Hz:=Y4 hz;clear hz;rw[Hn.o]at hvv;simp only[Ye]at hvv;obtain⟨rfl,-,rfl⟩:=hvv;rw[Zix]at cz;have n0:(0:Int)<(n:Int):=by omega
  have n1:0<n:=by omega
  go_wp2_with fail;go_ret;exact⟨_,Zy Hz.o,rfl,H1.o⟩
 have d1:decide ((0:Int)<(v:Int))=false:=Yg;go_wp2_with fail;refine(Xh b (n:Int) (by omega) (by omega) _ B H1.o.src).mono ?_;rintro e w2 ⟨q,hq,rfl,h2⟩;have H2:=Y4 (H1.o.trans h2);have hq2:q<n:=by omega
 obtain⟨z,hz⟩:=geX (l:=l) (i:=q) (by rw[Hn.o];omega);obtain⟨g,o,c,hvv,_,_,_,hg,cz⟩:=Xx.get (show Xx w2 R _ l from Rd.chg HV1.o h2.chg (fun k hk e=>hR (e▸hk))) hz;have Hz:=Y4 hz;clear hz;rw[Hn.o]at hvv;simp only[Ye]at hvv;obtain⟨rfl,-,rfl⟩:=hvv;have q0:(0:Int)≤(q:Int):=by omega
 go_wp2_with fail;go_ret;exact⟨_,Zy Hz.o,rfl,H2.o⟩
theorem Zo4(w:World)(a b c:Int)(t:TypeId)(g:Nat)(hg:w.heap.size=g):RdE spE (w.alloc (.cells #[.int .i64 a,.int .i64 b,.int .i64 c] t)) (fun _=>True) (.slice (some ⟨g,0,none⟩) 1 1) [⟨a,b,c⟩]:=by
 subst hg;exact Qr w #[.int .i64 a,.int .i64 b,.int .i64 c] t 3 rfl
theorem Gi{α:Type}{l:List α}{j:Nat}{x:α}(h:l[j]?=some x):l.set j x=l:=by
 obtain⟨h1,h2⟩:=Zr.1 h;rw[← h2];exact List.set_getElem_self h1
def Znw(b j:Nat)(cs:List Value)(l0:List Sp)(x:Sp)(S:Nat→Prop)(w:World)(e:Ending)(w':World):Prop :=
 ∃ (u:Value) (l:List Sp),e=.returned (.tuple #[])∧Xp w' b (cs.set j u)∧Vp w' (fun k=>S k∨w.heap.size≤k) u l∧((0<x.val∧l=l0++[x])∨(¬ 0<x.val∧l=l0))∧Chg (· = b) w w'
theorem add_any{S:Nat→Prop}(b j:Nat)(cs:List Value)(u:Value)(l:List Sp)(fr to_ val z:Int)(w:World)(hb:Xp w b cs)(hj:cs[j]?=some u)(hu:Vp w S u l)(_:¬ S b)(hl:l.length≤100000) :
 Calls prog 46 #[.pointer (some ⟨b,j,none⟩),.agg #[.int .i64 fr,.int .i64 to_,.int .i64 val],.int .i64 z] w (Znw b j cs l ⟨fr,to_,z⟩ S w):=by
 have HB:=Y4 hb;have HU:=Y4 hu;have Hj:=Y4 hj;have hjl:=(Zr.1 hj).1;clear hb hu hj;by_cases hz:0<z
 ·have d1:decide (0<z)=true:=Yf hz;go_enter func46,ntmps46;go_upto_region 3 with fail;have hx0:=(Yl w).alloc (.cells #[.int .i64 fr,.int .i64 to_,.int .i64 z] 99);have k0:(w.alloc (.cells #[.int .i64 fr,.int .i64 to_,.int .i64 z] 99)).cell? ⟨w.heap.size,0,none⟩=some (.int .i64 fr):=by go_simp
  have k1:(w.alloc (.cells #[.int .i64 fr,.int .i64 to_,.int .i64 z] 99)).cell? ⟨w.heap.size,1,none⟩=some (.int .i64 to_):=by go_simp
  have k2:(w.alloc (.cells #[.int .i64 fr,.int .i64 to_,.int .i64 z] 99)).cell? ⟨w.heap.size,2,none⟩=some (.int .i64 z):=by go_simp
  have hlt0:w.heap.size<(w.alloc (.cells #[.int .i64 fr,.int .i64 to_,.int .i64 z] 99)).heap.size:=by simp
  obtain⟨W0,hW0⟩:=gnX (w.alloc (.cells #[.int .i64 fr,.int .i64 to_,.int .i64 z] 99));rw[hW0]at hx0 k0 k1 k2 hlt0;rw[hW0];clear hW0;obtain⟨A,C,rfl,hlC,hC⟩:=HU.o.shape;obtain⟨n,hn⟩:=gnX (l.length);have HW:=Y4 (show Vp w S (.slice A n C) l by have:=HU.o;rwa [hn]at this);rw[hn]at Hj hl;have Hn:=Y4 hn;have hB0:=HB.o.ext hx0;have b0:W0.cell? ⟨b,j,none⟩=some (.slice A n C):=by rw[hB0.at_ j hjl];exact Hj.o
  have bf:=hB0.fz;have b0':(W0.alloc (.cells #[.int .i64 fr,.int .i64 to_,.int .i64 z] 99)).cell? ⟨b,j,none⟩=some (.slice A n C):=by rw[(hB0.ext ((Yl _).alloc _)).at_ j hjl];exact Hj.o
  have HX0:=Y4 hx0;have HB0:=Y4 hB0;clear hx0 hB0 HU hn;go_region_law (first
   | ((refine Vj spE (Operand.const (Value.slice none 0 0)) (.tmp 13) 31 (by rfl) (by rfl) (by rfl) (by rfl) (Own.nil spE _ W0.heap.size) (by rfl) (show RdE spE W0.drew S (.slice A n C) l from HW.o.ext HX0.o.drew) (by rw[Hn.o];show 0+n≤_;omega) (by show 24≤1000;omega) (by simp) ?_);intro A5 n5 c5 w5 hg5;have X5:=Y4 (hg5.ext w HX0.o.drew HX0.o.size);have B5:=Y4 (HB.o.ext X5.o);have X05:=Y4 (show Ext W0 w5 from hg5.ext W0 (Yl _).drew (Yn _));have G5:=Y4 hg5;have k0':=(X05.o.cell (p:=⟨w.heap.size,0,none⟩) hlt0).trans k0;have k1':=(X05.o.cell (p:=⟨w.heap.size,1,none⟩) hlt0).trans k1;have k2':=(X05.o.cell (p:=⟨w.heap.size,2,none⟩) hlt0).trans k2;clear hg5)
   | ((refine Vj spE (Operand.const (Value.slice none 0 0)) (.tmp 13) 31 (by rfl) (by rfl) (by rfl) (by rfl) (Own.nil spE _ W0.heap.size) (by rfl) (show RdE spE (W0.alloc (.cells #[.int .i64 fr,.int .i64 to_,.int .i64 z] 99)).drew S (.slice A n C) l from HW.o.ext (HX0.o.alloc _).drew) (by rw[Hn.o];show 0+n≤_;omega) (by show 24≤1000;omega) (by simp) ?_);intro A5 n5 c5 w5 hg5;have X5:=Y4 (hg5.ext w (HX0.o.alloc _).drew HX0.o.size);have B5:=Y4 (HB.o.ext X5.o);have s5:W0.heap.size≤w5.heap.size:=(by have:=hg5.chg.size;simp at this;omega);have L5:=Y4 (show RdE spE w5 (fun _=>True) (.slice (some ⟨W0.heap.size,0,none⟩) 1 1) [⟨fr,to_,z⟩] from Rd.chg (S:=fun _=>True) (RdE.ext (Zo4 W0 fr to_ z 99 _ rfl) (Yl _).drew) hg5.chg (fun k _ e=>by cases e));have G5:=Y4 hg5;clear hg5)
   | ((refine Vj spE (.tmp 14) (.tmp 16) 31 (by rfl) (by rfl) (by rfl) (by rfl) (G5.o.own.ext ((Yl _).alloc _)) (by rfl) (Zo4 w5 fr to_ z 99 _ rfl) (by rw[Zo,Hn.o];show n+1≤_;omega) (by show 24≤1000;omega) (by have:=X05.o.size;simp;omega) ?_);intro A6 n6 c6 w6 hg6;have X6:=Y4 (hg6.ext w (X5.o.alloc _) HX0.o.size);have B6:=Y4 (HB.o.ext X6.o);have G6:=Y4 hg6;have b6:=B6.o.at_ j hjl;have bf6:=B6.o.fz;rw[Hj.o]at b6;clear hg6)
   | ((refine Vj spE (.tmp 14) (.tmp 16) 31 (by rfl) (by rfl) (by rfl) (by rfl) G5.o.own (by rfl) L5.o (by rw[Zo,Hn.o];show n+1≤_;omega) (by show 24≤1000;omega) s5 ?_);intro A6 n6 c6 w6 hg6;have X6:=Y4 (hg6.ext w X5.o HX0.o.size);have B6:=Y4 (HB.o.ext X6.o);have G6:=Y4 hg6;have b6:=B6.o.at_ j hjl;have bf6:=B6.o.fz;rw[Hj.o]at b6;clear hg6))
  all_goals
   go_wp2_with fail;refine Ys (v:=.tuple #[]) (by simp[results,results46,go_sem]) rfl ⟨.slice A6 n6 c6,[]++l++[⟨fr,to_,z⟩],rfl,?_,?_,?_,?_⟩
   ·exact B6.o.set hjl _
   ·have h1:Vp w6 (fun k=>W0.heap.size≤k) (.slice A6 n6 c6) ([]++l++[⟨fr,to_,z⟩]):=G6.o.own.rd;have hbl:=HB.o.lt;have hws:=HX0.o.size;exact Rd.mono (Rd.chg h1 ((Chg.refl (· = b) w6).setCell (p:=⟨b,j,none⟩) (.inl rfl) _) (fun k hk e=>by omega)) fun k hk _=>.inr (by omega)
   ·exact .inl ⟨Ziq d1,by rw[Zo]⟩
   exact(X6.o.chg (· = b)).setCell (p:=⟨b,j,none⟩) (.inl rfl) _
 have d1:decide (0<z)=false:=Yg hz;go_enter func46,ntmps46;go_wp2_with fail;refine Ys (v:=.tuple #[]) (by simp[results,results46,go_sem]) rfl ⟨u,l,rfl,?_,?_,.inr ⟨Zj8 d1,rfl⟩,(Chg.refl _ _).alloc _⟩
 ·rw[Gi Hj.o];exact HB.o.ext ((Yl _).alloc _)
 exact Rd.mono (HU.o.ext ((Yl _).alloc _)) fun k hk _=>.inl hk
structure SpP(l:List Sp)(q:Nat)(M:Int):Prop where
 sub:(l.map Sp.fr).Sublist (Ku.take q)
 one:∀ s∈l,s.to_=s.fr∧1≤s.val∧s.val≤M
theorem SpP.nil(q:Nat)(M:Int):SpP [] q M:=⟨by simp,by simp⟩
theorem SpP.up{l:List Sp}{q q':Nat}{M:Int}(h:SpP l q M)(hq:q≤q'):SpP l q' M:=⟨h.sub.trans (Zhg hq),h.one⟩
theorem SpP.len{l:List Sp}{q:Nat}{M:Int}(h:SpP l q M):l.length≤q:=by
 have:=h.sub.length_le;rw[Zq,Zp]at this;omega
theorem SpP.snoc{l:List Sp}{q:Nat}{M c v:Int}(h:SpP l q M)(hc:Ku[q]?=some c)(h1:1≤v)(h2:v≤M):SpP (l++[⟨c,c,v⟩]) (q+1) M:=by
 refine⟨?_,fun s hs=>?_⟩
 ·rw[Yy,Wp hc];exact h.sub.append (Zgu _)
 rcases Zj.1 hs with hs|hs
 ·exact h.one s hs
 rw[Zi.1 hs];exact⟨rfl,h1,h2⟩
theorem SpP.add{l l':List Sp}{q:Nat}{M c v:Int}(h:SpP l q M)(hc:Ku[q]?=some c)(h2:v≤M)(ha:(0<v∧l'=l++[⟨c,c,v⟩])∨(¬ 0<v∧l'=l)):SpP l' (q+1) M:=by
 rcases ha with⟨h1,rfl⟩ | ⟨_,rfl⟩
 ·exact h.snoc hc (by omega) h2
 exact h.up (Zio _)
def Cq(k:Nat):List Int:=(List.range k).map fun i:Nat=>7680+(i:Int)
def ToP(to_:List Int)(fr:Int):Prop:=∃ x r,to_=x::r∧(x=97∨x=98∨(7680≤x∧x<fr))∧(r=[]∨∃ y,y∈([769,776,803,837,945]:List Int)∧r=[y])
theorem ToP.one_{l:List Int}{fr:Int}(h:∃ x,l=[x]∧(x=97∨x=98∨(7680≤x∧x<fr))):ToP l fr:=by
 obtain⟨x,rfl,h⟩:=h;exact⟨x,[],rfl,h,.inl rfl⟩
theorem ToP.two{l:List Int}{fr y:Int}(h:∃ x,l=[x]∧(x=97∨x=98∨(7680≤x∧x<fr)))(hy:y∈([769,776,803,837,945]:List Int)):ToP (l++[y]) fr:=by
 obtain⟨x,rfl,h⟩:=h;exact⟨x,[y],rfl,h,.inr ⟨y,hy,rfl⟩⟩
theorem Zlq{dec:List MpS}{j:Nat}{m:MpS}{to3:List Int}{r:Bool}(hm:dec[j]?=some m)(h:∀ x∈dec.take j,x.1.to_≠to3)(hr:decide (m.1.to_=to3)=r)(h0:r=false):∀ x∈dec.take (j+1),x.1.to_≠to3:=by
 intro x hx;rw[Wp hm]at hx;rcases Zj.1 hx with hx|hx
 ·exact h x hx
 rw[Zi.1 hx];exact Zj8 (hr.trans h0)
structure E6(d:List Mp)(exc:List Int)(k:Nat):Prop where
 sub:(d.map Mp.fr).Sublist (Cq k)
 xs:exc.Sublist (d.map Mp.fr)
 tos:∀ m∈d,ToP m.to_ m.fr
 tw:∀ (i j:Nat) a b,j<i→d[i]?=some a→d[j]?=some b→a.to_=b.to_→a.fr∈exc
theorem E6.nil:E6 [] [] 0:=⟨by simp,by simp,by simp,fun i j a b _ h=>by simp at h⟩
theorem Zym{k:Nat}:Cq (k+1)=Cq k++[7680+(k:Int)]:=by unfold Cq;rw[Zh9,Yy];rfl
theorem E6.up{d:List Mp}{exc:List Int}{k:Nat}(h:E6 d exc k):E6 d exc (k+1) :=
 ⟨by rw[Zym];exact h.sub.trans (Zg4 _ _),h.xs,h.tos,h.tw⟩
theorem E6.len{d:List Mp}{exc:List Int}{k:Nat}(h:E6 d exc k):d.length≤k∧exc.length≤k:=by
 have h1:=h.sub.length_le;have h2:=h.xs.length_le;simp only[Cq,Zq,Zi3]at h1 h2;omega
theorem E6.more{d:List Mp}{exc:List Int}{k:Nat}{m:Mp}(h:E6 d exc k)(hf:m.fr=7680+(k:Int))(ht:ToP m.to_ m.fr){q:Bool}(hq:q=false→∀ x∈d,x.to_≠m.to_){exc':List Int}(he:exc'=if q then exc++[m.fr]else exc):E6 (d++[m]) exc' (k+1):=by
 refine⟨?_,?_,fun x hx=>?_,fun i j a b hji ha hb e=>?_⟩
 ·rw[Yy,Zym];exact h.sub.append (by rw[← hf];exact Zgu _)
 ·rw[he,Yy];cases q with
  | true=>exact h.xs.append (Zgu _)
  | false=>exact h.xs.trans (Zg4 _ _)
 ·rcases Zj.1 hx with hx|hx
  ·exact h.tos x hx
  rw[Zi.1 hx];exact ht
 have hsub:∀ z∈exc,z∈exc':=fun z hz=>by rw[he];cases q<;>simp[hz]
 have hil:=(Zr.1 ha).1;rw[Zs,Zj3]at hil;by_cases hi:i<d.length
 ·rw[Ze hi]at ha;rw[Ze (by omega)]at hb;exact hsub _ (h.tw i j a b hji ha hb e)
 obtain rfl:i=d.length:=by omega
 rw[Ze hji]at hb;rw[Zd (Yn _),Zgb]at ha;obtain rfl:m=a:=by simpa using ha
 cases q with
 | true=>rw[he];simp
 | false=>exact absurd e.symm (hq rfl b (Zy hb))
structure Zom(m:List Mp)(sta:List Sp)(q:Nat):Prop where
 sp:SpP sta q 4
 fr:m.map Mp.fr=(sta.filter fun s=>s.val==3).map Sp.fr
 frs:∀ x∈m,x.fr∈([947,7684,128512]:List Int)
 tos:∀ x∈m,(∃ v:Int,97≤v∧v≤99∧(x.to_=[v]∨x.to_=[v,46]))
structure Zla(m:List Mp)(sta:List Sp)(q:Nat)(c si:Int):Prop where
 sp:SpP sta q 4
 fr:m.map Mp.fr=(sta.filter fun s=>s.val==3).map Sp.fr++if si=3 then[c]else[]
 frs:∀ x∈m,x.fr∈([947,7684,128512]:List Int)
 tos:∀ x∈m,(∃ v:Int,97≤v∧v≤99∧(x.to_=[v]∨x.to_=[v,46]))
 si:si≤4
theorem Zom.same{m:List Mp}{sta:List Sp}{q:Nat}(h:Zom m sta q)(c:Int){si:Int}(h1:si≤4)(h2:si≠3):Zla m sta q c si:=⟨h.sp,by rw[Zk9 h2,Zgx];exact h.fr,h.frs,h.tos,h1⟩
theorem Zom.more{m:List Mp}{sta:List Sp}{q:Nat}(h:Zom m sta q)(x:Mp)(hf:x.fr∈([947,7684,128512]:List Int))(ht:∃ v:Int,97≤v∧v≤99∧(x.to_=[v]∨x.to_=[v,46])):Zla (m++[x]) sta q x.fr 3:=by
 refine⟨h.sp,by rw[Zjx rfl,Yy,h.fr];rfl,fun y hy=>?_,fun y hy=>?_,by omega⟩
 ·rcases Zj.1 hy with hy|hy
  ·exact h.frs y hy
  rw[Zi.1 hy];exact hf
 rcases Zj.1 hy with hy|hy
 ·exact h.tos y hy
 rw[Zi.1 hy];exact ht
theorem Zla.next{m:List Mp}{sta sta':List Sp}{q:Nat}{c si:Int}(h:Zla m sta q c si)(hc:Ku[q]?=some c)(ha:(0<si∧sta'=sta++[⟨c,c,si⟩])∨(¬ 0<si∧sta'=sta)):Zom m sta' (q+1):=by
 refine⟨h.sp.add hc h.si ha,?_,h.frs,h.tos⟩;rw[h.fr];rcases ha with⟨h1,rfl⟩ | ⟨h1,rfl⟩
 ·rw[Zhi,Yy];by_cases h3:si=3
  ·subst h3;rw[Zjx rfl];rfl
  have hb:(si==3)=false:=by simp[h3]
  rw[Zk9 h3];simp[List.filter,hb]
 rw[Zk9 (by omega),Zgx]
def Ae:List (Int×List Int):=[(48,[111]),(109,[114,110]),(945,[97]),(1072,[97]),(1632,[111,803])]
structure Zvc(T:Tbl)(p:List Mp)(q:Nat):Prop where
 sub:(p.map fun m=>(m.fr,m.to_)).Sublist (Ae.take q)
 ign:∀ m∈p,(Wk T.ign m.fr==1)=false∧(Wk T.ign (m.to_.getLastD 0)==1)=false
theorem Zvc.nil(T:Tbl):Zvc T [] 0:=⟨by simp,by simp⟩
theorem Zvc.up{T:Tbl}{p:List Mp}{q:Nat}(h:Zvc T p q):Zvc T p (q+1):=⟨h.sub.trans (Zhg (Zio _)),h.ign⟩
theorem Zvc.more{T:Tbl}{p:List Mp}{q:Nat}{m:Mp}(h:Zvc T p q)(hm:Ae[q]?=some (m.fr,m.to_))(h1:(Wk T.ign m.fr==1)=false)(h2:(Wk T.ign (m.to_.getLastD 0)==1)=false):Zvc T (p++[m]) (q+1):=by
 refine⟨?_,fun x hx=>?_⟩
 ·rw[Yy,Wp hm];exact h.sub.append (Zgu _)
 rcases Zj.1 hx with hx|hx
 ·exact h.ign x hx
 rw[Zi.1 hx];exact⟨h1,h2⟩
structure KtP(T:Tbl):Prop where
 cat:SpP T.cat 28 8
 cls:SpP T.cls 28 254
 joi:SpP T.joi 28 5
 bid:SpP T.bid 28 11
 scr:SpP T.scr 28 60
 ign:SpP T.ign 28 1
 dec:E6 T.dec T.exc 5
 map:Zom T.map T.sta 28
 pro:Zvc T T.pro 5
 ext:T.ext=[]∨∃ v,T.ext=[⟨12539,v,[7,8]⟩]
section
theorem Zsi:∀ c∈Ku,0≤c∧c≤1114111∧Ia c=false∧Zod c=false∧c≠46∧Bh c=false∧¬ (65≤c∧c≤90)∧c≠114∧c≠111:=by decide
theorem Zm1:Ku.Pairwise (· < ·):=by decide
theorem Zsd{L:List Int}(h:L.Pairwise (· < ·)){i:Nat}{x y:Int}(hi:0<i)(hx:L[i]?=some x)(hy:L[i-1]?=some y):y<x:=by
 obtain⟨a1,rfl⟩:=Zr.1 hx;obtain⟨a2,rfl⟩:=Zr.1 hy;exact Zjh.1 h (i-1) i a2 a1 (by omega)
theorem SpP.pw{l:List Sp}{M:Int}(h:SpP l 28 M):(l.map Sp.fr).Pairwise (· < ·):=Zm1.sublist (h.sub.trans (Zgt _ _))
theorem SpP.pool{l:List Sp}{M:Int}(h:SpP l 28 M){s:Sp}(hs:s∈l):s.fr∈Ku:=((h.sub.trans (Zgt _ _)).subset (Zjs.2 ⟨s,hs,rfl⟩))
theorem SpP.ok{l:List Sp}{M:Int}(h:SpP l 28 M):Zkc l M :=
 ⟨by have:=h.len;omega,fun s hs=>by
   obtain⟨h1,h2,h3⟩:=h.one s hs;obtain⟨p1,p2,p3,_⟩:=Zsi _ (h.pool hs);exact⟨p1,h1,p2,p3,h2,h3⟩,fun i x y hi hx hy=>Zsd h.pw hi (by rw[Zn,hx];rfl) (by rw[Zn,hy];rfl)⟩
theorem Znz:∀ {l:List Sp},(l.map Sp.fr).Pairwise (· < ·)→(∀ s∈l,s.to_=s.fr)→∀ s∈l,Wk l s.fr=s.val
 | [],_,_,s,hs=>by simp at hs
 | a::r,hp,h1,s,hs=>by
  rw[Zj0,Zj5]at hp;rw[Wk];rcases Zg.1 hs with rfl|hs
  ·rw[Zjx ⟨Zip _,by rw[h1 s (by simp)];exact Zip _⟩]
  have:=hp.1 s.fr (Zjs.2 ⟨s,hs,rfl⟩);rw[Zk9 (by rw[h1 a (by simp)];omega)];exact Znz hp.2 (fun x hx=>h1 x (by simp[hx])) s hs
theorem Zrc:∀ {l:List Sp} {c:Int},(∀ s∈l,s.to_=s.fr∧s.fr≠c)→Wk l c=0
 | [],_,_=>rfl
 | a::r,c,h=>by
  rw[Wk];obtain⟨h1,h2⟩:=h a (by simp);rw[Zk9 (by omega)];exact Zrc fun s hs=>h s (by simp[hs])
theorem P6:∀ {l:List Mp} {c:Int},(∀ m∈l,m.fr≠c)→Xf l c=[]
 | [],_,_=>rfl
 | a::r,c,h=>by
  rw[Xf,Zk9 (h a (by simp))];exact P6 fun s hs=>h s (by simp[hs])
section
variable {d:List Mp} {exc:List Int}
theorem E6.fr_in(h:E6 d exc 5){m:Mp}(hm:m∈d):7680≤m.fr∧m.fr≤7684:=by
 have:=h.sub.subset (Zjs.2 ⟨m,hm,rfl⟩);have h2:∀ c∈Cq 5,(7680:Int)≤c∧c≤7684:=by decide
 exact h2 _ this
theorem E6.pw(h:E6 d exc 5):(d.map Mp.fr).Pairwise (· < ·):=(show(Cq 5).Pairwise (· < ·) by decide).sublist h.sub
theorem E6.o(h:E6 d exc 5){c:Int}(hc:c<7680∨7684<c):Xf d c=[]:=P6 fun m hm e=>by have:=h.fr_in hm;omega
theorem E6.to_in(h:E6 d exc 5){m:Mp}(hm:m∈d){c:Int}(hc:c∈m.to_):c=97∨c=98∨(7680≤c∧c<m.fr)∨c=769∨c=776∨c=803∨c=837∨c=945:=by
 obtain⟨x,r,e,h1,h2⟩:=h.tos m hm;rw[e]at hc;rcases Zg.1 hc with rfl|hc
 ·omega
 rcases h2 with rfl | ⟨y,hy,rfl⟩
 ·simp at hc
 rw[Zi.1 hc];simp only[Zg,Zh,Zin]at hy;omega
theorem E6.to_len(h:E6 d exc 5){m:Mp}(hm:m∈d):1≤m.to_.length∧m.to_.length≤2:=by
 obtain⟨x,r,e,_,h2⟩:=h.tos m hm;rw[e];rcases h2 with rfl | ⟨y,hy,rfl⟩<;>simp
theorem E6.full(h:E6 d exc 5)(hu:∀ m∈d,Xf d m.fr=m.to_):∀ (k f:Nat) (x:Int) (r:List Int),x<7680+(k:Int)→k≤5→k<f→(∀ y∈r,Xf d y=[])→r.length+k≤10→(Q4 d f (x::r)).isSome
 | k,0,_,_,_,_,hf,_,_=>by omega
 | k,f+1,x,r,hx,hk,hf,hr,hl=>by
  unfold Q4;by_cases hfx:Xf d x=[]
  ·have hm:Fp d (x::r)=false:=by
    simp only[Fp,Zg1,Zg];rintro y (rfl|hy)
    ·simp[hfx]
    simp[hr y hy]
   rw[Zjx hm];rfl
  have hm:Fp d (x::r)=true:=by
   simp only[Fp,Zii];exact⟨x,by simp,by simpa using hfx⟩
  rw[Zk9 (by rw[hm];simp)];obtain⟨m,hmd,hmf⟩:=Zyj hfx;have hto:Xf d x=m.to_:=by rw[← hmf];exact hu m hmd
  obtain⟨x',r',e,h1,h2⟩:=h.tos m hmd;have hfr:=h.fr_in hmd;have hnext:nextL d (x::r)=x'::(r'++r):=by
   have hrest:∀ l:List Int,(∀ y∈l,Xf d y=[])→nextL d l=l:=by
    intro l hl
    induction l with
    | nil=>rfl
    | cons a t ih =>
     have:=ih fun y hy=>hl y (by simp[hy])
     unfold nextL at this⊢;rw[Zhc,hl a (by simp),this];rfl
   have h3:=hrest r hr;unfold nextL at h3⊢;rw[Zhc,h3,hto,e];simp
  rw[hnext];have hr'l:r'.length≤1:=by rcases h2 with rfl | ⟨y,hy,rfl⟩<;>simp
  rw[Zk9 (by simp;omega)];have hrn:∀ y∈r'++r,Xf d y=[]:=fun y hy=>by
   rcases Zj.1 hy with hy|hy
   ·refine h.o ?_;rcases h2 with rfl | ⟨z,hz,rfl⟩
    ·simp at hy
    rw[Zi.1 hy];simp only[Zg,Zh,Zin]at hz;omega
   exact hr y hy
  cases k with
  | zero=>omega
  | succ k =>
   refine E6.full h hu k f x' (r'++r) ?_ (by omega) (by omega) hrn (by rw[Zs];omega);omega
end
theorem Zmw{T:Tbl}(hf:Few T)(hu:Uq0 T)(hk:KtP T):Fv T:=by
 have hd:=hk.dec;have hmsub:(T.map.map Mp.fr).Sublist (T.sta.map Sp.fr):=by
  rw[hk.map.fr];exact List.filter_sublist.map _
 have hmpw:(T.map.map Mp.fr).Pairwise (· < ·):=hk.map.sp.pw.sublist hmsub;have hprosub:(T.pro.map Mp.fr).Sublist [48,109,945,1072,1632]:=by
  have:=(hk.pro.sub.trans (Zgt _ _)).map Prod.fst;rw[Zi6]at this;exact this
 have hpin:∀ m∈T.pro,(m.fr,m.to_)∈Ae:=fun m hm=>(hk.pro.sub.trans (Zgt _ _)).subset (Zjs.2 ⟨m,hm,rfl⟩)
 have hign:∀ c:Int,c ∉ Ku→(Wk T.ign c==1)=false:=fun c hc=>by
  have:=Zrc (l:=T.ign) (c:=c) (fun s hs=>⟨(hk.ign.one s hs).1,fun e=>hc (by rw[← e];exact hk.ign.pool hs)⟩);rw[this];rfl
 have hxin:∀ c∈T.exc,∃ m∈T.dec,m.fr=c:=fun c hc=>by
  obtain⟨m,hm,e⟩:=Zjs.1 (hd.xs.subset hc);exact⟨m,hm,e⟩
 have hxpw:T.exc.Pairwise (· < ·):=hd.pw.sublist hd.xs;refine⟨?_,?_,?_,?_,?_,?_,?_,?_,?_,hf,hu,?_,?_⟩
 ·intro j p z hp hz
  match j with
  | 0=>cases hp;cases hz;exact hk.cat.ok
  | 1=>cases hp;cases hz;exact hk.cls.ok
  | 2=>cases hp;cases hz;exact hk.joi.ok
  | 3=>cases hp;cases hz;exact hk.bid.ok
  | 4=>cases hp;cases hz;exact hk.scr.ok
  | 5=>cases hp;cases hz;exact hk.map.sp.ok
  | 6=>cases hp;cases hz;exact hk.ign.ok
  | _+7=>simp[Zz2]at hp
 ·intro j p hp
  match j with
  | 0 =>
   cases hp
   rcases hk.ext with e | ⟨v,e⟩
   ·rw[e];exact⟨by simp,by simp,fun i x y _ h=>by simp at h,fun _=>by simp,fun h=>by omega⟩
   rw[e];refine⟨by simp,fun m hm=>?_,fun i x y hi h=>?_,fun _ m hm=>?_,fun h=>by omega⟩
   ·rw[Zi.1 hm];exact⟨by show(0:Int)≤12539;omega,by show(12539:Int)≤1114111;omega,.inl (by show Ia 12539=false;decide),by simp,by simp⟩
   ·rw[List.getElem?_cons]at h;split at h
    ·omega
    simp at h
   rw[Zi.1 hm];refine⟨fun c hc=>?_,fun i x y hi hx hy=>?_⟩
   ·simp at hc;omega
   match i with
   | 1=>simp at hx hy;omega
   | _+2=>simp at hx
  | 1 =>
   cases hp
   refine⟨by have:=hf.rows.2.1;exact this,fun m hm=>?_,fun i x y hi hx hy=>Zsd hmpw hi (by rw[Zn,hx];rfl) (by rw[Zn,hy];rfl),fun h=>by omega,fun _ m hm c hc=>?_⟩
   ·have h1:=hk.map.frs m hm;obtain⟨v,_,_,h2⟩:=hk.map.tos m hm;have h3:∀ c∈([947,7684,128512]:List Int),0≤c∧c≤1114111∧Ia c=false:=by decide
    obtain⟨q1,q2,q3⟩:=h3 _ h1;refine⟨q1,q2,.inl q3,?_,?_⟩<;>(rcases h2 with h2|h2<;>rw[h2]<;>simp)
   obtain⟨v,h1,h2,h3⟩:=hk.map.tos m hm;have hcv:c=v∨c=46:=by rcases h3 with h3|h3<;>rw[h3]at hc<;>simp at hc<;>omega
   unfold Zxw;rcases hcv with rfl|rfl
   ·simp;omega
   decide
  | 2 =>
   cases hp
   refine⟨by have:=hf.rows.1;exact this,fun m hm=>?_,fun i x y hi hx hy=>Zsd hd.pw hi (by rw[Zn,hx];rfl) (by rw[Zn,hy];rfl),fun h=>by omega,fun _ m hm c hc=>?_⟩
   ·have h1:=hd.fr_in hm;have h2:=hd.to_len hm;refine⟨by omega,by omega,.inl ?_,h2.1,by omega⟩;unfold Ia Bh Ic;simp;omega
   have h1:=hd.fr_in hm;have h2:=hd.to_in hm hc;unfold Zxw;simp;omega
  | 3 =>
   cases hp
   have hpw:(T.pro.map Mp.fr).Pairwise (· < ·):=(show([48,109,945,1072,1632]:List Int).Pairwise (· < ·) by decide).sublist hprosub;have hall:∀ q∈Ae,0≤q.1∧q.1≤1114111∧(Ia q.1=false∨Zod q.1=true)∧1≤q.2.length∧q.2.length≤18∧∀ c∈q.2,Zxw c=true:=by decide
   refine⟨by have:=hf.rows.2.2.1;exact this,fun m hm=>?_,fun i x y hi hx hy=>Zsd hpw hi (by rw[Zn,hx];rfl) (by rw[Zn,hy];rfl),fun h=>by omega,fun _ m hm c hc=>(hall _ (hpin m hm)).2.2.2.2.2 c hc⟩;obtain⟨q1,q2,q3,q4,q5,_⟩:=hall _ (hpin m hm);exact⟨q1,q2,q3.imp id fun h=>⟨rfl,h⟩,q4,q5⟩
  | _+4=>simp[Zzs]at hp
 ·have:=hd.len.2;omega
 ·intro c hc;obtain⟨m,hm,rfl⟩:=hxin c hc;have h1:=hd.fr_in hm;refine⟨by omega,by omega,?_,?_⟩
  ·unfold Ia Bh Ic;simp;omega
  rw[hu m hm];have:=(hd.to_len hm).1;intro e;rw[e]at this;simp at this
 ·exact fun i x y hi hx hy=>Zsd hxpw hi hx hy
 ·have:=congrArg List.length hk.map.fr;rw[Zq,Zq]at this;exact this.symm
 ·intro m hm;have h1:m.fr∈(T.sta.filter fun s=>s.val==3).map Sp.fr:=by rw[← hk.map.fr];exact Zjs.2 ⟨m,hm,rfl⟩
  obtain⟨s,hs,hsf⟩:=Zjs.1 h1;obtain⟨hs1,hs3⟩:=Zhh.1 hs;have hp:=Zsi _ (hk.map.sp.pool hs1);rw[hsf]at hp;refine⟨?_,fun c hc=>?_⟩
  ·unfold Zr3;rw[Zk9 (by rintro(h|h|h)<;>simp_all),Zk9 hp.2.2.2.2.2.2.1,← hsf,Znz hk.map.sp.pw (fun x hx=>(hk.map.sp.one x hx).1) s hs1];simpa using hs3
  obtain⟨v,h2,h3,h4⟩:=hk.map.tos m hm;have hcv:c=v∨c=46:=by rcases h4 with h4|h4<;>rw[h4]at hc<;>simp at hc<;>omega
  unfold Zr3;rw[Zjx];rcases hcv with rfl|rfl
  ·left;unfold Zod;simp;omega
  right;left;rfl
 ·intro m hm;refine⟨(hd.to_len hm).2,fun c hc=>?_⟩;have h1:=hd.fr_in hm;have h2:=hd.to_in hm hc;unfold Bh Ic;refine⟨by omega,?_,?_⟩<;>simp<;>omega
 ·intro m hm;have h1:=hd.fr_in hm;exact E6.full hd hu 5 257 m.fr [] (by omega) (by omega) (by omega) (by simp) (by simp)
 ·intro i j a b hji ha hb hca _ e;have hx:=hd.tw i j a b hji ha hb e;have h2:(Xf T.dec a.fr).length=2:=by
   refine Zik fun hn=>?_
   unfold Gf at hca;rw[Lt hn]at hca;simp at hca
  match hh:Xf T.dec a.fr with
  | [x,y] =>
   unfold Gf at hca;rw[Jp hh,Zjx (.inl (by unfold Zvb;rw[Zii];exact⟨a.fr,hx,by simp⟩))]at hca;simp at hca
  | []=>rw[hh]at h2;simp at h2
  | [_]=>rw[hh]at h2;simp at h2
  | _::_::_::_=>rw[hh]at h2;simp at h2
 intro m hm;have hp:=hpin m hm;obtain⟨h1,h2⟩:=hk.pro.ign m hm;have hpo:∀ c:Int,c≠48→c≠109→c≠945→c≠1072→c≠1632→Xf T.pro c=[]:=fun c n1 n2 n3 n4 n5=>P6 fun m' hm' e=>by
  have:=hprosub.subset (Zjs.2 ⟨m',hm',rfl⟩);simp only[Zg,Zh,Zin]at this;omega
 have hfr:m.fr<7680:=by
  simp only[Ae,Zg,Zh,Zin,Zg5]at hp;omega
 refine⟨hd.o (.inl hfr),h1,fun c hc=>?_⟩;simp only[Ae,Zg,Zh,Zin,Zg5]at hp;rcases hp with⟨_,e⟩ | ⟨_,e⟩ | ⟨_,e⟩ | ⟨_,e⟩ | ⟨_,e⟩<;>rw[e]at hc h2<;>simp only[Zg,Zh,Zin]at hc
 ·subst hc;exact⟨hd.o (by omega),h2,by decide,hpo _ (by omega) (by omega) (by omega) (by omega) (by omega)⟩
 ·rcases hc with rfl|rfl
  ·exact⟨hd.o (by omega),hign _ (by decide),by decide,hpo _ (by omega) (by omega) (by omega) (by omega) (by omega)⟩
  exact⟨hd.o (by omega),h2,by decide,hpo _ (by omega) (by omega) (by omega) (by omega) (by omega)⟩
 ·subst hc;exact⟨hd.o (by omega),h2,by decide,hpo _ (by omega) (by omega) (by omega) (by omega) (by omega)⟩
 ·subst hc;exact⟨hd.o (by omega),h2,by decide,hpo _ (by omega) (by omega) (by omega) (by omega) (by omega)⟩
 rcases hc with rfl|rfl
 ·exact⟨hd.o (by omega),hign _ (by decide),by decide,hpo _ (by omega) (by omega) (by omega) (by omega) (by omega)⟩
 exact⟨hd.o (by omega),h2,by decide,hpo _ (by omega) (by omega) (by omega) (by omega) (by omega)⟩
end
section
structure F7(w0 w:World)(B b s:Nat)(cs:List Value)(dv:Value)(dec:List MpS)(ev:Value)(exc:List Int):Prop where
 src:Src B w s
 chg:Chg (fun k=>k=b∨k=s) w0 w
 box:Xp w b ((cs.set 9 dv).set 10 ev)
 dOwn:Own mpE w w0.heap.size dv dec
 eOwn:Own Wb w w0.heap.size ev exc
 dis:∀ k,dv.ownBlock=some k→ev.ownBlock≠some k
 tos:∀ m∈dec,Xx w (fun k=>w0.heap.size≤k∧dv.ownBlock≠some k∧ev.ownBlock≠some k) m.1.tv m.1.to_∧m.1.to_.length≤2
 bs:b≠s
 bl:b<w0.heap.size
 sl:s<w0.heap.size
 bB:B≤b
section
variable {w0 w w':World} {B b s:Nat} {cs:List Value} {dv ev:Value} {dec:List MpS} {exc:List Int}
theorem F7.to(h:F7 w0 w B b s cs dv dec ev exc)(t:Vx B s w w'):F7 w0 w' B b s cs dv dec ev exc :=
 have hsl:=h.sl
 ⟨t.src,h.chg.thenB t.chg (fun k _ e=>.inr e),h.box.chg t.chg h.bs,h.dOwn.chg t.chg (fun k hk e=>by have:=(h.dOwn.lt k hk).1;omega),h.eOwn.chg t.chg (fun k hk e=>by have:=(h.eOwn.lt k hk).1;omega),h.dis,
   fun m hm=>⟨(h.tos m hm).1.chg t.chg (fun k hk e=>by have:=hk.1;omega),(h.tos m hm).2⟩,h.bs,h.bl,h.sl,h.bB⟩
theorem F7.ext(h:F7 w0 w B b s cs dv dec ev exc)(x:Ext w w'):F7 w0 w' B b s cs dv dec ev exc :=
 ⟨h.src.ext x,h.chg.trans (x.chg _),h.box.ext x,h.dOwn.ext x,h.eOwn.ext x,h.dis,fun m hm=>⟨(h.tos m hm).1.ext x,(h.tos m hm).2⟩,h.bs,h.bl,h.sl,h.bB⟩
theorem F7.growE{A:Option Addr}{n c:Nat}{x:Int}{o:Obj}(h:F7 w0 w B b s cs dv dec ev exc)(h10:10<cs.length)(hg:Grew Wb (w.alloc o) w0.heap.size ev (exc++[x]) A n c w') :
 F7 w0 (w'.setCell ⟨b,10,none⟩ (.slice A n c)) B b s cs dv dec (.slice A n c) (exc++[x]):=by
 have hsl:=h.sl;have hbl:=h.bl;have hlt:∀ k,ev.ownBlock=some k→w0.heap.size≤k:=fun k hk=>(h.eOwn.lt k hk).1
 have hat:∀ k,(Value.slice A n c).ownBlock=some k→ev.ownBlock=some k∨k=(w.alloc o).heap.size:=fun k hk=>by
  rcases hg.at_ with h1|h1
  ·exact .inl (by rw[← h1];exact hk)
  rw[hk]at h1;exact .inr (Zjy h1)
 have hd:∀ k,dv.ownBlock=some k→¬ (Value.slice A n c).ownBlock=some k:=fun k h1 h2=>by
  rcases hat k h2 with h3|h3
  ·exact h.dis k h1 h3
  have:=(h.dOwn.lt k h1).2;simp at h3;omega
 refine⟨?_,?_,?_,?_,?_,?_,?_,h.bs,hbl,hsl,h.bB⟩
 ·exact(((h.src.alloc o).chg hg.chg (fun e=>by have:=hlt s e;omega) (fun k hk e=>by have:=hlt k e;have:=h.src.ge;omega))).setCell h.bB (by show b≠s;exact h.bs) _
 ·exact((h.chg.alloc o).thenB hg.chg (fun k hk e=>by have:=hlt k e;omega)).setCell (.inl (.inl rfl)) _
 ·have h1:=(h.box.ext ((Yl _).alloc o)).chg hg.chg (fun e=>by have:=hlt b e;omega);have h2:=h1.set (j:=10) (by simp;omega) (.slice A n c)
  rwa [Zh5]at h2
 ·exact(((h.dOwn.ext ((Yl _).alloc o)).chg hg.chg (fun k h1 h2=>h.dis k h1 h2))).far (fun e=>by have:=(h.dOwn.lt b e).1;omega) _
 ·exact hg.own.far (fun e=>by have:=(hg.own.lt b e).1;omega) _
 ·exact fun k h1 h2=>hd k h1 h2
 intro m hm;obtain⟨h1,h2⟩:=h.tos m hm;refine⟨?_,h2⟩;have h3:Xx (w.alloc o) (fun k=>(w0.heap.size≤k∧dv.ownBlock≠some k∧ev.ownBlock≠some k)∧k<w.heap.size) m.1.tv m.1.to_:=(Rd.mono h1 fun k hk hl=>⟨hk,hl⟩).ext ((Yl _).alloc o)
 have h4:=(h3.chg hg.chg (fun k hk e=>hk.1.2.2 e)).chg ((Chg.refl (· = b) w').setCell (p:=⟨b,10,none⟩) (.inl rfl) (.slice A n c)) (fun k hk e=>by have:=hk.1.1;omega);exact Rd.mono h4 fun k hk _=>⟨hk.1.1,hk.1.2.1,fun e=>by
  rcases hat k e with h5|h5
  ·exact hk.1.2.2 h5
  have:=hk.2;simp at h5;omega⟩
theorem F7.growD{A:Option Addr}{n c:Nat}{m:MpS}{o:Obj}(h:F7 w0 w B b s cs dv dec ev exc)(h10:10<cs.length)(hm:Xx w (fun k=>w0.heap.size≤k∧dv.ownBlock≠some k∧ev.ownBlock≠some k) m.1.tv m.1.to_)(hm2:m.1.to_.length≤2)
 (hg:Grew mpE (w.alloc o) w0.heap.size dv (dec++[m]) A n c w'):F7 w0 (w'.setCell ⟨b,9,none⟩ (.slice A n c)) B b s cs (.slice A n c) (dec++[m]) ev exc:=by
 have hsl:=h.sl;have hbl:=h.bl;have hlt:∀ k,dv.ownBlock=some k→w0.heap.size≤k:=fun k hk=>(h.dOwn.lt k hk).1
 have hat:∀ k,(Value.slice A n c).ownBlock=some k→dv.ownBlock=some k∨k=(w.alloc o).heap.size:=fun k hk=>by
  rcases hg.at_ with h1|h1
  ·exact .inl (by rw[← h1];exact hk)
  rw[hk]at h1;exact .inr (Zjy h1)
 refine⟨?_,?_,?_,?_,?_,?_,?_,h.bs,hbl,hsl,h.bB⟩
 ·exact(((h.src.alloc o).chg hg.chg (fun e=>by have:=hlt s e;omega) (fun k hk e=>by have:=hlt k e;have:=h.src.ge;omega))).setCell h.bB (by show b≠s;exact h.bs) _
 ·exact((h.chg.alloc o).thenB hg.chg (fun k hk e=>by have:=hlt k e;omega)).setCell (.inl (.inl rfl)) _
 ·have h1:=(h.box.ext ((Yl _).alloc o)).chg hg.chg (fun e=>by have:=hlt b e;omega);have h2:=h1.set (j:=9) (by simp;omega) (.slice A n c)
  rwa [List.set_comm _ _ (by omega),Zh5]at h2
 ·exact hg.own.far (fun e=>by have:=(hg.own.lt b e).1;omega) _
 ·exact(((h.eOwn.ext ((Yl _).alloc o)).chg hg.chg (fun k h1 h2=>h.dis k h2 h1))).far (fun e=>by have:=(h.eOwn.lt b e).1;omega) _
 ·intro k h1 h2;rcases hat k h1 with h3|h3
  ·exact h.dis k h3 h2
  have:=(h.eOwn.lt k h2).2;simp at h3;omega
 intro q hq;have key:∀ {v:Value} {l:List Int},Xx w (fun k=>w0.heap.size≤k∧dv.ownBlock≠some k∧ev.ownBlock≠some k) v l→Xx (w'.setCell ⟨b,9,none⟩ (.slice A n c)) (fun k=>w0.heap.size≤k∧(Value.slice A n c).ownBlock≠some k∧ev.ownBlock≠some k) v l:=by
  intro v l h1;have h3:Xx (w.alloc o) (fun k=>(w0.heap.size≤k∧dv.ownBlock≠some k∧ev.ownBlock≠some k)∧k<w.heap.size) v l:=Xx.ext (Rd.mono h1 fun k hk hl=>⟨hk,hl⟩) ((Yl _).alloc o);have h4:=(h3.chg hg.chg (fun k hk e=>hk.1.2.1 e)).chg ((Chg.refl (· = b) w').setCell (p:=⟨b,9,none⟩) (.inl rfl) (.slice A n c)) (fun k hk e=>by have:=hk.1.1;omega);exact Rd.mono h4 fun k hk _=>⟨hk.1.1,fun e=>by
   rcases hat k e with h5|h5
   ·exact hk.1.2.1 h5
   have:=hk.2;simp at h5;omega,hk.1.2.2⟩
 rcases Zj.1 hq with hq|hq
 ·exact⟨key (h.tos q hq).1,(h.tos q hq).2⟩
 rw[Zi.1 hq];exact⟨key hm,hm2⟩
end
structure Ou(B s:Nat)(wI w:World)(mb:Nat)(fr:Int)(tv:Value)(to_:List Int):Prop where
 t:Vx B s wI w
 box:Xp w mb [.int .i64 fr,tv]
 own:Own Wb w wI.heap.size tv to_
 ne:tv.ownBlock≠some mb
 lo:wI.heap.size≤mb
 l1:1≤to_.length
 l2:to_.length≤2
 sl:s<wI.heap.size
section
variable {wI w w':World} {B s mb:Nat} {fr:Int} {tv:Value} {to_:List Int}
theorem Ou.next(h:Ou B s wI w mb fr tv to_)(t:Vx B s w w'):Ou B s wI w' mb fr tv to_ :=
 have hsl:=h.sl;have hlo:=h.lo
 ⟨h.t.trans t,h.box.chg t.chg (by omega),h.own.chg t.chg (fun k hk e=>by have:=(h.own.lt k hk).1;omega),h.ne,h.lo,h.l1,h.l2,h.sl⟩
theorem Ou.ext(h:Ou B s wI w mb fr tv to_)(x:Ext w w'):Ou B s wI w' mb fr tv to_:=⟨h.t.ext x,h.box.ext x,h.own.ext x,h.ne,h.lo,h.l1,h.l2,h.sl⟩
theorem Ou.ge(h:Ou B s wI w mb fr tv to_):B≤s:=h.t.src.ge
theorem Ou.put{g n c:Nat}{to_:List Int}(h:Ou B s wI w mb fr (.slice (some ⟨g,0,none⟩) n c) to_){j:Nat}(hj:j<to_.length)(x:Int):Ou B s wI (w.setCell ⟨g,j,none⟩ (.int .i64 x)) mb fr (.slice (some ⟨g,0,none⟩) n c) (to_.set j x) :=
 have hsl:=h.sl;have hg:=(h.own.lt g rfl).1;have hBs:=h.ge
 ⟨h.t.setCell hg (by show g≠s;omega) (by show B≤g;omega) _,h.box.far (fun e=>h.ne (by rw[e];rfl)) _,h.own.put rfl hj x rfl,h.ne,h.lo,by rw[Zf];exact h.l1,by rw[Zf];exact h.l2,h.sl⟩
theorem Ou.grow{w5:World}{o:Obj}{x:Int}{A:Option Addr}{n c:Nat}(h:Ou B s wI w mb fr tv to_)(h1:to_.length=1)(hg:Grew Wb (w.alloc o) wI.heap.size tv (to_++[x]) A n c w5):Ou B s wI (w5.setCell ⟨mb,1,none⟩ (.slice A n c)) mb fr (.slice A n c) (to_++[x]):=by
 have hsl:=h.sl;have hlo:=h.lo;have hBs:=h.ge;have hlt:∀ k,tv.ownBlock=some k→wI.heap.size≤k:=fun k hk=>(h.own.lt k hk).1
 have hne:(Value.slice A n c).ownBlock≠some mb:=fun e=>by
  rcases hg.at_ with h2|h2
  ·exact h.ne (by rw[← h2];exact e)
  rw[e]at h2;have:=h.box.lt;simp at h2;omega
 refine⟨⟨?_,?_⟩,?_,?_,hne,hlo,by simp,by simp[h1],hsl⟩
 ·exact((h.t.src.alloc o).chg hg.chg (fun e=>by have:=hlt s e;omega) (fun k hk e=>by have:=hlt k e;omega)).setCell (by show B≤mb;omega) (by show mb≠s;omega) _
 ·exact((h.t.chg.alloc o).thenB hg.chg (fun k hk e=>by have:=hlt k e;omega)).setCell (.inr hlo) _
 ·exact((h.box.ext ((Yl _).alloc o)).chg hg.chg (fun e=>h.ne e)).set (j:=1) (by simp) _
 exact hg.own.far hne _
end
end
