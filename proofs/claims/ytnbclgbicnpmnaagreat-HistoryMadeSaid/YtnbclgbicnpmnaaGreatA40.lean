/- Lemmas of this claim. Conditions: as named. -/
import Derived.Test.YtnbclgbicnpmnaaGreatA14
import Derived.Test.YtnbclgbicnpmnaaGreatA29
namespace Go.Proofs.YtnbclgbicnpmnaaGreat
open Go.RowKit Go.Sort
set_option maxHeartbeats 0
set_option maxRecDepth 100000
set_option linter.all false
structure SpP(l:List Sp)(q:Nat)(M:Int):Prop where
 sub:(l.map Sp.fr).Sublist (Kw.take q)
 one:∀ s∈l,s.to_=s.fr∧1≤s.val∧s.val≤M
theorem SpP.nil(q:Nat)(M:Int):SpP [] q M:=⟨by simp,by simp⟩
theorem SpP.up{l:List Sp}{q q':Nat}{M:Int}(h:SpP l q M)(hq:q≤q'):SpP l q' M:=⟨h.sub.trans (Zj2 hq),h.one⟩
theorem SpP.len{l:List Sp}{q:Nat}{M:Int}(h:SpP l q M):l.length≤q:=by
 have:=h.sub.length_le;rw[Zq,Zp]at this;omega
theorem SpP.snoc{l:List Sp}{q:Nat}{M c v:Int}(h:SpP l q M)(hc:Kw[q]?=some c)(h1:1≤v)(h2:v≤M):SpP (l++[⟨c,c,v⟩]) (q+1) M:=by
 refine⟨?_,fun s hs=>?_⟩
 ·rw[Z9,Wp hc];exact h.sub.append (Ziq _)
 rcases Zj.1 hs with hs|hs
 ·exact h.one s hs
 rw[Zi.1 hs];exact⟨rfl,h1,h2⟩
theorem SpP.add{l l':List Sp}{q:Nat}{M c v:Int}(h:SpP l q M)(hc:Kw[q]?=some c)(h2:v≤M)(ha:(0<v∧l'=l++[⟨c,c,v⟩])∨(¬ 0<v∧l'=l)):SpP l' (q+1) M:=by
 rcases ha with⟨h1,rfl⟩ | ⟨_,rfl⟩
 ·exact h.snoc hc (by omega) h2
 exact h.up (Zjd _)
def I9(k:Nat):List Int:=(List.range k).map fun i:Nat=>7680+(i:Int)
def ToP(to_:List Int)(fr:Int):Prop:=∃ x r,to_=x::r∧(x=97∨x=98∨(7680≤x∧x<fr))∧(r=[]∨∃ y,y∈([769,776,803,837,945]:List Int)∧r=[y])
theorem ToP.one_{l:List Int}{fr:Int}(h:∃ x,l=[x]∧(x=97∨x=98∨(7680≤x∧x<fr))):ToP l fr:=by
 obtain⟨x,rfl,h⟩:=h;exact⟨x,[],rfl,h,.inl rfl⟩
theorem ToP.two{l:List Int}{fr y:Int}(h:∃ x,l=[x]∧(x=97∨x=98∨(7680≤x∧x<fr)))(hy:y∈([769,776,803,837,945]:List Int)):ToP (l++[y]) fr:=by
 obtain⟨x,rfl,h⟩:=h;exact⟨x,[y],rfl,h,.inr ⟨y,hy,rfl⟩⟩
theorem Zn9{dec:List MpS}{j:Nat}{m:MpS}{to3:List Int}{r:Bool}(hm:dec[j]?=some m)(h:∀ x∈dec.take j,x.1.to_≠to3)(hr:decide (m.1.to_=to3)=r)(h0:r=false):∀ x∈dec.take (j+1),x.1.to_≠to3:=by
 intro x hx;rw[Wp hm]at hx;rcases Zj.1 hx with hx|hx
 ·exact h x hx
 rw[Zi.1 hx];exact Zi5 (hr.trans h0)
structure Ee(d:List Mp)(exc:List Int)(k:Nat):Prop where
 sub:(d.map Mp.fr).Sublist (I9 k)
 xs:exc.Sublist (d.map Mp.fr)
 tos:∀ m∈d,ToP m.to_ m.fr
 tw:∀ (i j:Nat) a b,j<i→d[i]?=some a→d[j]?=some b→a.to_=b.to_→a.fr∈exc
theorem Ee.nil:Ee [] [] 0:=⟨by simp,by simp,by simp,fun i j a b _ h=>by simp at h⟩
theorem Zyq{k:Nat}:I9 (k+1)=I9 k++[7680+(k:Int)]:=by unfold I9;rw[Ziu,Z9];rfl
theorem Ee.up{d:List Mp}{exc:List Int}{k:Nat}(h:Ee d exc k):Ee d exc (k+1) :=
 ⟨by rw[Zyq];exact h.sub.trans (Zhx _ _),h.xs,h.tos,h.tw⟩
theorem Ee.len{d:List Mp}{exc:List Int}{k:Nat}(h:Ee d exc k):d.length≤k∧exc.length≤k:=by
 have h1:=h.sub.length_le;have h2:=h.xs.length_le;simp only[I9,Zq,Zi8]at h1 h2;omega
theorem Ee.more{d:List Mp}{exc:List Int}{k:Nat}{m:Mp}(h:Ee d exc k)(hf:m.fr=7680+(k:Int))(ht:ToP m.to_ m.fr){q:Bool}(hq:q=false→∀ x∈d,x.to_≠m.to_){exc':List Int}(he:exc'=if q then exc++[m.fr]else exc):Ee (d++[m]) exc' (k+1):=by
 refine⟨?_,?_,fun x hx=>?_,fun i j a b hji ha hb e=>?_⟩
 ·rw[Z9,Zyq];exact h.sub.append (by rw[← hf];exact Ziq _)
 ·rw[he,Z9];cases q with
  | true=>exact h.xs.append (Ziq _)
  | false=>exact h.xs.trans (Zhx _ _)
 ·rcases Zj.1 hx with hx|hx
  ·exact h.tos x hx
  rw[Zi.1 hx];exact ht
 have hsub:∀ z∈exc,z∈exc':=fun z hz=>by rw[he];cases q<;>simp[hz]
 have hil:=(Zr.1 ha).1;rw[Zs,Zj4]at hil;by_cases hi:i<d.length
 ·rw[Ze hi]at ha;rw[Ze (by omega)]at hb;exact hsub _ (h.tw i j a b hji ha hb e)
 obtain rfl:i=d.length:=by omega
 rw[Ze hji]at hb;rw[Zd (Yp _),Nat.sub_self]at ha;obtain rfl:m=a:=by simpa using ha
 cases q with
 | true=>rw[he];simp
 | false=>exact absurd e.symm (hq rfl b (Zy hb))
structure Zpj(m:List Mp)(sta:List Sp)(q:Nat):Prop where
 sp:SpP sta q 4
 fr:m.map Mp.fr=(sta.filter fun s=>s.val==3).map Sp.fr
 frs:∀ x∈m,x.fr∈([947,7684,128512]:List Int)
 tos:∀ x∈m,(∃ v:Int,97≤v∧v≤99∧(x.to_=[v]∨x.to_=[v,46]))
structure Zmk(m:List Mp)(sta:List Sp)(q:Nat)(c si:Int):Prop where
 sp:SpP sta q 4
 fr:m.map Mp.fr=(sta.filter fun s=>s.val==3).map Sp.fr++if si=3 then[c]else[]
 frs:∀ x∈m,x.fr∈([947,7684,128512]:List Int)
 tos:∀ x∈m,(∃ v:Int,97≤v∧v≤99∧(x.to_=[v]∨x.to_=[v,46]))
 si:si≤4
theorem Zpj.same{m:List Mp}{sta:List Sp}{q:Nat}(h:Zpj m sta q)(c:Int){si:Int}(h1:si≤4)(h2:si≠3):Zmk m sta q c si:=⟨h.sp,by rw[Zlk h2,Zis];exact h.fr,h.frs,h.tos,h1⟩
theorem Zpj.more{m:List Mp}{sta:List Sp}{q:Nat}(h:Zpj m sta q)(x:Mp)(hf:x.fr∈([947,7684,128512]:List Int))(ht:∃ v:Int,97≤v∧v≤99∧(x.to_=[v]∨x.to_=[v,46])):Zmk (m++[x]) sta q x.fr 3:=by
 refine⟨h.sp,by rw[Zlg rfl,Z9,h.fr];rfl,fun y hy=>?_,fun y hy=>?_,by omega⟩
 ·rcases Zj.1 hy with hy|hy
  ·exact h.frs y hy
  rw[Zi.1 hy];exact hf
 rcases Zj.1 hy with hy|hy
 ·exact h.tos y hy
 rw[Zi.1 hy];exact ht
theorem Zmk.next{m:List Mp}{sta sta':List Sp}{q:Nat}{c si:Int}(h:Zmk m sta q c si)(hc:Kw[q]?=some c)(ha:(0<si∧sta'=sta++[⟨c,c,si⟩])∨(¬ 0<si∧sta'=sta)):Zpj m sta' (q+1):=by
 refine⟨h.sp.add hc h.si ha,?_,h.frs,h.tos⟩;rw[h.fr];rcases ha with⟨h1,rfl⟩ | ⟨h1,rfl⟩
 ·rw[Zj1,Z9];by_cases h3:si=3
  ·subst h3;rw[Zlg rfl];rfl
  have hb:(si==3)=false:=by simp[h3]
  rw[Zlk h3];simp[List.filter,hb]
 rw[Zlk (by omega),Zis]
def Ak:List (Int×List Int):=[(48,[111]),(109,[114,110]),(945,[97]),(1072,[97]),(1632,[111,803])]
structure Zvs(T:Tbl)(p:List Mp)(q:Nat):Prop where
 sub:(p.map fun m=>(m.fr,m.to_)).Sublist (Ak.take q)
 ign:∀ m∈p,(Wk T.ign m.fr==1)=false∧(Wk T.ign (m.to_.getLastD 0)==1)=false
theorem Zvs.nil(T:Tbl):Zvs T [] 0:=⟨by simp,by simp⟩
theorem Zvs.up{T:Tbl}{p:List Mp}{q:Nat}(h:Zvs T p q):Zvs T p (q+1):=⟨h.sub.trans (Zj2 (Zjd _)),h.ign⟩
theorem Zvs.more{T:Tbl}{p:List Mp}{q:Nat}{m:Mp}(h:Zvs T p q)(hm:Ak[q]?=some (m.fr,m.to_))(h1:(Wk T.ign m.fr==1)=false)(h2:(Wk T.ign (m.to_.getLastD 0)==1)=false):Zvs T (p++[m]) (q+1):=by
 refine⟨?_,fun x hx=>?_⟩
 ·rw[Z9,Wp hm];exact h.sub.append (Ziq _)
 rcases Zj.1 hx with hx|hx
 ·exact h.ign x hx
 rw[Zi.1 hx];exact⟨h1,h2⟩
structure KtP(T:Tbl):Prop where
 cat:SpP T.cat 28 8
 cls:SpP T.cls 28 254
 joi:SpP T.joi 28 5
 bid:SpP T.bid 28 11
 scr:SpP T.scr 28 60
 ign:SpP T.ign 28 1
 dec:Ee T.dec T.exc 5
 map:Zpj T.map T.sta 28
 pro:Zvs T T.pro 5
 ext:T.ext=[]∨∃ v,T.ext=[⟨12539,v,[7,8]⟩]
section
theorem Zt2:∀ c∈Kw,0≤c∧c≤1114111∧Ij c=false∧Zpc c=false∧c≠46∧Bk c=false∧¬ (65≤c∧c≤90)∧c≠114∧c≠111:=by decide
theorem Zng:Kw.Pairwise (· < ·):=by decide
theorem Zt7{L:List Int}(h:L.Pairwise (· < ·)){i:Nat}{x y:Int}(hi:0<i)(hx:L[i]?=some x)(hy:L[i-1]?=some y):y<x:=by
 obtain⟨a1,rfl⟩:=Zr.1 hx;obtain⟨a2,rfl⟩:=Zr.1 hy;exact Zk5.1 h (i-1) i a2 a1 (by omega)
theorem SpP.pw{l:List Sp}{M:Int}(h:SpP l 28 M):(l.map Sp.fr).Pairwise (· < ·):=Zng.sublist (h.sub.trans (Zip _ _))
theorem SpP.pool{l:List Sp}{M:Int}(h:SpP l 28 M){s:Sp}(hs:s∈l):s.fr∈Kw:=((h.sub.trans (Zip _ _)).subset (Zl3.2 ⟨s,hs,rfl⟩))
theorem SpP.ok{l:List Sp}{M:Int}(h:SpP l 28 M):Zlr l M :=
 ⟨by have:=h.len;omega,fun s hs=>by
   obtain⟨h1,h2,h3⟩:=h.one s hs;obtain⟨p1,p2,p3,_⟩:=Zt2 _ (h.pool hs);exact⟨p1,h1,p2,p3,h2,h3⟩,fun i x y hi hx hy=>Zt7 h.pw hi (by rw[Zn,hx];rfl) (by rw[Zn,hy];rfl)⟩
theorem Zp9:∀ {l:List Sp},(l.map Sp.fr).Pairwise (· < ·)→(∀ s∈l,s.to_=s.fr)→∀ s∈l,Wk l s.fr=s.val
 | [],_,_,s,hs=>by simp at hs
 | a::r,hp,h1,s,hs=>by
  rw[Zku,Zkg]at hp;rw[Wk];rcases Zg.1 hs with rfl|hs
  ·rw[Zlg ⟨Zkd _,by rw[h1 s (by simp)];exact Zkd _⟩]
  have:=hp.1 s.fr (Zl3.2 ⟨s,hs,rfl⟩);rw[Zlk (by rw[h1 a (by simp)];omega)];exact Zp9 hp.2 (fun x hx=>h1 x (by simp[hx])) s hs
theorem Zs7:∀ {l:List Sp} {c:Int},(∀ s∈l,s.to_=s.fr∧s.fr≠c)→Wk l c=0
 | [],_,_=>rfl
 | a::r,c,h=>by
  rw[Wk];obtain⟨h1,h2⟩:=h a (by simp);rw[Zlk (by omega)];exact Zs7 fun s hs=>h s (by simp[hs])
theorem Pk:∀ {l:List Mp} {c:Int},(∀ m∈l,m.fr≠c)→Xe l c=[]
 | [],_,_=>rfl
 | a::r,c,h=>by
  rw[Xe,Zlk (h a (by simp))];exact Pk fun s hs=>h s (by simp[hs])
section
variable {d:List Mp} {exc:List Int}
theorem Ee.fr_in(h:Ee d exc 5){m:Mp}(hm:m∈d):7680≤m.fr∧m.fr≤7684:=by
 have:=h.sub.subset (Zl3.2 ⟨m,hm,rfl⟩);have h2:∀ c∈I9 5,(7680:Int)≤c∧c≤7684:=by decide
 exact h2 _ this
theorem Ee.pw(h:Ee d exc 5):(d.map Mp.fr).Pairwise (· < ·):=(show(I9 5).Pairwise (· < ·) by decide).sublist h.sub
theorem Ee.o(h:Ee d exc 5){c:Int}(hc:c<7680∨7684<c):Xe d c=[]:=Pk fun m hm e=>by have:=h.fr_in hm;omega
theorem Ee.to_in(h:Ee d exc 5){m:Mp}(hm:m∈d){c:Int}(hc:c∈m.to_):c=97∨c=98∨(7680≤c∧c<m.fr)∨c=769∨c=776∨c=803∨c=837∨c=945:=by
 obtain⟨x,r,e,h1,h2⟩:=h.tos m hm;rw[e]at hc;rcases Zg.1 hc with rfl|hc
 ·omega
 rcases h2 with rfl | ⟨y,hy,rfl⟩
 ·simp at hc
 rw[Zi.1 hc];simp only[Zg,Zh,Zkh]at hy;omega
theorem Ee.to_len(h:Ee d exc 5){m:Mp}(hm:m∈d):1≤m.to_.length∧m.to_.length≤2:=by
 obtain⟨x,r,e,_,h2⟩:=h.tos m hm;rw[e];rcases h2 with rfl | ⟨y,hy,rfl⟩<;>simp
theorem Ee.full(h:Ee d exc 5)(hu:∀ m∈d,Xe d m.fr=m.to_):∀ (k f:Nat) (x:Int) (r:List Int),x<7680+(k:Int)→k≤5→k<f→(∀ y∈r,Xe d y=[])→r.length+k≤10→(Qj d f (x::r)).isSome
 | k,0,_,_,_,_,hf,_,_=>by omega
 | k,f+1,x,r,hx,hk,hf,hr,hl=>by
  unfold Qj;by_cases hfx:Xe d x=[]
  ·have hm:Fz d (x::r)=false:=by
    simp only[Fz,List.any_eq_false,Zg];rintro y (rfl|hy)
    ·simp[hfx]
    simp[hr y hy]
   rw[Zlg hm];rfl
  have hm:Fz d (x::r)=true:=by
   simp only[Fz,Zk7];exact⟨x,by simp,by simpa using hfx⟩
  rw[Zlk (by rw[hm];simp)];obtain⟨m,hmd,hmf⟩:=Zyn hfx;have hto:Xe d x=m.to_:=by rw[← hmf];exact hu m hmd
  obtain⟨x',r',e,h1,h2⟩:=h.tos m hmd;have hfr:=h.fr_in hmd;have hnext:nextL d (x::r)=x'::(r'++r):=by
   have hrest:∀ l:List Int,(∀ y∈l,Xe d y=[])→nextL d l=l:=by
    intro l hl
    induction l with
    | nil=>rfl
    | cons a t ih =>
     have:=ih fun y hy=>hl y (by simp[hy])
     unfold nextL at this⊢;rw[Zj6,hl a (by simp),this];rfl
   have h3:=hrest r hr;unfold nextL at h3⊢;rw[Zj6,h3,hto,e];simp
  rw[hnext];have hr'l:r'.length≤1:=by rcases h2 with rfl | ⟨y,hy,rfl⟩<;>simp
  rw[Zlk (by simp;omega)];have hrn:∀ y∈r'++r,Xe d y=[]:=fun y hy=>by
   rcases Zj.1 hy with hy|hy
   ·refine h.o ?_;rcases h2 with rfl | ⟨z,hz,rfl⟩
    ·simp at hy
    rw[Zi.1 hy];simp only[Zg,Zh,Zkh]at hz;omega
   exact hr y hy
  cases k with
  | zero=>omega
  | succ k =>
   refine Ee.full h hu k f x' (r'++r) ?_ (by omega) (by omega) hrn (by rw[Zs];omega);omega
end
theorem Zo7{T:Tbl}(hf:Few T)(hu:Uq0 T)(hk:KtP T):Af T:=by
 have hd:=hk.dec;have hmsub:(T.map.map Mp.fr).Sublist (T.sta.map Sp.fr):=by
  rw[hk.map.fr];exact List.filter_sublist.map _
 have hmpw:(T.map.map Mp.fr).Pairwise (· < ·):=hk.map.sp.pw.sublist hmsub;have hprosub:(T.pro.map Mp.fr).Sublist [48,109,945,1072,1632]:=by
  have:=(hk.pro.sub.trans (Zip _ _)).map Prod.fst;rw[Zjq]at this;exact this
 have hpin:∀ m∈T.pro,(m.fr,m.to_)∈Ak:=fun m hm=>(hk.pro.sub.trans (Zip _ _)).subset (Zl3.2 ⟨m,hm,rfl⟩)
 have hign:∀ c:Int,c ∉ Kw→(Wk T.ign c==1)=false:=fun c hc=>by
  have:=Zs7 (l:=T.ign) (c:=c) (fun s hs=>⟨(hk.ign.one s hs).1,fun e=>hc (by rw[← e];exact hk.ign.pool hs)⟩);rw[this];rfl
 have hxin:∀ c∈T.exc,∃ m∈T.dec,m.fr=c:=fun c hc=>by
  obtain⟨m,hm,e⟩:=Zl3.1 (hd.xs.subset hc);exact⟨m,hm,e⟩
 have hxpw:T.exc.Pairwise (· < ·):=hd.pw.sublist hd.xs;refine⟨?_,?_,?_,?_,?_,?_,?_,?_,?_,hf,hu,?_,?_⟩
 ·intro j p z hp hz
  match j with
  | 0=>cases hp;cases hz;exact hk.cat.ok
  | 1=>cases hp;cases hz;exact hk.cls.ok
  | 2=>cases hp;cases hz;exact hk.joi.ok
  | 3=>cases hp;cases hz;exact hk.bid.ok
  | 4=>cases hp;cases hz;exact hk.scr.ok
  | 5=>cases hp;cases hz;exact hk.map.sp.ok
  | 6=>cases hp;cases hz;exact hk.ign.ok
  | _+7=>simp[Zzd]at hp
 ·intro j p hp
  match j with
  | 0 =>
   cases hp
   rcases hk.ext with e | ⟨v,e⟩
   ·rw[e];exact⟨by simp,by simp,fun i x y _ h=>by simp at h,fun _=>by simp,fun h=>by omega⟩
   rw[e];refine⟨by simp,fun m hm=>?_,fun i x y hi h=>?_,fun _ m hm=>?_,fun h=>by omega⟩
   ·rw[Zi.1 hm];exact⟨by show(0:Int)≤12539;omega,by show(12539:Int)≤1114111;omega,.inl (by show Ij 12539=false;decide),by simp,by simp⟩
   ·rw[List.getElem?_cons]at h;split at h
    ·omega
    simp at h
   rw[Zi.1 hm];refine⟨fun c hc=>?_,fun i x y hi hx hy=>?_⟩
   ·simp at hc;omega
   match i with
   | 1=>simp at hx hy;omega
   | _+2=>simp at hx
  | 1 =>
   cases hp
   refine⟨by have:=hf.rows.2.1;exact this,fun m hm=>?_,fun i x y hi hx hy=>Zt7 hmpw hi (by rw[Zn,hx];rfl) (by rw[Zn,hy];rfl),fun h=>by omega,fun _ m hm c hc=>?_⟩
   ·have h1:=hk.map.frs m hm;obtain⟨v,_,_,h2⟩:=hk.map.tos m hm;have h3:∀ c∈([947,7684,128512]:List Int),0≤c∧c≤1114111∧Ij c=false:=by decide
    obtain⟨q1,q2,q3⟩:=h3 _ h1;refine⟨q1,q2,.inl q3,?_,?_⟩<;>(rcases h2 with h2|h2<;>rw[h2]<;>simp)
   obtain⟨v,h1,h2,h3⟩:=hk.map.tos m hm;have hcv:c=v∨c=46:=by rcases h3 with h3|h3<;>rw[h3]at hc<;>simp at hc<;>omega
   unfold Zy9;rcases hcv with rfl|rfl
   ·simp;omega
   decide
  | 2 =>
   cases hp
   refine⟨by have:=hf.rows.1;exact this,fun m hm=>?_,fun i x y hi hx hy=>Zt7 hd.pw hi (by rw[Zn,hx];rfl) (by rw[Zn,hy];rfl),fun h=>by omega,fun _ m hm c hc=>?_⟩
   ·have h1:=hd.fr_in hm;have h2:=hd.to_len hm;refine⟨by omega,by omega,.inl ?_,h2.1,by omega⟩;unfold Ij Bk Il;simp;omega
   have h1:=hd.fr_in hm;have h2:=hd.to_in hm hc;unfold Zy9;simp;omega
  | 3 =>
   cases hp
   have hpw:(T.pro.map Mp.fr).Pairwise (· < ·):=(show([48,109,945,1072,1632]:List Int).Pairwise (· < ·) by decide).sublist hprosub;have hall:∀ q∈Ak,0≤q.1∧q.1≤1114111∧(Ij q.1=false∨Zpc q.1=true)∧1≤q.2.length∧q.2.length≤18∧∀ c∈q.2,Zy9 c=true:=by decide
   refine⟨by have:=hf.rows.2.2.1;exact this,fun m hm=>?_,fun i x y hi hx hy=>Zt7 hpw hi (by rw[Zn,hx];rfl) (by rw[Zn,hy];rfl),fun h=>by omega,fun _ m hm c hc=>(hall _ (hpin m hm)).2.2.2.2.2 c hc⟩;obtain⟨q1,q2,q3,q4,q5,_⟩:=hall _ (hpin m hm);exact⟨q1,q2,q3.imp id fun h=>⟨rfl,h⟩,q4,q5⟩
  | _+4=>simp[Zzw]at hp
 ·have:=hd.len.2;omega
 ·intro c hc;obtain⟨m,hm,rfl⟩:=hxin c hc;have h1:=hd.fr_in hm;refine⟨by omega,by omega,?_,?_⟩
  ·unfold Ij Bk Il;simp;omega
  rw[hu m hm];have:=(hd.to_len hm).1;intro e;rw[e]at this;simp at this
 ·exact fun i x y hi hx hy=>Zt7 hxpw hi hx hy
 ·have:=congrArg List.length hk.map.fr;rw[Zq,Zq]at this;exact this.symm
 ·intro m hm;have h1:m.fr∈(T.sta.filter fun s=>s.val==3).map Sp.fr:=by rw[← hk.map.fr];exact Zl3.2 ⟨m,hm,rfl⟩
  obtain⟨s,hs,hsf⟩:=Zl3.1 h1;obtain⟨hs1,hs3⟩:=Zhs.1 hs;have hp:=Zt2 _ (hk.map.sp.pool hs1);rw[hsf]at hp;refine⟨?_,fun c hc=>?_⟩
  ·unfold Zrw;rw[Zlk (by rintro(h|h|h)<;>simp_all),Zlk hp.2.2.2.2.2.2.1,← hsf,Zp9 hk.map.sp.pw (fun x hx=>(hk.map.sp.one x hx).1) s hs1];simpa using hs3
  obtain⟨v,h2,h3,h4⟩:=hk.map.tos m hm;have hcv:c=v∨c=46:=by rcases h4 with h4|h4<;>rw[h4]at hc<;>simp at hc<;>omega
  unfold Zrw;rw[Zlg];rcases hcv with rfl|rfl
  ·left;unfold Zpc;simp;omega
  right;left;rfl
 ·intro m hm;refine⟨(hd.to_len hm).2,fun c hc=>?_⟩;have h1:=hd.fr_in hm;have h2:=hd.to_in hm hc;unfold Bk Il;refine⟨by omega,?_,?_⟩<;>simp<;>omega
 ·intro m hm;have h1:=hd.fr_in hm;exact Ee.full hd hu 5 257 m.fr [] (by omega) (by omega) (by omega) (by simp) (by simp)
 ·intro i j a b hji ha hb hca _ e;have hx:=hd.tw i j a b hji ha hb e;have h2:(Xe T.dec a.fr).length=2:=by
   refine Zjo fun hn=>?_
   unfold Gh at hca;rw[F6 hn]at hca;simp at hca
  match hh:Xe T.dec a.fr with
  | [x,y] =>
   unfold Gh at hca;rw[Ju hh,Zlg (.inl (by unfold Zvr;rw[Zk7];exact⟨a.fr,hx,by simp⟩))]at hca;simp at hca
  | []=>rw[hh]at h2;simp at h2
  | [_]=>rw[hh]at h2;simp at h2
  | _::_::_::_=>rw[hh]at h2;simp at h2
 intro m hm;have hp:=hpin m hm;obtain⟨h1,h2⟩:=hk.pro.ign m hm;have hpo:∀ c:Int,c≠48→c≠109→c≠945→c≠1072→c≠1632→Xe T.pro c=[]:=fun c n1 n2 n3 n4 n5=>Pk fun m' hm' e=>by
  have:=hprosub.subset (Zl3.2 ⟨m',hm',rfl⟩);simp only[Zg,Zh,Zkh]at this;omega
 have hfr:m.fr<7680:=by
  simp only[Ak,Zg,Zh,Zkh,Zhb]at hp;omega
 refine⟨hd.o (.inl hfr),h1,fun c hc=>?_⟩;simp only[Ak,Zg,Zh,Zkh,Zhb]at hp;rcases hp with⟨_,e⟩ | ⟨_,e⟩ | ⟨_,e⟩ | ⟨_,e⟩ | ⟨_,e⟩<;>rw[e]at hc h2<;>simp only[Zg,Zh,Zkh]at hc
 ·subst hc;exact⟨hd.o (by omega),h2,by decide,hpo _ (by omega) (by omega) (by omega) (by omega) (by omega)⟩
 ·rcases hc with rfl|rfl
  ·exact⟨hd.o (by omega),hign _ (by decide),by decide,hpo _ (by omega) (by omega) (by omega) (by omega) (by omega)⟩
  exact⟨hd.o (by omega),h2,by decide,hpo _ (by omega) (by omega) (by omega) (by omega) (by omega)⟩
 ·subst hc;exact⟨hd.o (by omega),h2,by decide,hpo _ (by omega) (by omega) (by omega) (by omega) (by omega)⟩
 ·subst hc;exact⟨hd.o (by omega),h2,by decide,hpo _ (by omega) (by omega) (by omega) (by omega) (by omega)⟩
 rcases hc with rfl|rfl
 ·exact⟨hd.o (by omega),hign _ (by decide),by decide,hpo _ (by omega) (by omega) (by omega) (by omega) (by omega)⟩
 exact⟨hd.o (by omega),h2,by decide,hpo _ (by omega) (by omega) (by omega) (by omega) (by omega)⟩
end
section
section
variable {w0 w w':World} {B b s:Nat} {cs:List Value} {dv ev:Value} {dec:List MpS} {exc:List Int}
theorem Fh.c9(h:Fh w0 w B b s cs dv dec ev exc)(hc:10<cs.length):w.cell? ⟨b,9,none⟩=some dv:=by
 rw[h.box.at_ 9 (by simp;omega)];simp[Yx];omega
theorem Fh.c10(h:Fh w0 w B b s cs dv dec ev exc)(hc:10<cs.length):w.cell? ⟨b,10,none⟩=some ev:=by
 rw[h.box.at_ 10 (by simp;omega)];simp[Yx];omega
end
theorem Zpb(w:World)(z fr:Int)(t t2:TypeId):Xs ((w.alloc (.cells #[.int .i64 z] t)).alloc (.cells #[.int .i64 fr,.slice (some ⟨w.heap.size,0,none⟩) 1 1] t2)) (w.heap.size+1) [.int .i64 fr,.slice (some ⟨w.heap.size,0,none⟩) 1 1]:=by
 have:=Xs.new (w.alloc (.cells #[.int .i64 z] t)) #[.int .i64 fr,.slice (some ⟨w.heap.size,0,none⟩) 1 1] t2
 rwa [show(w.alloc (.cells #[.int .i64 z] t)).heap.size=w.heap.size+1 by simp]at this
theorem Zyj(w:World)(z:Int)(B:Nat)(hB:B≤w.heap.size):Own Wh (w.alloc (.cells #[.int .i64 z] 3)) B (.slice (some ⟨w.heap.size,0,none⟩) 1 1) [z] :=
 ⟨rfl,.inr ⟨w.heap.size,1,_,rfl,hB,Zl8 w _,Yp _,by unfold maxLen;omega,rfl,rfl⟩⟩
theorem Ztv(w:World)(fr:Int)(A:Option Addr)(n c:Nat)(l:List Int)(t:TypeId)(g:Nat)(hg:w.heap.size=g):RdE mpE (w.alloc (.cells #[.int .i64 fr,.slice A n c] t)) (fun _=>True) (.slice (some ⟨g,0,none⟩) 1 1) [⟨⟨fr,.slice A n c,l⟩,rfl⟩]:=by
 subst hg;exact V0 w #[.int .i64 fr,.slice A n c] t 2 rfl
theorem Zsw{α:Type}{E:Enc α}{w w':World}{Z b j:Nat}{dv ev x u:Value}{L:List α}{l:List Int}{o:Obj}{A:Option Addr}{n c:Nat}(h:Xz w (fun k=>Z≤k∧dv.ownBlock≠some k∧ev.ownBlock≠some k) x l)(hg:Grew E (w.alloc o) Z ev L A n c w')(hb:b<Z) :
 Xz (w'.setCell ⟨b,j,none⟩ u) (fun k=>Z≤k∧dv.ownBlock≠some k∧(Value.slice A n c).ownBlock≠some k) x l:=by
 have h3:Xz (w.alloc o) (fun k=>(Z≤k∧dv.ownBlock≠some k∧ev.ownBlock≠some k)∧k<w.heap.size) x l:=Xz.ext (Rd.mono h fun k hk hl=>⟨hk,hl⟩) ((Yn _).alloc o);have h4:=(h3.chg hg.chg (fun k hk e=>hk.1.2.2 e)).chg ((Chg.refl (· = b) w').setCell (p:=⟨b,j,none⟩) (.inl rfl) u) (fun k hk e=>by have:=hk.1.1;omega);exact Rd.mono h4 fun k hk _=>⟨hk.1.1,hk.1.2.1,fun e=>by
  rcases hg.at_ with h1|h1
  ·exact hk.1.2.2 (h1.symm.trans e)
  rw[e]at h1;have:=hk.2;simp at h1;omega⟩
theorem Znt{w:World}{B n c g:Nat}{l:List MpS}(h:Own mpE w B (.slice (some ⟨g,0,none⟩) n c) l){j:Nat}{m:MpS}(hj:l[j]?=some m):w.cell? ⟨g,j*2,none⟩=some (.int .i64 m.1.fr)∧w.cell? ⟨g,j*2+1,none⟩=some m.1.tv:=by
 have hj2:(l.map Subtype.val)[j]?=some m.1:=by rw[Zn,hj];rfl
 obtain⟨h1,h2⟩:=Kb hj2;exact⟨h.at_ h1,h.at_ h2⟩
def Ih(w0:World)(B b s:Nat)(cs:List Value)(e:Ending)(w':World):Prop :=
 ∃ (dv:Value) (dec:List MpS) (ev:Value) (exc:List Int),e=.returned (.tuple #[])∧Fh w0 w' B b s cs dv dec ev exc∧dec.length≤5∧(dec.map fun m=>m.1.fr).Nodup∧Ee (dec.map Subtype.val) exc 5
theorem Cw(B b s:Nat)(cs:List Value)(w:World)(hc:10<cs.length)(h:Fh w w B b s cs (.slice none 0 0) [] (.slice none 0 0) []):Calls Tryz.prog 47 #[.pointer (some ⟨s,0,none⟩),.pointer (some ⟨b,0,none⟩)] w (Ih w B b s cs):=by
 have H:=Ya h;clear h;go_enter Tryz.func47,Tryz.ntmps47;go_wp2_with fail;go_loopw [4] (fun o wr=>∃ (k:Nat) (dv:Value) (dec:List MpS) (ev:Value) (exc:List Int),k≤5∧o=.int .i64 (k:Int)∧Fh w wr B b s cs dv dec ev exc∧dec.length≤k∧exc.length≤k∧(dec.map fun m=>m.1.fr).Nodup∧(∀ m∈dec,m.1.fr<7680+(k:Int))∧Ee (dec.map Subtype.val) exc k) (fun o _=>5-(intOf o).toNat);case atStart=>exact⟨0,_,[],_,[],by omega,rfl,H.o,by simp,by simp,by simp,by simp,Ee.nil⟩
 obtain⟨k,dv,dec,ev,exc,hk,rfl,hd,hl1,hl2,hnd,hfr,hdp⟩:=hrel;rename World=>wI
 have D0:=Ya hd;have Hl1:=Ya hl1;have Hl2:=Ya hl2;have Hnd:=Ya hnd;have Hfr:=Ya hfr;have Hdp:=Ya hdp;clear hd hl1 hl2 hnd hfr hdp;by_cases hk5:k<5
 ·have hd_k:decide ((k:Int)<(5:Int))=true:=Yh (by omega);have i0_k:(0:Int)≤(k:Int):=(by omega);have i1_k:(k:Int)<(5:Int):=(by omega);go_wp2_with fail;refine(Xf s 4 (by omega) (by omega) _ B D0.o.src).mono ?_;rintro e w1 ⟨v1,hv1,rfl,h1⟩;have T1:=Ya h1;clear h1;by_cases hv10:v1=0
  ·subst hv10;go_wp2_with fail;go_roundw;case rel=>exact⟨k+1,dv,dec,ev,exc,by omega,by go_num,D0.o.to T1.o,by have:=Hl1.o;omega,by have:=Hl2.o;omega,Hnd.o,fun m hm=>by have:=Hfr.o m hm;omega,Hdp.o.up⟩
   (simp[intOf];omega)
  have e1:((v1:Int)==0)=false:=by simp;omega
  have e2:(v1==0)=false:=by simp;omega
  have e3:¬ (v1:Int)=0:=by omega
  clear hv10;obtain⟨fr,hfr⟩:∃ z:Int,7680+(k:Int)=z:=⟨_,rfl⟩;have rf:IntKind.i64.wrap (7680+(k:Int))=fr:=by rw[Yr _ (by omega)];exact hfr
  go_wp2_with fail;refine(Xf s 2 (by omega) (by omega) _ B T1.o.src).mono ?_;rintro e w2 ⟨v2,hv2,rfl,h2⟩;have T2:=Ya (T1.o.trans h2);clear h2;obtain⟨z2,hz2⟩:∃ z:Int,97+(v2:Int)=z:=⟨_,rfl⟩;have rz:IntKind.i64.wrap (97+(v2:Int))=z2:=by rw[Yr _ (by omega)];exact hz2
  have Hz2:=Ya (show z2=97∨z2=98 by omega);clear hz2;have hsl:=D0.o.src.lt;have hw2:=T2.o.chg.size;have M0:=Ya (show Nl B s wI ((w2.alloc (.cells #[.int .i64 z2] 3)).alloc (.cells #[.int .i64 fr,.slice (some ⟨w2.heap.size,0,none⟩) 1 1] 106)) (w2.heap.size+1) fr (.slice (some ⟨w2.heap.size,0,none⟩) 1 1) [z2] from
   ⟨(T2.o.alloc _).alloc _,Zpb w2 z2 fr _ _,(Zyj w2 z2 _ hw2).ext ((Yn _).alloc _),by simp[Value.ownBlock],by omega,by simp,by simp,hsl⟩)
  go_upto_region 5 with fail;obtain⟨mb,hmb⟩:=gnX (w2.heap.size+1);obtain⟨tb,htb⟩:=gnX (w2.heap.size);obtain⟨W3,hW3⟩:=gnX ((w2.alloc (.cells #[.int .i64 z2] 3)).alloc (.cells #[.int .i64 fr,.slice (some ⟨w2.heap.size,0,none⟩) 1 1] 106));rw[hW3,hmb,htb]at M0;rw[hW3,hmb,htb];clear hW3 hmb htb T1 T2 hsl hw2 rf rz;go_cut [29] (fun o wx=>∃ q:Bool,o=.bool q∧(q=true→0<k)∧Nl B s wI wx mb fr (.slice (some ⟨tb,0,none⟩) 1 1) [z2]);case first =>
   by_cases hk0:0<k
   ·have d0:decide ((0:Int)<(k:Int))=true:=Yh (by omega);have d00:decide (0<k)=true:=Yh hk0;go_wp2_with fail;refine(Xf s 3 (by omega) (by omega) _ B M0.o.t.src).mono ?_;rintro e w5 ⟨v5,hv5,rfl,h5⟩;have M5:=Ya (M0.o.next h5);clear h5;obtain⟨q5,hq5⟩:=gnX (((v5:Int)==0));have hq6:(v5==0)=q5:=by rw[← hq5,Zk0];simp
    go_wp2_with fail;go_meet;exact⟨_,rfl,fun _=>hk0,M5.o⟩
   obtain rfl:k=0:=by omega
   go_wp2_with fail;go_meet;exact⟨_,rfl,(by intro h;cases h),M0.o⟩
  obtain⟨q,rfl,hq,hM⟩:=hcut;have M1:=Ya hM;clear hM M0;rename World=>w3
  go_upto_if 29 with fail;go_cut [] (fun wx=>∃ to2:List Int,to2.length=1∧Nl B s wI wx mb fr (.slice (some ⟨tb,0,none⟩) 1 1) to2∧∃ x,to2=[x]∧(x=97∨x=98∨(7680≤x∧x<fr)));case first =>
   cases q
   ·go_wp2_with fail;go_meet;exact⟨_,rfl,M1.o,z2,rfl,by have:=Hz2.o;omega⟩
   have hk0:0<k:=hq rfl;have c0:=(M1.o).box.at_ 0 (by simp);have c1:=(M1.o).box.at_ 1 (by simp);have fz:=(M1.o).box.fz;simp only[Zx,Zw]at c0 c1;have t0:=M1.o.own.at_ (ints_at (j:=0) rfl);have tf:=M1.o.own.thaw 0;go_upto_region 6 with fail;go_region_with (go_at_call 42;refine(Xf s (k:Int) (by omega) (by omega) _ B (M1.o.ext (Yn _).drew).t.src).mono ?_;rintro e w5 ⟨v5,hv5,rfl,h5⟩;have M5:=Ya ((M1.o.ext (Yn _).drew).next h5);have c1':=M5.o.box.at_ 1 (by simp);have t0':=M5.o.own.at_ (ints_at (j:=0) rfl);have tf':=M5.o.own.thaw 0;simp only[Zx,Zw]at c1';obtain⟨z5,hz5⟩:∃ z:Int,7680+(v5:Int)=z:=⟨_,rfl⟩;have rz5:IntKind.i64.wrap (7680+(v5:Int))=z5:=(by rw[Yr _ (by omega)];exact hz5);have Hz5:=Ya (show 7680≤z5∧z5<fr by omega);clear h5 hz5);all_goals
    go_wp2_with fail;go_meet;exact⟨_,rfl,M5.o.put (by simp) z5,z5,rfl,.inr (.inr Hz5.o)⟩
  obtain⟨to2,hto,hM,hx2⟩:=hcut;have Hx2:=Ya hx2;have M2:=Ya hM;clear hM M1 hq hx2;rename World=>w4
  go_wp2_with fail;refine(Xf s 8 (by omega) (by omega) _ B M2.o.t.src).mono ?_;rintro e w5 ⟨v5,hv5,rfl,h5⟩;have M3:=Ya (M2.o.next h5);clear h5 M2;go_upto_if 39 with fail;go_cut [] (fun wx=>∃ (tv:Value) (to3:List Int),Nl B s wI wx mb fr tv to3∧ToP to3 fr);case first =>
   by_cases hv0:0<v5
   ·have d1:decide ((0:Int)<(v5:Int))=true:=Yh (by omega);have c0:=(M3.o).box.at_ 0 (by simp);have c1:=(M3.o).box.at_ 1 (by simp);have fz:=(M3.o).box.fz;simp only[Zx,Zw]at c0 c1;go_upto_region 8 with fail;have L5:=fun w:World=>Wm w 3 [769,776,803,837,945] 5 rfl _ rfl (by omega)
    have c1a:(w5.alloc (.cells #[.int .i64 769,.int .i64 776,.int .i64 803,.int .i64 837,.int .i64 945] 3)).cell? ⟨mb,1,none⟩=some (.slice (some ⟨tb,0,none⟩) 1 1):=by
     have:=(M3.o.box.ext ((Yn _).alloc (.cells #[.int .i64 769,.int .i64 776,.int .i64 803,.int .i64 837,.int .i64 945] 3))).at_ 1 (by simp);simpa using this
    have hsl:=M3.o.t.src.lt;go_region_law (first
     | ((refine Vm Wh (.tmp 41) (.tmp 47) 22 (by rfl) (by rfl) (by rfl) (by rfl) (M6.o.own.ext ((Yn _).alloc _)) (by rfl) (Wr w6 z6 _ _ rfl) (by rw[hto];show 1+1≤_;omega) (by show 8≤1000;omega) (by have:=M6.o.t.chg.size;simp;omega) ?_);intro A8 n8 c8 w8 hg8;have M8:=Ya (M6.o.grow hto hg8);have cm8:=Ya ((M6.o.box.ext ((Yn _).alloc (.cells #[.int .i64 z6] 3))).chg hg8.chg (fun e=>M6.o.ne e));have c8':=cm8.o.at_ 1 (by simp);have f8:=cm8.o.fz;simp only[Zx,Zw]at c8';clear hg8)
     | (go_simp;go_at_call 42;refine(Xf s 5 (by omega) (by omega) _ B ((M3.o.ext (Yn _).drew).ext ((Yn _).alloc (.cells #[.int .i64 769,.int .i64 776,.int .i64 803,.int .i64 837,.int .i64 945] 3))).t.src).mono ?_;rintro e w6 ⟨v6,hv6,rfl,h6⟩;have M6:=Ya (((M3.o.ext (Yn _).drew).ext ((Yn _).alloc (.cells #[.int .i64 769,.int .i64 776,.int .i64 803,.int .i64 837,.int .i64 945] 3))).next h6);have L6:RdE Wh w6 (fun k=>w5.heap.size≤k) (.slice (some ⟨w5.heap.size,0,none⟩) 5 5) [769,776,803,837,945]:=Rd.chg (L5 w5.drew) h6.chg (fun k hk e=>by have:w5.heap.size≤k:=hk;omega);obtain⟨z6,hz6⟩:∃ z,([769,776,803,837,945]:List Int)[v6]?=some z:=⟨_,Zz (by simp;omega)⟩;obtain⟨g6,o6,cc6,hvv6,_,_,_,hg6,cz6⟩:=Xz.get L6 hz6;(simp only[Yg,Yf,Zld,Zl2,Zks]at hvv6);obtain⟨⟨rfl,rfl⟩,-,rfl⟩:=hvv6;rw[Zl0]at cz6;have k0:(0:Int)≤(v6:Int):=(by omega);have k1:v6<5:=(by omega);have c6':=M6.o.box.at_ 1 (by simp);(simp only[Zx,Zw]at c6');have c6'':=(M6.o.box.ext ((Yn _).alloc (.cells #[.int .i64 z6] 3))).at_ 1 (by simp);(simp only[Zx,Zw]at c6'');have Hz6:=Ya (Zy hz6);clear hz6 L6 h6)
     | (go_simp;go_at_call 42;refine(Xf s 5 (by omega) (by omega) _ B (M3.o.ext (Yn _).drew).t.src).mono ?_;rintro e wN ⟨v6,hv6,rfl,h6⟩;have MN:=Ya (((M3.o.ext (Yn _).drew).next h6).ext ((Yn _).alloc (.cells #[.int .i64 769,.int .i64 776,.int .i64 803,.int .i64 837,.int .i64 945] 3)));have hwN:wI.heap.size≤wN.heap.size:=((M3.o.ext (Yn _).drew).next h6).t.chg.size;have L6:=L5 wN;obtain⟨z6,hz6⟩:∃ z,([769,776,803,837,945]:List Int)[v6]?=some z:=⟨_,Zz (by simp;omega)⟩;obtain⟨g6,o6,cc6,hvv6,_,_,_,hg6,cz6⟩:=Xz.get L6 hz6;(simp only[Yg,Yf,Zld,Zl2,Zks]at hvv6);obtain⟨⟨rfl,rfl⟩,-,rfl⟩:=hvv6;rw[Zl0]at cz6;have hlv:∀ h,([.int .i64 769,.int .i64 776,.int .i64 803,.int .i64 837,.int .i64 945]:List Value)[v6]'h=Value.int .i64 z6:=(fun h=>Zlc ((Zz h).symm.trans (show(([769,776,803,837,945]:List Int).map (Value.int .i64))[v6]?=some (.int .i64 z6) by rw[Zn,hz6];rfl)));have k0:(0:Int)≤(v6:Int):=(by omega);have k1:v6<5:=(by omega);have c6':=((M3.o.ext (Yn _).drew).next h6).box.at_ 1 (by simp);(simp only[Zx,Zw]at c6');have c6'':=MN.o.box.at_ 1 (by simp);(simp only[Zx,Zw]at c6'');have c6''':=(MN.o.box.ext ((Yn _).alloc (.cells #[.int .i64 z6] 3))).at_ 1 (by simp);(simp only[Zx,Zw]at c6''');have Hz6:=Ya (Zy hz6);clear hz6 L6 h6)
     | ((refine Vm Wh (.tmp 41) (.tmp 47) 22 (by rfl) (by rfl) (by rfl) (by rfl) (MN.o.own.ext ((Yn _).alloc _)) (by rfl) (Wr (wN.alloc (.cells #[.int .i64 769,.int .i64 776,.int .i64 803,.int .i64 837,.int .i64 945] 3)) z6 _ (wN.heap.size+1) (by simp)) (by rw[hto];show 1+1≤_;omega) (by show 8≤1000;omega) (by simp;omega) ?_);intro A8 n8 c8 w8 hg8;have M8:=Ya (MN.o.grow hto hg8);have cm8:=Ya ((MN.o.box.ext ((Yn _).alloc (.cells #[.int .i64 z6] 3))).chg hg8.chg (fun e=>MN.o.ne e));have c8':=cm8.o.at_ 1 (by simp);have f8:=cm8.o.fz;simp only[Zx,Zw]at c8';clear hg8))
    all_goals
     go_wp2_with fail;go_meet;exact⟨_,_,M8.o,ToP.two Hx2.o Hz6.o⟩
   have d1:decide ((0:Int)<(v5:Int))=false:=Yi (by omega);go_wp2_with fail;go_meet;exact⟨_,_,M3.o,ToP.one_ Hx2.o⟩
  obtain⟨tv,to3,hM,htp⟩:=hcut;have M4:=Ya hM;have Htp:=Ya htp;clear hM M3 htp;rename World=>w6
  go_wp2_with fail;refine(Xf s 6 (by omega) (by omega) _ B M4.o.t.src).mono ?_;rintro e w7 ⟨v7,hv7,rfl,h7⟩;have M5:=Ya (M4.o.next h7);clear h7 M4;obtain⟨q7,hq7⟩:=gnX (((v7:Int)==0));have hq8:(v7==0)=q7:=by rw[← hq7,Zk0];simp
  have D1:=Ya (D0.o.to M5.o.t);have c9:=D1.o.c9 hc;obtain⟨A9,C9,rfl,hlC9,hC9⟩:=D1.o.dOwn.shape;obtain⟨n9,hn9⟩:=gnX (dec.length);rw[hn9]at c9 D1 hlC9;have Hn9:=Ya hn9;clear hn9;have Hto:=Ya (show Xz w7 (fun q=>wI.heap.size≤q) tv to3 from M5.o.own.rd);obtain⟨At,Ct,rfl,hlt3,hct3⟩:=M5.o.own.shape;obtain⟨nt,hnt⟩:=gnX (to3.length);rw[hnt]at M5 hlt3 Hto;have Hnt:=Ya hnt;have Htl:=Ya (show to3.length≤2 from M5.o.l2);unfold maxLen at hC9 hct3;have c0:=(M5.o).box.at_ 0 (by simp);have c1:=(M5.o).box.at_ 1 (by simp);have fz:=(M5.o).box.fz;simp only[Zx,Zw]at c0 c1;clear hnt;go_wp2_with fail;go_loopw [58,6] (fun o t wx=>∃ (j:Nat) (q:Bool),j≤n9∧o=.int .i64 (j:Int)∧t=.bool q∧Ext w7 wx∧(q=false→∀ m∈dec.take j,m.1.to_≠to3)) (fun o _ _=>n9-(intOf o).toNat);case atStart=>exact⟨0,_,by omega,rfl,rfl,Yn _,fun _=>by simp⟩
  rename World=>wj
  obtain⟨j,q,hj,rfl,rfl,hxj,htw⟩:=hrel;have Xj:=Ya hxj;have Htw:=Ya htw;clear hxj htw c0 c1 c9 fz;by_cases hjn:j<n9
  ·obtain⟨hd_j,i0_j,i1_j⟩:=LTl j n9 (by omega);obtain⟨m,hm⟩:=geX (l:=dec) (i:=j) (by rw[Hn9.o];exact hjn);have hown:=D1.o.dOwn.ext Xj.o;obtain⟨g9,c9',hv9,hb9,hg9,_,_⟩:=hown.some_ (by rw[Hn9.o];omega);rw[Hn9.o]at hv9;simp only[Yg,Zl2]at hv9;obtain⟨rfl,rfl⟩:=hv9;obtain⟨p0,p1⟩:=Znt hown hm;have hti:=((D1.o.tos m (Zy hm)).1).ext Xj.o
   obtain⟨Am,Cm,htv,hlm,hcm⟩:=hti.shape;rw[htv]at p1 hti;obtain⟨nm,hnm⟩:=gnX (m.1.to_.length);rw[hnm]at p1 hti;have Hti:=Ya hti;have cm1:=(M5.o.box.ext (Xj.o.alloc (.cells #[.int .i64 m.1.fr,.slice Am nm Cm] 106))).at_ 1 (by simp);simp only[Zx,Zw]at cm1;have hlt7:=M5.o.box.lt;have hxs:=Xj.o.size;have Hmj:=Ya hm;clear hown hm htv hnm hti;cases q with
   | true =>
    go_wp2_with fail;go_roundw;case rel=>exact⟨j+1,_,by omega,by go_num,rfl,Xj.o.alloc _,fun h=>by cases h⟩
    (simp[intOf];omega)
   | false =>
    go_wp2_with (go_at_call 26;refine(Zss _ _ m.1.to_ to3 _ (Hti.o.ext ((Yn _).alloc _)) (Hto.o.ext (Xj.o.alloc _))).mono ?_;rintro e w8 ⟨rfl,hx8⟩;obtain⟨r8,hr8⟩:=gnX (decide (m.1.to_=to3));have Hr8:=Ya hr8;rw[hr8];clear hr8;have X8:=Ya ((Xj.o.alloc _).trans hx8);clear hx8);go_roundw;case rel=>exact⟨j+1,_,by omega,by go_num,rfl,X8.o,fun h=>Zn9 Hmj.o (by first|exact Htw.o rfl|exact Htw.o trivial) Hr8.o (by simpa using h)⟩
    (simp[intOf];omega)
  have hd_j:=GEl j n9 (by omega);have Hall:=Ya (show q=false→∀ x∈dec.map Subtype.val,x.to_≠to3 from fun h x hx=>by
   obtain⟨y,hy,rfl⟩:=Zl3.1 hx;exact Htw.o h y (by rw[Zm (by rw[Hn9.o];omega)];exact hy))
  have D2:=Ya (D1.o.ext Xj.o);have M6:=Ya (M5.o.ext Xj.o);have hIsz:=D0.o.dOwn.lt;have hEsz:=D0.o.eOwn.lt;have hZ:=D0.o.chg.size;have Hrow:=Ya (show Xz wj (fun q=>w.heap.size≤q∧(Value.slice A9 n9 C9).ownBlock≠some q∧ev.ownBlock≠some q) (.slice At nt Ct) to3 from Rd.mono (Hto.o.ext Xj.o) fun q hq _=>⟨by omega,fun e=>by have:=(hIsz q (by rw[Hn9.o];exact e)).2;omega,fun e=>by have:=(hEsz q e).2;omega⟩);clear hIsz hEsz hZ D1 M5 Hto;go_upto_if 71 with fail;go_cut [] (fun wx=>∃ (ev2:Value) (exc2:List Int),Fh w wx B b s cs (.slice A9 n9 C9) dec ev2 exc2∧exc2.length≤k+1∧Xs wx mb [.int .i64 fr,.slice At nt Ct]∧Xz wx (fun q=>w.heap.size≤q∧(Value.slice A9 n9 C9).ownBlock≠some q∧ev2.ownBlock≠some q) (.slice At nt Ct) to3∧exc2=if q then exc++[fr]else exc);case first =>
   cases q
   ·go_wp2_with fail;go_meet;exact⟨_,_,D2.o,by have:=Hl2.o;omega,M6.o.box,Hrow.o,rfl⟩
   go_upto_region 16 with fail;have c10:=D2.o.c10 hc;obtain⟨A10,C10,rfl,hlC10,hC10⟩:=D2.o.eOwn.shape;obtain⟨n10,hn10⟩:=gnX (exc.length);rw[hn10]at c10 D2 Hrow hlC10;have Hn10:=Ya hn10;have hn5:n10≤5:=by have:=Hl2.o;omega
   clear hn10;have c0:=(M6.o).box.at_ 0 (by simp);have c1:=(M6.o).box.at_ 1 (by simp);have fz:=(M6.o).box.fz;simp only[Zx,Zw]at c0 c1;have c10a:(wj.alloc (.cells #[.int .i64 fr] 3)).cell? ⟨b,10,none⟩=some (.slice A10 n10 C10):=(D2.o.ext ((Yn _).alloc _)).c10 hc;go_region_law (first
    | ((refine Vm Wh (.tmp 76) (.tmp 79) 22 (by rfl) (by rfl) (by rfl) (by rfl) (D2.o.eOwn.ext ((Yn _).drew.alloc _)) (by rfl) (Wr wj.drew fr _ _ rfl) (by rw[Hn10.o];show n10+1≤_;omega) (by show 8≤1000;omega) (by have:=D2.o.chg.size;simp;omega) ?_);intro A8 n8 c8 w8 hg8;have D8:=Ya ((D2.o.ext (Yn _).drew).growE hc hg8);have c8':w8.cell? ⟨b,10,none⟩=some (.slice A10 n10 C10):=((((D2.o.ext (Yn _).drew).ext ((Yn _).alloc _)).box.chg hg8.chg (fun e=>by have:=(D2.o.eOwn.lt b e).1;have:=D2.o.bl;omega)).at_ 10 (by simp;omega)).trans (by simp[Yx];omega);have f8:=((((D2.o.ext (Yn _).drew).ext ((Yn _).alloc _)).box.chg hg8.chg (fun e=>by have:=(D2.o.eOwn.lt b e).1;have:=D2.o.bl;omega)).fz);have N8:=Ya hg8.len;have G8:=Ya hg8;clear hg8))
   all_goals
    go_wp2_with fail;go_meet;refine⟨_,_,D8.o,by rw[Zs,Hn10.o];show n10+1≤k+1;have:=Hl2.o;have:=Hn10.o;omega,?_,Zsw (Hrow.o.ext (Yn _).drew) G8.o D2.o.bl,rfl⟩;exact(((M6.o.box.ext (Yn _).drew).ext ((Yn _).alloc _)).chg G8.o.chg (fun e=>by have:=(D0.o.eOwn.lt mb (by rw[Hn10.o];exact e)).2;have:=M6.o.lo;omega)).far (by have:=D2.o.bl;have:=D0.o.chg.size;have:=M6.o.lo;omega) _
  obtain⟨ev2,exc2,hD,hl2,hbx,hrw,hex⟩:=hcut;have Hex:=Ya hex;rename World=>wk
  have D3:=Ya hD;have Hl3:=Ya hl2;have Hbx:=Ya hbx;have Hrw:=Ya hrw;clear hD hl2 hbx hrw hex;have c9:=D3.o.c9 hc;have c9a:(wk.alloc (.cells #[.int .i64 fr,.slice At nt Ct] 106)).cell? ⟨b,9,none⟩=some (.slice A9 n9 C9):=(D3.o.ext ((Yn _).alloc _)).c9 hc;have c0:=Hbx.o.at_ 0 (by simp);have c1:=Hbx.o.at_ 1 (by simp);simp only[Zx,Zw]at c0 c1;have hn5:n9≤5:=by have:=Hl1.o;have:=Hn9.o;omega
  go_upto_region 17 with fail;go_region_law (first
   | ((refine Vm mpE (.tmp 87) (.tmp 89) 32 (by rfl) (by rfl) (by rfl) (by rfl) (D3.o.dOwn.ext ((Yn _).drew.alloc _)) (by rfl) (Ztv wk.drew fr At nt Ct to3 _ _ rfl) (by rw[Hn9.o];show n9+1≤_;omega) (by show 32≤1000;omega) (by have:=D3.o.chg.size;simp;omega) ?_);intro A8 n8 c8 w8 hg8;have D8:=Ya ((D3.o.ext (Yn _).drew).growD hc (Hrw.o.ext (Yn _).drew) Htl.o hg8);have c8':w8.cell? ⟨b,9,none⟩=some (.slice A9 n9 C9):=((((D3.o.ext (Yn _).drew).ext ((Yn _).alloc _)).box.chg hg8.chg (fun e=>by have:=(D3.o.dOwn.lt b e).1;have:=D3.o.bl;omega)).at_ 9 (by simp;omega)).trans (by simp[Yx];omega);have f8:=((((D3.o.ext (Yn _).drew).ext ((Yn _).alloc _)).box.chg hg8.chg (fun e=>by have:=(D3.o.dOwn.lt b e).1;have:=D3.o.bl;omega)).fz);clear hg8))
  all_goals
   go_wp2_with fail;go_roundw;case rel =>
    refine⟨k+1,_,_,_,_,by omega,by go_num,D8.o,by rw[Zs,Hn9.o];show n9+1≤k+1;have:=Hl1.o;have:=Hn9.o;omega,Hl3.o,?_,?_,?_⟩
    ·rw[Z9,List.nodup_append];refine⟨Hnd.o,by simp,fun x hx y hy e=>?_⟩;obtain⟨m,hm,rfl⟩:=Zl3.1 hx;have:=Hfr.o m hm;have hy2:y=fr:=by simpa using hy
     omega
    ·intro m hm;rcases Zj.1 hm with hm|hm
     ·have:=Hfr.o m hm;omega
     rw[Zi.1 hm];show fr<_;omega
    rw[Z9];exact Hdp.o.more (m:=⟨fr,.slice At nt Ct,to3⟩) hfr.symm Htp.o Hall.o Hex.o
   (simp[intOf];omega)
 have hd_k:decide ((k:Int)<(5:Int))=false:=Yi (by omega);go_wp2_with fail;refine Yu (v:=.tuple #[]) (by simp[results,Tryz.results47,go_sem]) rfl ⟨dv,dec,ev,exc,rfl,D0.o,by have:=Hl1.o;omega,Hnd.o,by have:=Hdp.o;rwa [show k=5 by omega]at this⟩
end
end Go.Proofs.YtnbclgbicnpmnaaGreat
