/- Lemmas of this claim: RA, RB, RRp, RM. Conditions: as named. -/
import Derived.Deep.RegionHeld3
import Derived.Laws.BitsAllLaws
import Derived.Laws.DeepNot64
import Derived.Laws.IdiomCopy
import Derived.WalkSmall
import Derived.Test.YtnbclgbicnpmnaaGreatA02
namespace Go.Proofs.YtnbclgbicnpmnaaGreat
open Go.RowKit Go.Sort
set_option maxHeartbeats 0
set_option maxRecDepth 100000
set_option linter.all false
section
def Xy(w:World)(S:Nat→Prop)(v:Value)(l:List Int):Prop:=Rd w S 1 v l.length (l.map (Value.int .i64))
section
variable {w w':World} {S T:Nat→Prop} {v:Value} {l:List Int}
theorem Xy.ext(h:Xy w S v l)(x:Ext w w'):Xy w' S v l:=Rd.ext h x
theorem Xy.chg(h:Xy w S v l)(c:Chg T w w')(hd:∀ k,S k→¬ T k):Xy w' S v l:=Rd.chg h c hd
theorem Xy.shape(h:Xy w S v l):∃ A c,v=.slice A l.length c∧l.length≤c∧c≤maxLen:=by
 obtain⟨_,A,c,h,h1,h2,_⟩:=h;exact⟨A,c,h,h1,h2⟩
theorem Xy.get(h:Xy w S v l){j:Nat}{x:Int}(hj:l[j]?=some x) :
 ∃ g o c,v=.slice (some ⟨g,o,none⟩) l.length c∧l.length≤c∧c≤maxLen∧S g∧g<w.heap.size∧w.cell? ⟨g,o+j,none⟩=some (.int .i64 x):=by
 obtain⟨g,o,c,h1,h2,h3,h4,h5,h6⟩:=Rd.at_ h (Zr.1 hj).1;exact⟨g,o,c,h1,h2,h3,h4,h5,h6 j _ (by rw[Zn,hj];rfl)⟩
theorem Xy.nil(w:World)(S:Nat→Prop):Xy w S (.slice none 0 0) []:=Rd.nil w S 1
end
structure Sp where
 fr:Int
 to_:Int
 val:Int
def Mx(s:Sp):List Value:=[.int .i64 s.fr,.int .i64 s.to_,.int .i64 s.val]
def Vz:List Sp→List Value
 | []=>[]
 | s::r=>Mx s++Vz r
theorem Db:∀ l:List Sp,(Vz l).length=l.length*3
 | []=>rfl
 | n::r=>by rw[Vz,Zs,Db r];simp[Mx];omega
theorem Uh:∀ a b:List Sp,Vz (a++b)=Vz a++Vz b
 | [],_=>rfl
 | n::r,b=>by simp[Vz,Uh r b]
theorem Mv:∀ {l:List Sp} {j:Nat} {s:Sp},l[j]?=some s→(Vz l)[j*3]?=some (.int .i64 s.fr)∧(Vz l)[j*3+1]?=some (.int .i64 s.to_)∧(Vz l)[j*3+2]?=some (.int .i64 s.val)
 | m::r,0,n,h=>by
  simp only[Zx,Yf]at h;subst h;simp[Vz,Mx]
 | m::r,j+1,n,h=>by
  obtain⟨h1,h2,h3⟩:=Mv (l:=r) (j:=j) (s:=n) (by simpa using h);have hm:(Mx m).length=3:=rfl;have e:∀ k,(Vz (m::r))[(j+1)*3+k]?=(Vz r)[j*3+k]?:=fun k=>by
   rw[Vz,Zd (by omega),hm];congr 1;omega
  refine⟨?_,?_,?_⟩
  ·have:=e 0;simp only[Zkt]at this;rw[this,h1]
  ·rw[e 1,h2]
  rw[e 2,h3]
def Vu(w:World)(S:Nat→Prop)(v:Value)(l:List Sp):Prop:=Rd w S 3 v l.length (Vz l)
section
variable {w w':World} {S T:Nat→Prop} {v:Value} {l:List Sp}
theorem Vu.ext(h:Vu w S v l)(x:Ext w w'):Vu w' S v l:=Rd.ext h x
theorem Vu.chg(h:Vu w S v l)(c:Chg T w w')(hd:∀ k,S k→¬ T k):Vu w' S v l:=Rd.chg h c hd
theorem Vu.shape(h:Vu w S v l):∃ A c,v=.slice A l.length c∧l.length≤c∧c≤maxLen:=by
 obtain⟨_,A,c,h,h1,h2,_⟩:=h;exact⟨A,c,h,h1,h2⟩
theorem Vu.get(h:Vu w S v l){j:Nat}{s:Sp}(hj:l[j]?=some s) :
 ∃ g o c,v=.slice (some ⟨g,o,none⟩) l.length c∧l.length≤c∧c≤maxLen∧S g∧g<w.heap.size∧w.cell? ⟨g,o+j*3,none⟩=some (.int .i64 s.fr)∧w.cell? ⟨g,o+j*3+1,none⟩=some (.int .i64 s.to_)∧w.cell? ⟨g,o+j*3+2,none⟩=some (.int .i64 s.val):=by
 obtain⟨g,o,c,h1,h2,h3,h4,h5,h6⟩:=Rd.at_ h (Zr.1 hj).1;obtain⟨q1,q2,q3⟩:=Mv hj;exact⟨g,o,c,h1,h2,h3,h4,h5,h6 _ _ q1,by rw[Zki];exact h6 _ _ q2,by rw[Zki];exact h6 _ _ q3⟩
end
structure Mp where
 fr:Int
 tv:Value
 to_:List Int
def Lr(s:Mp):List Value:=[.int .i64 s.fr,s.tv]
def Wa:List Mp→List Value
 | []=>[]
 | s::r=>Lr s++Wa r
theorem Dl:∀ l:List Mp,(Wa l).length=l.length*2
 | []=>rfl
 | n::r=>by rw[Wa,Zs,Dl r];simp[Lr];omega
theorem Up:∀ a b:List Mp,Wa (a++b)=Wa a++Wa b
 | [],_=>rfl
 | n::r,b=>by simp[Wa,Up r b]
theorem Kh:∀ {l:List Mp} {j:Nat} {s:Mp},l[j]?=some s→(Wa l)[j*2]?=some (.int .i64 s.fr)∧(Wa l)[j*2+1]?=some s.tv
 | m::r,0,n,h=>by
  simp only[Zx,Yf]at h;subst h;simp[Wa,Lr]
 | m::r,j+1,n,h=>by
  obtain⟨h1,h2⟩:=Kh (l:=r) (j:=j) (s:=n) (by simpa using h);have hm:(Lr m).length=2:=rfl;have e:∀ k,(Wa (m::r))[(j+1)*2+k]?=(Wa r)[j*2+k]?:=fun k=>by
   rw[Wa,Zd (by omega),hm];congr 1;omega
  refine⟨?_,?_⟩
  ·have:=e 0;simp only[Zkt]at this;rw[this,h1]
  rw[e 1,h2]
def K2(w:World)(S:Nat→Prop)(v:Value)(l:List Mp):Prop:=Rd w S 2 v l.length (Wa l)∧∀ m∈l,Xy w S m.tv m.to_
section
variable {w w':World} {S T:Nat→Prop} {v:Value} {l:List Mp}
theorem K2.ext(h:K2 w S v l)(x:Ext w w'):K2 w' S v l:=⟨Rd.ext h.1 x,fun m hm=>(h.2 m hm).ext x⟩
theorem K2.chg(h:K2 w S v l)(c:Chg T w w')(hd:∀ k,S k→¬ T k):K2 w' S v l:=⟨Rd.chg h.1 c hd,fun m hm=>(h.2 m hm).chg c hd⟩
theorem K2.shape(h:K2 w S v l):∃ A c,v=.slice A l.length c∧l.length≤c∧c≤maxLen:=by
 obtain⟨⟨_,A,c,h,h1,h2,_⟩,_⟩:=h;exact⟨A,c,h,h1,h2⟩
theorem K2.get(h:K2 w S v l){j:Nat}{s:Mp}(hj:l[j]?=some s) :
 ∃ g o c,v=.slice (some ⟨g,o,none⟩) l.length c∧l.length≤c∧c≤maxLen∧S g∧g<w.heap.size∧w.cell? ⟨g,o+j*2,none⟩=some (.int .i64 s.fr)∧w.cell? ⟨g,o+j*2+1,none⟩=some s.tv∧Xy w S s.tv s.to_:=by
 obtain⟨g,o,c,h1,h2,h3,h4,h5,h6⟩:=Rd.at_ h.1 (Zr.1 hj).1;obtain⟨q1,q2⟩:=Kh hj;exact⟨g,o,c,h1,h2,h3,h4,h5,h6 _ _ q1,by rw[Zki];exact h6 _ _ q2,h.2 s (Zy hj)⟩
end
structure Tbl where
 catV:Value
 clsV:Value
 joiV:Value
 bidV:Value
 scrV:Value
 staV:Value
 ignV:Value
 extV:Value
 mapV:Value
 decV:Value
 excV:Value
 proV:Value
 cat:List Sp
 cls:List Sp
 joi:List Sp
 bid:List Sp
 scr:List Sp
 sta:List Sp
 ign:List Sp
 ext:List Mp
 map:List Mp
 dec:List Mp
 exc:List Int
 pro:List Mp
def Vt(t:Tbl):Value:=.agg #[t.catV,t.clsV,t.joiV,t.bidV,t.scrV,t.staV,t.ignV,t.extV,t.mapV,t.decV,t.excV,t.proV]
structure Xn(w:World)(S:Nat→Prop)(t:Tbl):Prop where
 cat:Vu w S t.catV t.cat
 cls:Vu w S t.clsV t.cls
 joi:Vu w S t.joiV t.joi
 bid:Vu w S t.bidV t.bid
 scr:Vu w S t.scrV t.scr
 sta:Vu w S t.staV t.sta
 ign:Vu w S t.ignV t.ign
 ext:K2 w S t.extV t.ext
 map:K2 w S t.mapV t.map
 dec:K2 w S t.decV t.dec
 exc:Xy w S t.excV t.exc
 pro:K2 w S t.proV t.pro
theorem Xn.up{w w':World}{S:Nat→Prop}{t:Tbl}(h:Xn w S t)(x:Ext w w'):Xn w' S t :=
 ⟨h.cat.ext x,h.cls.ext x,h.joi.ext x,h.bid.ext x,h.scr.ext x,h.sta.ext x,h.ign.ext x,h.ext.ext x,h.map.ext x,h.dec.ext x,h.exc.ext x,h.pro.ext x⟩
theorem Xn.chg{w w':World}{S T:Nat→Prop}{t:Tbl}(h:Xn w S t)(c:Chg T w w')(hd:∀ k,S k→¬ T k):Xn w' S t :=
 ⟨h.cat.chg c hd,h.cls.chg c hd,h.joi.chg c hd,h.bid.chg c hd,h.scr.chg c hd,h.sta.chg c hd,h.ign.chg c hd,h.ext.chg c hd,h.map.chg c hd,h.dec.chg c hd,h.exc.chg c hd,h.pro.chg c hd⟩
def Wp:List Sp→Int→Int
 | [],_=>0
 | s::r,c=>if s.fr≤c∧c≤s.to_ then s.val else Wp r c
theorem drop_at{α:Type}{l:List α}{i:Nat}{x:α}(h:l[i]?=some x):l.drop i=x::l.drop (i+1):=by
 obtain⟨h1,h2⟩:=Zr.1 h;rw[Zjw h1,h2]
theorem V5{S:Nat→Prop}(v:Value)(l:List Sp)(c:Int)(w:World)(h:Vu w S v l) :
 Calls Tryz.prog 125 #[v,.int .i64 c] w fun e w'=>e=.returned (.int .i64 (Wp l c))∧Ext w w':=by
 obtain⟨A,C,rfl,hlC,hC⟩:=h.shape;obtain⟨n,hn⟩:=gnX (l.length);have Hn:=Ya hn;have H:=Ya h;unfold maxLen at hC;rw[hn]at hlC⊢;clear h hn;go_enter Tryz.func125,Tryz.ntmps125;go_wp2_with fail;go_loopw [9] (fun o wr=>∃ i:Nat,i≤n∧o=.int .i64 (i:Int)∧Wp l c=Wp (l.drop i) c∧Ext w wr) (fun o _=>n-(intOf o).toNat);case atStart=>exact⟨0,by omega,rfl,rfl,Yn _⟩
 obtain⟨i,hi,rfl,hv,hx⟩:=hrel;have Hv:=Ya hv;have Hx:=Ya hx;clear hv hx;by_cases hlt:i<n
 ·have hd:decide ((i:Int)<(n:Int))=true:=by simpa using hlt
  obtain⟨s,hs⟩:=geX (l:=l) (i:=i) (by rw[Hn.o];exact hlt);obtain⟨g,o,c',hvv,_,_,_,_,c0,c1,c2⟩:=(H.o.ext Hx.o).get hs;simp only[Yg]at hvv;obtain⟨rfl,_,rfl⟩:=hvv;have i0:(0:Int)≤(i:Int):=by omega
  have i1:(i:Int)<(n:Int):=by omega
  have Hs:=Ya hs;clear hs;cases h1:decide (s.fr≤c)<;>cases h2:decide (c≤s.to_)
  case true.true =>
   go_wp2_with fail;go_ret;refine⟨?_,Hx.o.alloc _⟩;rw[Hv.o,drop_at Hs.o,Wp,Zlm ⟨by simpa using h1,by simpa using h2⟩];rfl
  all_goals
   have Hno:=Ya (show Wp l c=Wp (l.drop (i+1)) c by
    rw[Hv.o,drop_at Hs.o,Wp,Zlq];simp at h1 h2;omega)
   go_wp2_with fail;go_roundw;case rel=>exact⟨i+1,by omega,by go_num,Hno.o,Hx.o.alloc _⟩
   simp[intOf];omega
 have hd:decide ((i:Int)<(n:Int))=false:=by simp;omega
 have Hend:=Ya (show Wp l c=0 by rw[Hv.o,Zkk (by rw[Hn.o];omega)];rfl);go_wp2_with fail;go_ret;exact⟨by rw[Hend.o];rfl,Hx.o⟩
def Ee:List Mp→Int→Value
 | [],_=>.slice none 0 0
 | s::r,c=>if s.fr=c then s.tv else Ee r c
def Xg:List Mp→Int→List Int
 | [],_=>[]
 | s::r,c=>if s.fr=c then s.to_ else Xg r c
theorem Qt{w:World}{S:Nat→Prop}:∀ {l:List Mp} {c:Int},(∀ m∈l,Xy w S m.tv m.to_)→Xy w S (Ee l c) (Xg l c)
 | [],_,_=>Xy.nil w S
 | s::r,c,h=>by
  unfold Ee Xg;by_cases hc:s.fr=c
  ·rw[Zlm hc,Zlm hc];exact h s (by simp)
  rw[Zlq hc,Zlq hc];exact Qt fun m hm=>h m (by simp[hm])
theorem Xc{S:Nat→Prop}(v:Value)(l:List Mp)(c:Int)(w:World)(h:K2 w S v l) :
 Calls Tryz.prog 111 #[v,.int .i64 c] w fun e w'=>e=.returned (Ee l c)∧Ext w w':=by
 obtain⟨A,C,rfl,hlC,hC⟩:=h.shape;obtain⟨n,hn⟩:=gnX (l.length);have Hn:=Ya hn;have H:=Ya h;unfold maxLen at hC;rw[hn]at hlC⊢;clear h hn;go_enter Tryz.func111,Tryz.ntmps111;go_wp2_with fail;go_loopw [9] (fun o wr=>∃ i:Nat,i≤n∧o=.int .i64 (i:Int)∧Ee l c=Ee (l.drop i) c∧Ext w wr) (fun o _=>n-(intOf o).toNat);case atStart=>exact⟨0,by omega,rfl,rfl,Yn _⟩
 obtain⟨i,hi,rfl,hv,hx⟩:=hrel;have Hv:=Ya hv;have Hx:=Ya hx;clear hv hx;by_cases hlt:i<n
 ·have hd:decide ((i:Int)<(n:Int))=true:=by simpa using hlt
  obtain⟨s,hs⟩:=geX (l:=l) (i:=i) (by rw[Hn.o];exact hlt);obtain⟨g,o,c',hvv,_,_,_,_,c0,c1,hti⟩:=(H.o.ext Hx.o).get hs;simp only[Yg]at hvv;obtain⟨rfl,_,rfl⟩:=hvv;obtain⟨tA,tC,htv,_,_⟩:=hti.shape;rw[htv]at c1;have i0:(0:Int)≤(i:Int):=by omega
  have i1:(i:Int)<(n:Int):=by omega
  have Hs:=Ya hs;have Htv:=Ya htv;clear hs hti htv;cases h1:(s.fr==c)
  case true =>
   go_wp2_with fail;go_ret;refine⟨?_,Hx.o.alloc _⟩;rw[Hv.o,drop_at Hs.o,Ee,Zlm (by simpa using h1),Htv.o];rfl
  case false =>
   have Hno:=Ya (show Ee l c=Ee (l.drop (i+1)) c by
    rw[Hv.o,drop_at Hs.o,Ee,Zlq (by simpa using h1)])
   go_wp2_with fail;go_roundw;case rel=>exact⟨i+1,by omega,by go_num,Hno.o,Hx.o.alloc _⟩
   simp[intOf];omega
 have hd:decide ((i:Int)<(n:Int))=false:=by simp;omega
 have Hend:=Ya (show Ee l c=.slice none 0 0 by rw[Hv.o,Zkk (by rw[Hn.o];omega)];rfl);go_wp2_with fail;go_ret;exact⟨by rw[Hend.o];rfl,Hx.o⟩
end
theorem Pc{a b:Int}(h:a=b):Ending.returned (.int .i64 a)=.returned (.int .i64 b):=by rw[h]
def Bu(c:Int):Bool:=decide (44032≤c)&&decide (c≤55203)
def Zpi(c:Int):Bool:=(decide (97≤c)&&decide (c≤122))||(decide (48≤c)&&decide (c≤57))||c==45
def Ix(c:Int):Bool:=(decide (4352≤c)&&decide (c≤4370))||(decide (4449≤c)&&decide (c≤4469))||(decide (4520≤c)&&decide (c≤4546))
def Zyg(c:Int):Bool:=decide (0≤c)&&decide (c≤1114111)&&(decide (c<55296)||decide (57343<c))
theorem Jv(c:Int)(w:World):Calls Tryz.prog 113 #[.int .i64 c] w fun e w'=>e=.returned (.bool (Bu c))∧w=w':=by
 go_enter Tryz.func113,Tryz.ntmps113;go_wp2_with fail;all_goals
  go_ret;refine⟨Q2 ?_,rfl⟩;rw[Zkj];simp[Bu];try omega
theorem Ge(c:Int)(w:World):Calls Tryz.prog 142 #[.int .i64 c] w fun e w'=>e=.returned (.bool (Zpi c))∧w=w':=by
 go_enter Tryz.func142,Tryz.ntmps142;go_wp2_with fail;all_goals
  go_ret;refine⟨Q2 ?_,rfl⟩;rw[Zkj];simp[Zpi];try omega
theorem E6(c:Int)(w:World):Calls Tryz.prog 145 #[.int .i64 c] w fun e w'=>e=.returned (.bool (Ix c))∧w=w':=by
 go_enter Tryz.func145,Tryz.ntmps145;go_wp2_with fail;all_goals
  go_ret;refine⟨Q2 ?_,rfl⟩;rw[Zkj];simp[Ix];try omega
theorem Jf(c:Int)(w:World):Calls Tryz.prog 143 #[.int .i64 c] w fun e w'=>e=.returned (.bool (Zyg c))∧w=w':=by
 go_enter Tryz.func143,Tryz.ntmps143;go_wp2_with fail;all_goals
  go_ret;refine⟨Q2 ?_,rfl⟩;rw[Zkj];simp[Zyg];try omega
def Zx3(c:Int):Int:=if Zyg c=false then 0 else if c≤127 then 1 else if c≤2047 then 2 else if c≤65535 then 3 else 4
theorem len_any(c:Int)(w:World):Calls Tryz.prog 186 #[.int .i64 c] w fun e w'=>e=.returned (.int .i64 (Zx3 c))∧w=w':=by
 go_enter Tryz.func186,Tryz.ntmps186;cases hb:Zyg c
 all_goals
  have Hb:=Ya hb;go_wp2_with (go_at_call 143;refine(Jf _ _).mono ?_;rintro e w' ⟨rfl,rfl⟩;rw[hb])
 all_goals
  go_ret;refine⟨Pc ?_,rfl⟩;unfold Zx3;rw[Hb.o];simp;try(repeat' split)
  all_goals(simp at *;try omega)
def Iv(c:Int):Bool:=(decide (0≤c)&&decide (c≤127))||(decide (55296≤c)&&decide (c≤57343))||Bu c||Ix c
theorem Uk(c:Int)(w:World):Calls Tryz.prog 141 #[.int .i64 c] w fun e w'=>e=.returned (.bool (Iv c))∧w=w':=by
 go_enter Tryz.func141,Tryz.ntmps141;cases hb:Bu c<;>cases hj:Ix c
 all_goals
  have Hb:=Ya hb;have Hj:=Ya hj;go_wp2_with (first|(go_at_call 113;refine(Jv _ _).mono ?_;rintro e w' ⟨rfl,rfl⟩;rw[hb])|(go_at_call 145;refine(E6 _ _).mono ?_;rintro e w' ⟨rfl,rfl⟩;rw[hj]))
 all_goals
  go_ret;refine⟨Q2 ?_,rfl⟩;unfold Iv;rw[Hb.o,Hj.o];rw[Zkj];simp;try omega
def swp(f:Int→Int)(l:List Int)(i:Nat):List Int :=
 match l[i-1]?,l[i]? with
 | some x,some y=>if 0<f y∧f y<f x then(l.set (i-1) y).set i x else l
 | _,_=>l
def Pn(f:Int→Int):List Int→Nat
 | []=>0
 | x::r=>r.countP (fun y=>decide (f y<f x))+Pn f r
theorem St(f:Int→Int){x y:Int}(h:f y<f x)(b:List Int):∀ a:List Int,Pn f (a++y::x::b)<Pn f (a++x::y::b)
 | []=>by
  simp only[Zo,Pn,Zil];have h1:decide (f y<f x)=true:=Yh h;have h2:decide (f x<f y)=false:=Yi;rw[h1,h2];simp only[Zhh,Zid,Zhk];omega
 | z::a=>by
  have:=St f h b a;simp only[List.cons_append,Pn,Zib,Zil];omega
theorem Zn2(f:Int→Int)(l:List Int)(i:Nat):(swp f l i).length=l.length:=by
 unfold swp;split
 ·split<;>simp
 rfl
theorem Zm2{f:Int→Int}{l:List Int}{i:Nat}{x y:Int}(hx:l[i-1]?=some x)(hy:l[i]?=some y)(h:¬ (0<f y∧f y<f x)):swp f l i=l:=by
 unfold swp;rw[hx,hy];simp only;rw[Zlq h]
theorem Zsp{f:Int→Int}{l:List Int}{i:Nat}{x y:Int}(hx:l[i-1]?=some x)(hy:l[i]?=some y)(h:0<f y∧f y<f x):swp f l i=(l.set (i-1) y).set i x:=by
 unfold swp;rw[hx,hy];simp only;rw[Zlm h]
theorem Zm1{f:Int→Int}{l:List Int}{k:Nat}{x y:Int}(hx:l[k]?=some x)(hy:l[k+1]?=some y)(h:0<f y∧f y<f x):Pn f (swp f l (k+1))<Pn f l:=by
 rw[Zsp (by simpa using hx) hy h];have hk:=(Zr.1 hy).1;have e0:l=l.take k++x::y::l.drop (k+2):=by
  apply Zi3;intro j;rw[List.getElem?_append,Zp,Zjm (by omega)];split
  ·rw[Yy,Zlm (by assumption)]
  rename_i hj;rcases Zjz j (k+1)with h1|h1
  ·have:j=k:=by omega
   subst this;simp[hx]
  rcases Zjz j (k+2)with h2|h2
  ·have:j=k+1:=by omega
   subst this;simp[hy]
  obtain⟨m,rfl⟩:∃ m,j=k+2+m:=⟨j-(k+2),by omega⟩;rw[show k+2+m-k=m+1+1 by omega];simp
 obtain⟨a,b,e,ha⟩:∃ a b,l=a++x::y::b∧a.length=k:=⟨l.take k,l.drop (k+2),e0,by rw[Zp];omega⟩;clear e0 hx hy hk;subst e ha;rw[show((a++x::y::b).set (a.length+1-1) y).set (a.length+1) x=a++y::x::b by simp[Zii]];exact St f h.2 _ _
def Zym(f:Int→Int)(l:List Int):Nat→List Int
 | 0=>l
 | k+1=>swp f (Zym f l k) (k+1)
theorem Pg(f:Int→Int)(l:List Int):∀ k,(Zym f l k).length=l.length
 | 0=>rfl
 | k+1=>by rw[Zym,Zn2,Pg f l k]
def Zwy(f:Int→Int)(l:List Int):List Int:=Zym f l (l.length-1)
def Gb(f:Int→Int)(l:List Int):List Int:=if _h:Pn f (Zwy f l)<Pn f l then Gb f (Zwy f l)else l
termination_by Pn f l
theorem Ztq(f:Int→Int)(l:List Int):(Gb f l).length=l.length:=by
 induction l using Gb.induct f with
 | case1 l h ih =>
  rw[Gb,Zhb h,ih];exact Pg _ _ _
 | case2 l h=>rw[Gb,dif_neg h]
theorem Zqh{f:Int→Int}{l:List Int}(h:Pn f (Zwy f l)<Pn f l):Gb f l=Gb f (Zwy f l):=by
 rw[Gb,Zhb h]
theorem Ztr{f:Int→Int}{l:List Int}(h:Zwy f l=l):Gb f l=l:=by
 rw[Gb,dif_neg (by rw[h];omega)]
def u8L(zs:List Int):List UInt8:=zs.map fun z=>UInt8.ofNat (z%256).toNat
theorem Qr{w:World}(zs:List Int)(n:Nat)(hn:zs.length=n)(cs:Array Value)(hcs:cs=(zs.map fun z=>Value.int .u8 (z%256)).toArray) :
 (convert 224 9 (.slice (some ⟨w.heap.size,0,none⟩) n n)).run Tryz.prog (w.alloc (.cells cs 5))=.ok (.string (bs (u8L zs))) (w.alloc (.cells cs 5)):=by
 subst hn hcs;have hl:zs.length=(u8L zs).length:=by simp[u8L]
 rw[hl];refine run_convert_bytes_back _ 224 9 5 ⟨w.heap.size,0,none⟩ _ (u8L zs) Zsj Zpw Zn6 fun j hj=>?_
 rw[Oi];have h1:(w.alloc (.cells (zs.map fun z=>Value.int .u8 (z%256)).toArray 5)).heap[w.heap.size]?=some (.cells (zs.map fun z=>Value.int .u8 (z%256)).toArray 5):=Zl2 w _;have hj':j<zs.length:=by rw[hl];exact hj
 simp only[World.cell?,h1];simp only[u8L,List.getElem_map];rw[Zlw (by omega)];simp[hj'];omega
def Mk(c:Int):List Int :=
 if Zx3 c=1 then[c]
 else if Zx3 c=2 then[wrap64 (192+wrap64 (c.tdiv 64)),wrap64 (128+c.tmod 64)]
 else if Zx3 c=3 then[wrap64 (224+wrap64 (c.tdiv 4096)),wrap64 (128+(wrap64 (c.tdiv 64)).tmod 64),wrap64 (128+c.tmod 64)]
 else[wrap64 (240+wrap64 (c.tdiv 262144)),wrap64 (128+(wrap64 (c.tdiv 4096)).tmod 64),wrap64 (128+(wrap64 (c.tdiv 64)).tmod 64),wrap64 (128+c.tmod 64)]
theorem Zql(c:Int):(Mk c).length≤4:=by
 unfold Mk;split
 ·simp
 split
 ·simp
 split<;>simp
theorem one_any(c:Int)(w:World):Calls Tryz.prog 166 #[.int .i64 c] w fun e w'=>e=.returned (.string (bs (u8L (Mk c))))∧Ext w w':=by
 go_enter Tryz.func166,Tryz.ntmps166;cases h1:(Zx3 c==1)
 ·cases h2:(Zx3 c==2)
  ·cases h3:(Zx3 c==3)
   ·have e1:Mk c=[wrap64 (240+wrap64 (c.tdiv 262144)),wrap64 (128+(wrap64 (c.tdiv 4096)).tmod 64),wrap64 (128+(wrap64 (c.tdiv 64)).tmod 64),wrap64 (128+c.tmod 64)]:=by
     simp at h1 h2 h3;unfold Mk;rw[Zlq h1,Zlq h2,Zlq h3]
    have E1:=Ya e1;have hcv:=fun w:World=>Qr (w:=w) (Mk c) 4 (by rw[e1];rfl) _ rfl
    rw[e1]at hcv;simp only[Zl9,Zku]at hcv;clear e1;go_wp2_with (go_at_call 186;refine(len_any _ _).mono ?_;rintro e w' ⟨rfl,rfl⟩);go_ret;exact⟨by rw[E1.o];rfl,(Yn w).alloc _⟩
   have e1:Mk c=[wrap64 (224+wrap64 (c.tdiv 4096)),wrap64 (128+(wrap64 (c.tdiv 64)).tmod 64),wrap64 (128+c.tmod 64)]:=by
    simp at h1 h2 h3;unfold Mk;rw[Zlq h1,Zlq h2,Zlm h3]
   have E1:=Ya e1;have hcv:=fun w:World=>Qr (w:=w) (Mk c) 3 (by rw[e1];rfl) _ rfl
   rw[e1]at hcv;simp only[Zl9,Zku]at hcv;clear e1;go_wp2_with (go_at_call 186;refine(len_any _ _).mono ?_;rintro e w' ⟨rfl,rfl⟩);go_ret;exact⟨by rw[E1.o];rfl,(Yn w).alloc _⟩
  have e1:Mk c=[wrap64 (192+wrap64 (c.tdiv 64)),wrap64 (128+c.tmod 64)]:=by
   simp at h1 h2;unfold Mk;rw[Zlq h1,Zlm h2]
  have E1:=Ya e1;have hcv:=fun w:World=>Qr (w:=w) (Mk c) 2 (by rw[e1];rfl) _ rfl
  rw[e1]at hcv;simp only[Zl9,Zku]at hcv;clear e1;go_wp2_with (go_at_call 186;refine(len_any _ _).mono ?_;rintro e w' ⟨rfl,rfl⟩);go_ret;exact⟨by rw[E1.o];rfl,(Yn w).alloc _⟩
 have e1:Mk c=[c]:=by simp at h1;unfold Mk;rw[Zlm h1]
 have E1:=Ya e1;have hcv:=fun w:World=>Qr (w:=w) (Mk c) 1 (by rw[e1];rfl) _ rfl
 rw[e1]at hcv;simp only[Zl9,Zku]at hcv;clear e1;go_wp2_with (go_at_call 186;refine(len_any _ _).mono ?_;rintro e w' ⟨rfl,rfl⟩);go_ret;exact⟨by rw[E1.o];rfl,(Yn w).alloc _⟩
end Go.Proofs.YtnbclgbicnpmnaaGreat
