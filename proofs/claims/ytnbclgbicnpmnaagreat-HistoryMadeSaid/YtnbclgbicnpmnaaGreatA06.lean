/- Lemmas of this claim: RA, RB, RRp, RM. Conditions: as named. -/
import Derived.Deep.RegionHeld3
import Derived.Laws.BitsAllLaws
import Derived.Laws.DeepNot64
import Derived.Laws.IdiomCopy
import Derived.WalkSmall
import Derived.Test.YtnbclgbicnpmnaaGreatA02
namespace Go.Proofs.YtnbclgbicnpmnaaGreat
open Go.RowKit Go.Sort
set_option maxHeartbeats 0
set_option maxRecDepth 100000
set_option linter.all false
section
def Xz(w:World)(S:Nat→Prop)(v:Value)(l:List Int):Prop:=Rd w S 1 v l.length (l.map (Value.int .i64))
section
variable {w w':World} {S T:Nat→Prop} {v:Value} {l:List Int}
theorem Xz.ext(h:Xz w S v l)(x:Ext w w'):Xz w' S v l:=Rd.ext h x
theorem Xz.chg(h:Xz w S v l)(c:Chg T w w')(hd:∀ k,S k→¬ T k):Xz w' S v l:=Rd.chg h c hd
theorem Xz.shape(h:Xz w S v l):∃ A c,v=.slice A l.length c∧l.length≤c∧c≤maxLen:=by
 obtain⟨_,A,c,h,h1,h2,_⟩:=h;exact⟨A,c,h,h1,h2⟩
theorem Xz.get(h:Xz w S v l){j:Nat}{x:Int}(hj:l[j]?=some x) :
 ∃ g o c,v=.slice (some ⟨g,o,none⟩) l.length c∧l.length≤c∧c≤maxLen∧S g∧g<w.heap.size∧w.cell? ⟨g,o+j,none⟩=some (.int .i64 x):=by
 obtain⟨g,o,c,h1,h2,h3,h4,h5,h6⟩:=Rd.at_ h (Zr.1 hj).1;exact⟨g,o,c,h1,h2,h3,h4,h5,h6 j _ (by rw[Zn,hj];rfl)⟩
theorem Xz.nil(w:World)(S:Nat→Prop):Xz w S (.slice none 0 0) []:=Rd.nil w S 1
end
structure Sp where
 fr:Int
 to_:Int
 val:Int
def Mm(s:Sp):List Value:=[.int .i64 s.fr,.int .i64 s.to_,.int .i64 s.val]
def Vw:List Sp→List Value
 | []=>[]
 | s::r=>Mm s++Vw r
theorem Ag:∀ l:List Sp,(Vw l).length=l.length*3
 | []=>rfl
 | n::r=>by rw[Vw,Zs,Ag r];simp[Mm];omega
theorem Gz:∀ a b:List Sp,Vw (a++b)=Vw a++Vw b
 | [],_=>rfl
 | n::r,b=>by simp[Vw,Gz r b]
theorem Mk:∀ {l:List Sp} {j:Nat} {s:Sp},l[j]?=some s→(Vw l)[j*3]?=some (.int .i64 s.fr)∧(Vw l)[j*3+1]?=some (.int .i64 s.to_)∧(Vw l)[j*3+2]?=some (.int .i64 s.val)
 | m::r,0,n,h=>by
  simp only[Zx,Yf]at h;subst h;simp[Vw,Mm]
 | m::r,j+1,n,h=>by
  obtain⟨h1,h2,h3⟩:=Mk (l:=r) (j:=j) (s:=n) (by simpa using h);have hm:(Mm m).length=3:=rfl;have e:∀ k,(Vw (m::r))[(j+1)*3+k]?=(Vw r)[j*3+k]?:=fun k=>by
   rw[Vw,Zd (by omega),hm];congr 1;omega
  refine⟨?_,?_,?_⟩
  ·have:=e 0;simp only[Zko]at this;rw[this,h1]
  ·rw[e 1,h2]
  rw[e 2,h3]
def Vs(w:World)(S:Nat→Prop)(v:Value)(l:List Sp):Prop:=Rd w S 3 v l.length (Vw l)
section
variable {w w':World} {S T:Nat→Prop} {v:Value} {l:List Sp}
theorem Vs.ext(h:Vs w S v l)(x:Ext w w'):Vs w' S v l:=Rd.ext h x
theorem Vs.chg(h:Vs w S v l)(c:Chg T w w')(hd:∀ k,S k→¬ T k):Vs w' S v l:=Rd.chg h c hd
theorem Vs.shape(h:Vs w S v l):∃ A c,v=.slice A l.length c∧l.length≤c∧c≤maxLen:=by
 obtain⟨_,A,c,h,h1,h2,_⟩:=h;exact⟨A,c,h,h1,h2⟩
theorem Vs.get(h:Vs w S v l){j:Nat}{s:Sp}(hj:l[j]?=some s) :
 ∃ g o c,v=.slice (some ⟨g,o,none⟩) l.length c∧l.length≤c∧c≤maxLen∧S g∧g<w.heap.size∧w.cell? ⟨g,o+j*3,none⟩=some (.int .i64 s.fr)∧w.cell? ⟨g,o+j*3+1,none⟩=some (.int .i64 s.to_)∧w.cell? ⟨g,o+j*3+2,none⟩=some (.int .i64 s.val):=by
 obtain⟨g,o,c,h1,h2,h3,h4,h5,h6⟩:=Rd.at_ h (Zr.1 hj).1;obtain⟨q1,q2,q3⟩:=Mk hj;exact⟨g,o,c,h1,h2,h3,h4,h5,h6 _ _ q1,by rw[Zkf];exact h6 _ _ q2,by rw[Zkf];exact h6 _ _ q3⟩
end
structure Mp where
 fr:Int
 tv:Value
 to_:List Int
def Lh(s:Mp):List Value:=[.int .i64 s.fr,s.tv]
def Vx:List Mp→List Value
 | []=>[]
 | s::r=>Lh s++Vx r
theorem Aw:∀ l:List Mp,(Vx l).length=l.length*2
 | []=>rfl
 | n::r=>by rw[Vx,Zs,Aw r];simp[Lh];omega
theorem Uf:∀ a b:List Mp,Vx (a++b)=Vx a++Vx b
 | [],_=>rfl
 | n::r,b=>by simp[Vx,Uf r b]
theorem Kb:∀ {l:List Mp} {j:Nat} {s:Mp},l[j]?=some s→(Vx l)[j*2]?=some (.int .i64 s.fr)∧(Vx l)[j*2+1]?=some s.tv
 | m::r,0,n,h=>by
  simp only[Zx,Yf]at h;subst h;simp[Vx,Lh]
 | m::r,j+1,n,h=>by
  obtain⟨h1,h2⟩:=Kb (l:=r) (j:=j) (s:=n) (by simpa using h);have hm:(Lh m).length=2:=rfl;have e:∀ k,(Vx (m::r))[(j+1)*2+k]?=(Vx r)[j*2+k]?:=fun k=>by
   rw[Vx,Zd (by omega),hm];congr 1;omega
  refine⟨?_,?_⟩
  ·have:=e 0;simp only[Zko]at this;rw[this,h1]
  rw[e 1,h2]
def Uw(w:World)(S:Nat→Prop)(v:Value)(l:List Mp):Prop:=Rd w S 2 v l.length (Vx l)∧∀ m∈l,Xz w S m.tv m.to_
section
variable {w w':World} {S T:Nat→Prop} {v:Value} {l:List Mp}
theorem Uw.ext(h:Uw w S v l)(x:Ext w w'):Uw w' S v l:=⟨Rd.ext h.1 x,fun m hm=>(h.2 m hm).ext x⟩
theorem Uw.chg(h:Uw w S v l)(c:Chg T w w')(hd:∀ k,S k→¬ T k):Uw w' S v l:=⟨Rd.chg h.1 c hd,fun m hm=>(h.2 m hm).chg c hd⟩
theorem Uw.shape(h:Uw w S v l):∃ A c,v=.slice A l.length c∧l.length≤c∧c≤maxLen:=by
 obtain⟨⟨_,A,c,h,h1,h2,_⟩,_⟩:=h;exact⟨A,c,h,h1,h2⟩
theorem Uw.get(h:Uw w S v l){j:Nat}{s:Mp}(hj:l[j]?=some s) :
 ∃ g o c,v=.slice (some ⟨g,o,none⟩) l.length c∧l.length≤c∧c≤maxLen∧S g∧g<w.heap.size∧w.cell? ⟨g,o+j*2,none⟩=some (.int .i64 s.fr)∧w.cell? ⟨g,o+j*2+1,none⟩=some s.tv∧Xz w S s.tv s.to_:=by
 obtain⟨g,o,c,h1,h2,h3,h4,h5,h6⟩:=Rd.at_ h.1 (Zr.1 hj).1;obtain⟨q1,q2⟩:=Kb hj;exact⟨g,o,c,h1,h2,h3,h4,h5,h6 _ _ q1,by rw[Zkf];exact h6 _ _ q2,h.2 s (Zy hj)⟩
end
structure Tbl where
 catV:Value
 clsV:Value
 joiV:Value
 bidV:Value
 scrV:Value
 staV:Value
 ignV:Value
 extV:Value
 mapV:Value
 decV:Value
 excV:Value
 proV:Value
 cat:List Sp
 cls:List Sp
 joi:List Sp
 bid:List Sp
 scr:List Sp
 sta:List Sp
 ign:List Sp
 ext:List Mp
 map:List Mp
 dec:List Mp
 exc:List Int
 pro:List Mp
def Vr(t:Tbl):Value:=.agg #[t.catV,t.clsV,t.joiV,t.bidV,t.scrV,t.staV,t.ignV,t.extV,t.mapV,t.decV,t.excV,t.proV]
structure Xi(w:World)(S:Nat→Prop)(t:Tbl):Prop where
 cat:Vs w S t.catV t.cat
 cls:Vs w S t.clsV t.cls
 joi:Vs w S t.joiV t.joi
 bid:Vs w S t.bidV t.bid
 scr:Vs w S t.scrV t.scr
 sta:Vs w S t.staV t.sta
 ign:Vs w S t.ignV t.ign
 ext:Uw w S t.extV t.ext
 map:Uw w S t.mapV t.map
 dec:Uw w S t.decV t.dec
 exc:Xz w S t.excV t.exc
 pro:Uw w S t.proV t.pro
theorem Xi.up{w w':World}{S:Nat→Prop}{t:Tbl}(h:Xi w S t)(x:Ext w w'):Xi w' S t :=
 ⟨h.cat.ext x,h.cls.ext x,h.joi.ext x,h.bid.ext x,h.scr.ext x,h.sta.ext x,h.ign.ext x,h.ext.ext x,h.map.ext x,h.dec.ext x,h.exc.ext x,h.pro.ext x⟩
theorem Xi.chg{w w':World}{S T:Nat→Prop}{t:Tbl}(h:Xi w S t)(c:Chg T w w')(hd:∀ k,S k→¬ T k):Xi w' S t :=
 ⟨h.cat.chg c hd,h.cls.chg c hd,h.joi.chg c hd,h.bid.chg c hd,h.scr.chg c hd,h.sta.chg c hd,h.ign.chg c hd,h.ext.chg c hd,h.map.chg c hd,h.dec.chg c hd,h.exc.chg c hd,h.pro.chg c hd⟩
def Wk:List Sp→Int→Int
 | [],_=>0
 | s::r,c=>if s.fr≤c∧c≤s.to_ then s.val else Wk r c
theorem drop_at{α:Type}{l:List α}{i:Nat}{x:α}(h:l[i]?=some x):l.drop i=x::l.drop (i+1):=by
 obtain⟨h1,h2⟩:=Zr.1 h;rw[Zj9 h1,h2]
theorem V8{S:Nat→Prop}(v:Value)(l:List Sp)(c:Int)(w:World)(h:Vs w S v l) :
 Calls Tryz.prog 125 #[v,.int .i64 c] w fun e w'=>e=.returned (.int .i64 (Wk l c))∧Ext w w':=by
 obtain⟨A,C,rfl,hlC,hC⟩:=h.shape;obtain⟨n,hn⟩:=gnX (l.length);have Hn:=Ya hn;have H:=Ya h;unfold maxLen at hC;rw[hn]at hlC⊢;clear h hn;go_enter Tryz.func125,Tryz.ntmps125;go_wp2_with fail;go_loopw [9] (fun o wr=>∃ i:Nat,i≤n∧o=.int .i64 (i:Int)∧Wk l c=Wk (l.drop i) c∧Ext w wr) (fun o _=>n-(intOf o).toNat);case atStart=>exact⟨0,by omega,rfl,rfl,Yn _⟩
 obtain⟨i,hi,rfl,hv,hx⟩:=hrel;have Hv:=Ya hv;have Hx:=Ya hx;clear hv hx;by_cases hlt:i<n
 ·have hd:decide ((i:Int)<(n:Int))=true:=by simpa using hlt
  obtain⟨s,hs⟩:=geX (l:=l) (i:=i) (by rw[Hn.o];exact hlt);obtain⟨g,o,c',hvv,_,_,_,_,c0,c1,c2⟩:=(H.o.ext Hx.o).get hs;simp only[Yg]at hvv;obtain⟨rfl,_,rfl⟩:=hvv;have i0:(0:Int)≤(i:Int):=by omega
  have i1:(i:Int)<(n:Int):=by omega
  have Hs:=Ya hs;clear hs;cases h1:decide (s.fr≤c)<;>cases h2:decide (c≤s.to_)
  case true.true =>
   go_wp2_with fail;go_ret;refine⟨?_,Hx.o.alloc _⟩;rw[Hv.o,drop_at Hs.o,Wk,Zlg ⟨by simpa using h1,by simpa using h2⟩];rfl
  all_goals
   have Hno:=Ya (show Wk l c=Wk (l.drop (i+1)) c by
    rw[Hv.o,drop_at Hs.o,Wk,Zlk];simp at h1 h2;omega)
   go_wp2_with fail;go_roundw;case rel=>exact⟨i+1,by omega,by go_num,Hno.o,Hx.o.alloc _⟩
   simp[intOf];omega
 have hd:decide ((i:Int)<(n:Int))=false:=by simp;omega
 have Hend:=Ya (show Wk l c=0 by rw[Hv.o,Zk4 (by rw[Hn.o];omega)];rfl);go_wp2_with fail;go_ret;exact⟨by rw[Hend.o];rfl,Hx.o⟩
def Du:List Mp→Int→Value
 | [],_=>.slice none 0 0
 | s::r,c=>if s.fr=c then s.tv else Du r c
def Xe:List Mp→Int→List Int
 | [],_=>[]
 | s::r,c=>if s.fr=c then s.to_ else Xe r c
theorem Qr{w:World}{S:Nat→Prop}:∀ {l:List Mp} {c:Int},(∀ m∈l,Xz w S m.tv m.to_)→Xz w S (Du l c) (Xe l c)
 | [],_,_=>Xz.nil w S
 | s::r,c,h=>by
  unfold Du Xe;by_cases hc:s.fr=c
  ·rw[Zlg hc,Zlg hc];exact h s (by simp)
  rw[Zlk hc,Zlk hc];exact Qr fun m hm=>h m (by simp[hm])
theorem Ww{S:Nat→Prop}(v:Value)(l:List Mp)(c:Int)(w:World)(h:Uw w S v l) :
 Calls Tryz.prog 111 #[v,.int .i64 c] w fun e w'=>e=.returned (Du l c)∧Ext w w':=by
 obtain⟨A,C,rfl,hlC,hC⟩:=h.shape;obtain⟨n,hn⟩:=gnX (l.length);have Hn:=Ya hn;have H:=Ya h;unfold maxLen at hC;rw[hn]at hlC⊢;clear h hn;go_enter Tryz.func111,Tryz.ntmps111;go_wp2_with fail;go_loopw [9] (fun o wr=>∃ i:Nat,i≤n∧o=.int .i64 (i:Int)∧Du l c=Du (l.drop i) c∧Ext w wr) (fun o _=>n-(intOf o).toNat);case atStart=>exact⟨0,by omega,rfl,rfl,Yn _⟩
 obtain⟨i,hi,rfl,hv,hx⟩:=hrel;have Hv:=Ya hv;have Hx:=Ya hx;clear hv hx;by_cases hlt:i<n
 ·have hd:decide ((i:Int)<(n:Int))=true:=by simpa using hlt
  obtain⟨s,hs⟩:=geX (l:=l) (i:=i) (by rw[Hn.o];exact hlt);obtain⟨g,o,c',hvv,_,_,_,_,c0,c1,hti⟩:=(H.o.ext Hx.o).get hs;simp only[Yg]at hvv;obtain⟨rfl,_,rfl⟩:=hvv;obtain⟨tA,tC,htv,_,_⟩:=hti.shape;rw[htv]at c1;have i0:(0:Int)≤(i:Int):=by omega
  have i1:(i:Int)<(n:Int):=by omega
  have Hs:=Ya hs;have Htv:=Ya htv;clear hs hti htv;cases h1:(s.fr==c)
  case true =>
   go_wp2_with fail;go_ret;refine⟨?_,Hx.o.alloc _⟩;rw[Hv.o,drop_at Hs.o,Du,Zlg (by simpa using h1),Htv.o];rfl
  case false =>
   have Hno:=Ya (show Du l c=Du (l.drop (i+1)) c by
    rw[Hv.o,drop_at Hs.o,Du,Zlk (by simpa using h1)])
   go_wp2_with fail;go_roundw;case rel=>exact⟨i+1,by omega,by go_num,Hno.o,Hx.o.alloc _⟩
   simp[intOf];omega
 have hd:decide ((i:Int)<(n:Int))=false:=by simp;omega
 have Hend:=Ya (show Du l c=.slice none 0 0 by rw[Hv.o,Zk4 (by rw[Hn.o];omega)];rfl);go_wp2_with fail;go_ret;exact⟨by rw[Hend.o];rfl,Hx.o⟩
end
theorem Ry{a b:Int}(h:a=b):Ending.returned (.int .i64 a)=.returned (.int .i64 b):=by rw[h]
def Bk(c:Int):Bool:=decide (44032≤c)&&decide (c≤55203)
def Zpc(c:Int):Bool:=(decide (97≤c)&&decide (c≤122))||(decide (48≤c)&&decide (c≤57))||c==45
def Il(c:Int):Bool:=(decide (4352≤c)&&decide (c≤4370))||(decide (4449≤c)&&decide (c≤4469))||(decide (4520≤c)&&decide (c≤4546))
def Zy9(c:Int):Bool:=decide (0≤c)&&decide (c≤1114111)&&(decide (c<55296)||decide (57343<c))
theorem Js(c:Int)(w:World):Calls Tryz.prog 113 #[.int .i64 c] w fun e w'=>e=.returned (.bool (Bk c))∧w=w':=by
 go_enter Tryz.func113,Tryz.ntmps113;go_wp2_with fail;all_goals
  go_ret;refine⟨Q2 ?_,rfl⟩;rw[Zk0];simp[Bk];try omega
theorem Bu(c:Int)(w:World):Calls Tryz.prog 142 #[.int .i64 c] w fun e w'=>e=.returned (.bool (Zpc c))∧w=w':=by
 go_enter Tryz.func142,Tryz.ntmps142;go_wp2_with fail;all_goals
  go_ret;refine⟨Q2 ?_,rfl⟩;rw[Zk0];simp[Zpc];try omega
theorem Dp(c:Int)(w:World):Calls Tryz.prog 145 #[.int .i64 c] w fun e w'=>e=.returned (.bool (Il c))∧w=w':=by
 go_enter Tryz.func145,Tryz.ntmps145;go_wp2_with fail;all_goals
  go_ret;refine⟨Q2 ?_,rfl⟩;rw[Zk0];simp[Il];try omega
theorem Jc(c:Int)(w:World):Calls Tryz.prog 143 #[.int .i64 c] w fun e w'=>e=.returned (.bool (Zy9 c))∧w=w':=by
 go_enter Tryz.func143,Tryz.ntmps143;go_wp2_with fail;all_goals
  go_ret;refine⟨Q2 ?_,rfl⟩;rw[Zk0];simp[Zy9];try omega
def Zws(c:Int):Int:=if Zy9 c=false then 0 else if c≤127 then 1 else if c≤2047 then 2 else if c≤65535 then 3 else 4
theorem len_any(c:Int)(w:World):Calls Tryz.prog 186 #[.int .i64 c] w fun e w'=>e=.returned (.int .i64 (Zws c))∧w=w':=by
 go_enter Tryz.func186,Tryz.ntmps186;cases hb:Zy9 c
 all_goals
  have Hb:=Ya hb;go_wp2_with (go_at_call 143;refine(Jc _ _).mono ?_;rintro e w' ⟨rfl,rfl⟩;rw[hb])
 all_goals
  go_ret;refine⟨Ry ?_,rfl⟩;unfold Zws;rw[Hb.o];simp;try(repeat' split)
  all_goals(simp at *;try omega)
def Ij(c:Int):Bool:=(decide (0≤c)&&decide (c≤127))||(decide (55296≤c)&&decide (c≤57343))||Bk c||Il c
theorem Ub(c:Int)(w:World):Calls Tryz.prog 141 #[.int .i64 c] w fun e w'=>e=.returned (.bool (Ij c))∧w=w':=by
 go_enter Tryz.func141,Tryz.ntmps141;cases hb:Bk c<;>cases hj:Il c
 all_goals
  have Hb:=Ya hb;have Hj:=Ya hj;go_wp2_with (first|(go_at_call 113;refine(Js _ _).mono ?_;rintro e w' ⟨rfl,rfl⟩;rw[hb])|(go_at_call 145;refine(Dp _ _).mono ?_;rintro e w' ⟨rfl,rfl⟩;rw[hj]))
 all_goals
  go_ret;refine⟨Q2 ?_,rfl⟩;unfold Ij;rw[Hb.o,Hj.o];rw[Zk0];simp;try omega
def swp(f:Int→Int)(l:List Int)(i:Nat):List Int :=
 match l[i-1]?,l[i]? with
 | some x,some y=>if 0<f y∧f y<f x then(l.set (i-1) y).set i x else l
 | _,_=>l
def Pc(f:Int→Int):List Int→Nat
 | []=>0
 | x::r=>r.countP (fun y=>decide (f y<f x))+Pc f r
theorem Sc(f:Int→Int){x y:Int}(h:f y<f x)(b:List Int):∀ a:List Int,Pc f (a++y::x::b)<Pc f (a++x::y::b)
 | []=>by
  simp only[Zo,Pc,Zih];have h1:decide (f y<f x)=true:=Yh h;have h2:decide (f x<f y)=false:=Yi (by omega);rw[h1,h2];simp only[Zhf,Bool.false_eq_true,Zh0];omega
 | z::a=>by
  have:=Sc f h b a;simp only[List.cons_append,Pc,Zi2,Zih];omega
theorem Zn7(f:Int→Int)(l:List Int)(i:Nat):(swp f l i).length=l.length:=by
 unfold swp;split
 ·split<;>simp
 rfl
theorem Zm8{f:Int→Int}{l:List Int}{i:Nat}{x y:Int}(hx:l[i-1]?=some x)(hy:l[i]?=some y)(h:¬ (0<f y∧f y<f x)):swp f l i=l:=by
 unfold swp;rw[hx,hy];simp only;rw[Zlk h]
theorem Zsf{f:Int→Int}{l:List Int}{i:Nat}{x y:Int}(hx:l[i-1]?=some x)(hy:l[i]?=some y)(h:0<f y∧f y<f x):swp f l i=(l.set (i-1) y).set i x:=by
 unfold swp;rw[hx,hy];simp only;rw[Zlg h]
theorem Zm7{f:Int→Int}{l:List Int}{k:Nat}{x y:Int}(hx:l[k]?=some x)(hy:l[k+1]?=some y)(h:0<f y∧f y<f x):Pc f (swp f l (k+1))<Pc f l:=by
 rw[Zsf (by simpa using hx) hy h];have hk:=(Zr.1 hy).1;have e0:l=l.take k++x::y::l.drop (k+2):=by
  apply Zi7;intro j;rw[List.getElem?_append,Zp,Zjh (by omega)];split
  ·rw[Yy,Zlg (by assumption)]
  rename_i hj;rcases Zju j (k+1)with h1|h1
  ·have:j=k:=by omega
   subst this;simp[hx]
  rcases Zju j (k+2)with h2|h2
  ·have:j=k+1:=by omega
   subst this;simp[hy]
  obtain⟨m,rfl⟩:∃ m,j=k+2+m:=⟨j-(k+2),by omega⟩;rw[show k+2+m-k=m+1+1 by omega];simp
 obtain⟨a,b,e,ha⟩:∃ a b,l=a++x::y::b∧a.length=k:=⟨l.take k,l.drop (k+2),e0,by rw[Zp];omega⟩;clear e0 hx hy hk;subst e ha;rw[show((a++x::y::b).set (a.length+1-1) y).set (a.length+1) x=a++y::x::b by simp[Zid]];exact Sc f h.2 _ _
def Zy1(f:Int→Int)(l:List Int):Nat→List Int
 | 0=>l
 | k+1=>swp f (Zy1 f l k) (k+1)
theorem P9(f:Int→Int)(l:List Int):∀ k,(Zy1 f l k).length=l.length
 | 0=>rfl
 | k+1=>by rw[Zy1,Zn7,P9 f l k]
def Zwl(f:Int→Int)(l:List Int):List Int:=Zy1 f l (l.length-1)
def Br(f:Int→Int)(l:List Int):List Int:=if _h:Pc f (Zwl f l)<Pc f l then Br f (Zwl f l)else l
termination_by Pc f l
theorem Ztf(f:Int→Int)(l:List Int):(Br f l).length=l.length:=by
 induction l using Br.induct f with
 | case1 l h ih =>
  rw[Br,Zh1 h,ih];exact P9 _ _ _
 | case2 l h=>rw[Br,dif_neg h]
theorem Zq0{f:Int→Int}{l:List Int}(h:Pc f (Zwl f l)<Pc f l):Br f l=Br f (Zwl f l):=by
 rw[Br,Zh1 h]
theorem Ztg{f:Int→Int}{l:List Int}(h:Zwl f l=l):Br f l=l:=by
 rw[Br,dif_neg (by rw[h];omega)]
def u8L(zs:List Int):List UInt8:=zs.map fun z=>UInt8.ofNat (z%256).toNat
theorem Qq{w:World}(zs:List Int)(n:Nat)(hn:zs.length=n)(cs:Array Value)(hcs:cs=(zs.map fun z=>Value.int .u8 (z%256)).toArray) :
 (convert 224 9 (.slice (some ⟨w.heap.size,0,none⟩) n n)).run Tryz.prog (w.alloc (.cells cs 5))=.ok (.string (bs (u8L zs))) (w.alloc (.cells cs 5)):=by
 subst hn hcs;have hl:zs.length=(u8L zs).length:=by simp[u8L]
 rw[hl];refine run_convert_bytes_back _ 224 9 5 ⟨w.heap.size,0,none⟩ _ (u8L zs) Zs0 Zpo Zmx fun j hj=>?_
 rw[Pw];have h1:(w.alloc (.cells (zs.map fun z=>Value.int .u8 (z%256)).toArray 5)).heap[w.heap.size]?=some (.cells (zs.map fun z=>Value.int .u8 (z%256)).toArray 5):=Zl8 w _;have hj':j<zs.length:=by rw[hl];exact hj
 simp only[World.cell?,h1];simp only[u8L,List.getElem_map];rw[Zlq (by omega)];simp[hj'];omega
def Ny(c:Int):List Int :=
 if Zws c=1 then[c]
 else if Zws c=2 then[wrap64 (192+wrap64 (c.tdiv 64)),wrap64 (128+c.tmod 64)]
 else if Zws c=3 then[wrap64 (224+wrap64 (c.tdiv 4096)),wrap64 (128+(wrap64 (c.tdiv 64)).tmod 64),wrap64 (128+c.tmod 64)]
 else[wrap64 (240+wrap64 (c.tdiv 262144)),wrap64 (128+(wrap64 (c.tdiv 4096)).tmod 64),wrap64 (128+(wrap64 (c.tdiv 64)).tmod 64),wrap64 (128+c.tmod 64)]
theorem Zqc(c:Int):(Ny c).length≤4:=by
 unfold Ny;split
 ·simp
 split
 ·simp
 split<;>simp
theorem one_any(c:Int)(w:World):Calls Tryz.prog 166 #[.int .i64 c] w fun e w'=>e=.returned (.string (bs (u8L (Ny c))))∧Ext w w':=by
 go_enter Tryz.func166,Tryz.ntmps166;cases h1:(Zws c==1)
 ·cases h2:(Zws c==2)
  ·cases h3:(Zws c==3)
   ·have e1:Ny c=[wrap64 (240+wrap64 (c.tdiv 262144)),wrap64 (128+(wrap64 (c.tdiv 4096)).tmod 64),wrap64 (128+(wrap64 (c.tdiv 64)).tmod 64),wrap64 (128+c.tmod 64)]:=by
     simp at h1 h2 h3;unfold Ny;rw[Zlk h1,Zlk h2,Zlk h3]
    have E1:=Ya e1;have hcv:=fun w:World=>Qq (w:=w) (Ny c) 4 (by rw[e1];rfl) _ rfl
    rw[e1]at hcv;simp only[Zku,Zkp]at hcv;clear e1;go_wp2_with (go_at_call 186;refine(len_any _ _).mono ?_;rintro e w' ⟨rfl,rfl⟩);go_ret;exact⟨by rw[E1.o];rfl,(Yn w).alloc _⟩
   have e1:Ny c=[wrap64 (224+wrap64 (c.tdiv 4096)),wrap64 (128+(wrap64 (c.tdiv 64)).tmod 64),wrap64 (128+c.tmod 64)]:=by
    simp at h1 h2 h3;unfold Ny;rw[Zlk h1,Zlk h2,Zlg h3]
   have E1:=Ya e1;have hcv:=fun w:World=>Qq (w:=w) (Ny c) 3 (by rw[e1];rfl) _ rfl
   rw[e1]at hcv;simp only[Zku,Zkp]at hcv;clear e1;go_wp2_with (go_at_call 186;refine(len_any _ _).mono ?_;rintro e w' ⟨rfl,rfl⟩);go_ret;exact⟨by rw[E1.o];rfl,(Yn w).alloc _⟩
  have e1:Ny c=[wrap64 (192+wrap64 (c.tdiv 64)),wrap64 (128+c.tmod 64)]:=by
   simp at h1 h2;unfold Ny;rw[Zlk h1,Zlg h2]
  have E1:=Ya e1;have hcv:=fun w:World=>Qq (w:=w) (Ny c) 2 (by rw[e1];rfl) _ rfl
  rw[e1]at hcv;simp only[Zku,Zkp]at hcv;clear e1;go_wp2_with (go_at_call 186;refine(len_any _ _).mono ?_;rintro e w' ⟨rfl,rfl⟩);go_ret;exact⟨by rw[E1.o];rfl,(Yn w).alloc _⟩
 have e1:Ny c=[c]:=by simp at h1;unfold Ny;rw[Zlg h1]
 have E1:=Ya e1;have hcv:=fun w:World=>Qq (w:=w) (Ny c) 1 (by rw[e1];rfl) _ rfl
 rw[e1]at hcv;simp only[Zku,Zkp]at hcv;clear e1;go_wp2_with (go_at_call 186;refine(len_any _ _).mono ?_;rintro e w' ⟨rfl,rfl⟩);go_ret;exact⟨by rw[E1.o];rfl,(Yn w).alloc _⟩
end Go.Proofs.YtnbclgbicnpmnaaGreat
