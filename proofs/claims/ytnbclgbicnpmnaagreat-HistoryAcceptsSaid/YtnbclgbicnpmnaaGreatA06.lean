/- Lemmas of this claim: RA, RB, RRp, RM. Conditions: as named. -/
import Derived.Deep.RegionHeld3
import Derived.Laws.BitsAllLaws
import Derived.Laws.DeepNot64
import Derived.Laws.IdiomCopy
import Derived.WalkSmall
import Derived.Test.YtnbclgbicnpmnaaGreatA02
namespace Go.Proofs.YtnbclgbicnpmnaaGreat
open Go.RowKit Go.Sort
set_option maxHeartbeats 0
set_option maxRecDepth 100000
set_option linter.all false
section
def Xx(w:World)(S:Nat→Prop)(v:Value)(l:List Int):Prop:=Rd w S 1 v l.length (l.map (Value.int .i64))
section
variable {w w':World} {S T:Nat→Prop} {v:Value} {l:List Int}
theorem Xx.ext(h:Xx w S v l)(x:Ext w w'):Xx w' S v l:=Rd.ext h x
theorem Xx.chg(h:Xx w S v l)(c:Chg T w w')(hd:∀ k,S k→¬ T k):Xx w' S v l:=Rd.chg h c hd
theorem Xx.shape(h:Xx w S v l):∃ A c,v=.slice A l.length c∧l.length≤c∧c≤maxLen:=by
 obtain⟨_,A,c,h,h1,h2,_⟩:=h;exact⟨A,c,h,h1,h2⟩
theorem Xx.get(h:Xx w S v l){j:Nat}{x:Int}(hj:l[j]?=some x) :
 ∃ g o c,v=.slice (some ⟨g,o,none⟩) l.length c∧l.length≤c∧c≤maxLen∧S g∧g<w.heap.size∧w.cell? ⟨g,o+j,none⟩=some (.int .i64 x):=by
 obtain⟨g,o,c,h1,h2,h3,h4,h5,h6⟩:=Rd.at_ h (Zr.1 hj).1;exact⟨g,o,c,h1,h2,h3,h4,h5,h6 j _ (by rw[Zn,hj];rfl)⟩
theorem Xx.nil(w:World)(S:Nat→Prop):Xx w S (.slice none 0 0) []:=Rd.nil w S 1
end
structure Sp where
 fr:Int
 to_:Int
 val:Int
def Lh(s:Sp):List Value:=[.int .i64 s.fr,.int .i64 s.to_,.int .i64 s.val]
def Vy:List Sp→List Value
 | []=>[]
 | s::r=>Lh s++Vy r
theorem Di:∀ l:List Sp,(Vy l).length=l.length*3
 | []=>rfl
 | n::r=>by rw[Vy,Zs,Di r];simp[Lh];omega
theorem Uk:∀ a b:List Sp,Vy (a++b)=Vy a++Vy b
 | [],_=>rfl
 | n::r,b=>by simp[Vy,Uk r b]
theorem Lf:∀ {l:List Sp} {j:Nat} {s:Sp},l[j]?=some s→(Vy l)[j*3]?=some (.int .i64 s.fr)∧(Vy l)[j*3+1]?=some (.int .i64 s.to_)∧(Vy l)[j*3+2]?=some (.int .i64 s.val)
 | m::r,0,n,h=>by
  simp only[Zx,Yd]at h;subst h;simp[Vy,Lh]
 | m::r,j+1,n,h=>by
  obtain⟨h1,h2,h3⟩:=Lf (l:=r) (j:=j) (s:=n) (by simpa using h);have hm:(Lh m).length=3:=rfl;have e:∀ k,(Vy (m::r))[(j+1)*3+k]?=(Vy r)[j*3+k]?:=fun k=>by
   rw[Vy,Zd (by omega),hm];congr 1;omega
  refine⟨?_,?_,?_⟩
  ·have:=e 0;simp only[Zl3]at this;rw[this,h1]
  ·rw[e 1,h2]
  rw[e 2,h3]
def Vv(w:World)(S:Nat→Prop)(v:Value)(l:List Sp):Prop:=Rd w S 3 v l.length (Vy l)
section
variable {w w':World} {S T:Nat→Prop} {v:Value} {l:List Sp}
theorem Vv.ext(h:Vv w S v l)(x:Ext w w'):Vv w' S v l:=Rd.ext h x
theorem Vv.chg(h:Vv w S v l)(c:Chg T w w')(hd:∀ k,S k→¬ T k):Vv w' S v l:=Rd.chg h c hd
theorem Vv.shape(h:Vv w S v l):∃ A c,v=.slice A l.length c∧l.length≤c∧c≤maxLen:=by
 obtain⟨_,A,c,h,h1,h2,_⟩:=h;exact⟨A,c,h,h1,h2⟩
theorem Vv.get(h:Vv w S v l){j:Nat}{s:Sp}(hj:l[j]?=some s) :
 ∃ g o c,v=.slice (some ⟨g,o,none⟩) l.length c∧l.length≤c∧c≤maxLen∧S g∧g<w.heap.size∧w.cell? ⟨g,o+j*3,none⟩=some (.int .i64 s.fr)∧w.cell? ⟨g,o+j*3+1,none⟩=some (.int .i64 s.to_)∧w.cell? ⟨g,o+j*3+2,none⟩=some (.int .i64 s.val):=by
 obtain⟨g,o,c,h1,h2,h3,h4,h5,h6⟩:=Rd.at_ h (Zr.1 hj).1;obtain⟨q1,q2,q3⟩:=Lf hj;exact⟨g,o,c,h1,h2,h3,h4,h5,h6 _ _ q1,by rw[Zkx];exact h6 _ _ q2,by rw[Zkx];exact h6 _ _ q3⟩
end
structure Mp where
 fr:Int
 tv:Value
 to_:List Int
def Lz(s:Mp):List Value:=[.int .i64 s.fr,s.tv]
def Vz:List Mp→List Value
 | []=>[]
 | s::r=>Lz s++Vz r
theorem Dq:∀ l:List Mp,(Vz l).length=l.length*2
 | []=>rfl
 | n::r=>by rw[Vz,Zs,Dq r];simp[Lz];omega
theorem Us:∀ a b:List Mp,Vz (a++b)=Vz a++Vz b
 | [],_=>rfl
 | n::r,b=>by simp[Vz,Us r b]
theorem Kq:∀ {l:List Mp} {j:Nat} {s:Mp},l[j]?=some s→(Vz l)[j*2]?=some (.int .i64 s.fr)∧(Vz l)[j*2+1]?=some s.tv
 | m::r,0,n,h=>by
  simp only[Zx,Yd]at h;subst h;simp[Vz,Lz]
 | m::r,j+1,n,h=>by
  obtain⟨h1,h2⟩:=Kq (l:=r) (j:=j) (s:=n) (by simpa using h);have hm:(Lz m).length=2:=rfl;have e:∀ k,(Vz (m::r))[(j+1)*2+k]?=(Vz r)[j*2+k]?:=fun k=>by
   rw[Vz,Zd (by omega),hm];congr 1;omega
  refine⟨?_,?_⟩
  ·have:=e 0;simp only[Zl3]at this;rw[this,h1]
  rw[e 1,h2]
def Ka(w:World)(S:Nat→Prop)(v:Value)(l:List Mp):Prop:=Rd w S 2 v l.length (Vz l)∧∀ m∈l,Xx w S m.tv m.to_
section
variable {w w':World} {S T:Nat→Prop} {v:Value} {l:List Mp}
theorem Ka.ext(h:Ka w S v l)(x:Ext w w'):Ka w' S v l:=⟨Rd.ext h.1 x,fun m hm=>(h.2 m hm).ext x⟩
theorem Ka.chg(h:Ka w S v l)(c:Chg T w w')(hd:∀ k,S k→¬ T k):Ka w' S v l:=⟨Rd.chg h.1 c hd,fun m hm=>(h.2 m hm).chg c hd⟩
theorem Ka.shape(h:Ka w S v l):∃ A c,v=.slice A l.length c∧l.length≤c∧c≤maxLen:=by
 obtain⟨⟨_,A,c,h,h1,h2,_⟩,_⟩:=h;exact⟨A,c,h,h1,h2⟩
theorem Ka.get(h:Ka w S v l){j:Nat}{s:Mp}(hj:l[j]?=some s) :
 ∃ g o c,v=.slice (some ⟨g,o,none⟩) l.length c∧l.length≤c∧c≤maxLen∧S g∧g<w.heap.size∧w.cell? ⟨g,o+j*2,none⟩=some (.int .i64 s.fr)∧w.cell? ⟨g,o+j*2+1,none⟩=some s.tv∧Xx w S s.tv s.to_:=by
 obtain⟨g,o,c,h1,h2,h3,h4,h5,h6⟩:=Rd.at_ h.1 (Zr.1 hj).1;obtain⟨q1,q2⟩:=Kq hj;exact⟨g,o,c,h1,h2,h3,h4,h5,h6 _ _ q1,by rw[Zkx];exact h6 _ _ q2,h.2 s (Zy hj)⟩
end
structure Tbl where
 catV:Value
 clsV:Value
 joiV:Value
 bidV:Value
 scrV:Value
 staV:Value
 ignV:Value
 extV:Value
 mapV:Value
 decV:Value
 excV:Value
 proV:Value
 cat:List Sp
 cls:List Sp
 joi:List Sp
 bid:List Sp
 scr:List Sp
 sta:List Sp
 ign:List Sp
 ext:List Mp
 map:List Mp
 dec:List Mp
 exc:List Int
 pro:List Mp
def Vu(t:Tbl):Value:=.agg #[t.catV,t.clsV,t.joiV,t.bidV,t.scrV,t.staV,t.ignV,t.extV,t.mapV,t.decV,t.excV,t.proV]
structure Xl(w:World)(S:Nat→Prop)(t:Tbl):Prop where
 cat:Vv w S t.catV t.cat
 cls:Vv w S t.clsV t.cls
 joi:Vv w S t.joiV t.joi
 bid:Vv w S t.bidV t.bid
 scr:Vv w S t.scrV t.scr
 sta:Vv w S t.staV t.sta
 ign:Vv w S t.ignV t.ign
 ext:Ka w S t.extV t.ext
 map:Ka w S t.mapV t.map
 dec:Ka w S t.decV t.dec
 exc:Xx w S t.excV t.exc
 pro:Ka w S t.proV t.pro
theorem Xl.up{w w':World}{S:Nat→Prop}{t:Tbl}(h:Xl w S t)(x:Ext w w'):Xl w' S t :=
 ⟨h.cat.ext x,h.cls.ext x,h.joi.ext x,h.bid.ext x,h.scr.ext x,h.sta.ext x,h.ign.ext x,h.ext.ext x,h.map.ext x,h.dec.ext x,h.exc.ext x,h.pro.ext x⟩
theorem Xl.chg{w w':World}{S T:Nat→Prop}{t:Tbl}(h:Xl w S t)(c:Chg T w w')(hd:∀ k,S k→¬ T k):Xl w' S t :=
 ⟨h.cat.chg c hd,h.cls.chg c hd,h.joi.chg c hd,h.bid.chg c hd,h.scr.chg c hd,h.sta.chg c hd,h.ign.chg c hd,h.ext.chg c hd,h.map.chg c hd,h.dec.chg c hd,h.exc.chg c hd,h.pro.chg c hd⟩
def Wl:List Sp→Int→Int
 | [],_=>0
 | s::r,c=>if s.fr≤c∧c≤s.to_ then s.val else Wl r c
theorem drop_at{α:Type}{l:List α}{i:Nat}{x:α}(h:l[i]?=some x):l.drop i=x::l.drop (i+1):=by
 obtain⟨h1,h2⟩:=Zr.1 h;rw[Zjp h1,h2]
theorem Vc{S:Nat→Prop}(v:Value)(l:List Sp)(c:Int)(w:World)(h:Vv w S v l) :
 Calls Tryz.prog 125 #[v,.int .i64 c] w fun e w'=>e=.returned (.int .i64 (Wl l c))∧Ext w w':=by
 obtain⟨A,C,rfl,hlC,hC⟩:=h.shape;obtain⟨n,hn⟩:=gnX (l.length);have Hn:=Y4 hn;have H:=Y4 h;unfold maxLen at hC;rw[hn]at hlC⊢;clear h hn;go_enter Tryz.func125,Tryz.ntmps125;go_wp2_with fail;go_loopw [9] (fun o wr=>∃ i:Nat,i≤n∧o=.int .i64 (i:Int)∧Wl l c=Wl (l.drop i) c∧Ext w wr) (fun o _=>n-(intOf o).toNat);case atStart=>exact⟨0,by omega,rfl,rfl,Yl _⟩
 obtain⟨i,hi,rfl,hv,hx⟩:=hrel;have Hv:=Y4 hv;have Hx:=Y4 hx;clear hv hx;by_cases hlt:i<n
 ·have hd:decide ((i:Int)<(n:Int))=true:=by simpa using hlt
  obtain⟨s,hs⟩:=geX (l:=l) (i:=i) (by rw[Hn.o];exact hlt);obtain⟨g,o,c',hvv,_,_,_,_,c0,c1,c2⟩:=(H.o.ext Hx.o).get hs;simp only[Ye]at hvv;obtain⟨rfl,_,rfl⟩:=hvv;have i0:(0:Int)≤(i:Int):=by omega
  have i1:(i:Int)<(n:Int):=by omega
  have Hs:=Y4 hs;clear hs;cases h1:decide (s.fr≤c)<;>cases h2:decide (c≤s.to_)
  case true.true =>
   go_wp2_with fail;go_ret;refine⟨?_,Hx.o.alloc _⟩;rw[Hv.o,drop_at Hs.o,Wl,Zm4 ⟨by simpa using h1,by simpa using h2⟩];rfl
  all_goals
   have Hno:=Y4 (show Wl l c=Wl (l.drop (i+1)) c by
    rw[Hv.o,drop_at Hs.o,Wl,Zm2];simp at h1 h2;omega)
   go_wp2_with fail;go_roundw;case rel=>exact⟨i+1,by omega,by go_num,Hno.o,Hx.o.alloc _⟩
   simp[intOf];omega
 have hd:decide ((i:Int)<(n:Int))=false:=by simp;omega
 have Hend:=Y4 (show Wl l c=0 by rw[Hv.o,Zkq (by rw[Hn.o];omega)];rfl);go_wp2_with fail;go_ret;exact⟨by rw[Hend.o];rfl,Hx.o⟩
def Ei:List Mp→Int→Value
 | [],_=>.slice none 0 0
 | s::r,c=>if s.fr=c then s.tv else Ei r c
def Xg:List Mp→Int→List Int
 | [],_=>[]
 | s::r,c=>if s.fr=c then s.to_ else Xg r c
theorem Qv{w:World}{S:Nat→Prop}:∀ {l:List Mp} {c:Int},(∀ m∈l,Xx w S m.tv m.to_)→Xx w S (Ei l c) (Xg l c)
 | [],_,_=>Xx.nil w S
 | s::r,c,h=>by
  unfold Ei Xg;by_cases hc:s.fr=c
  ·rw[Zm4 hc,Zm4 hc];exact h s (by simp)
  rw[Zm2 hc,Zm2 hc];exact Qv fun m hm=>h m (by simp[hm])
theorem Wz{S:Nat→Prop}(v:Value)(l:List Mp)(c:Int)(w:World)(h:Ka w S v l) :
 Calls Tryz.prog 111 #[v,.int .i64 c] w fun e w'=>e=.returned (Ei l c)∧Ext w w':=by
 obtain⟨A,C,rfl,hlC,hC⟩:=h.shape;obtain⟨n,hn⟩:=gnX (l.length);have Hn:=Y4 hn;have H:=Y4 h;unfold maxLen at hC;rw[hn]at hlC⊢;clear h hn;go_enter Tryz.func111,Tryz.ntmps111;go_wp2_with fail;go_loopw [9] (fun o wr=>∃ i:Nat,i≤n∧o=.int .i64 (i:Int)∧Ei l c=Ei (l.drop i) c∧Ext w wr) (fun o _=>n-(intOf o).toNat);case atStart=>exact⟨0,by omega,rfl,rfl,Yl _⟩
 obtain⟨i,hi,rfl,hv,hx⟩:=hrel;have Hv:=Y4 hv;have Hx:=Y4 hx;clear hv hx;by_cases hlt:i<n
 ·have hd:decide ((i:Int)<(n:Int))=true:=by simpa using hlt
  obtain⟨s,hs⟩:=geX (l:=l) (i:=i) (by rw[Hn.o];exact hlt);obtain⟨g,o,c',hvv,_,_,_,_,c0,c1,hti⟩:=(H.o.ext Hx.o).get hs;simp only[Ye]at hvv;obtain⟨rfl,_,rfl⟩:=hvv;obtain⟨tA,tC,htv,_,_⟩:=hti.shape;rw[htv]at c1;have i0:(0:Int)≤(i:Int):=by omega
  have i1:(i:Int)<(n:Int):=by omega
  have Hs:=Y4 hs;have Htv:=Y4 htv;clear hs hti htv;cases h1:(s.fr==c)
  case true =>
   go_wp2_with fail;go_ret;refine⟨?_,Hx.o.alloc _⟩;rw[Hv.o,drop_at Hs.o,Ei,Zm4 (by simpa using h1),Htv.o];rfl
  case false =>
   have Hno:=Y4 (show Ei l c=Ei (l.drop (i+1)) c by
    rw[Hv.o,drop_at Hs.o,Ei,Zm2 (by simpa using h1)])
   go_wp2_with fail;go_roundw;case rel=>exact⟨i+1,by omega,by go_num,Hno.o,Hx.o.alloc _⟩
   simp[intOf];omega
 have hd:decide ((i:Int)<(n:Int))=false:=by simp;omega
 have Hend:=Y4 (show Ei l c=.slice none 0 0 by rw[Hv.o,Zkq (by rw[Hn.o];omega)];rfl);go_wp2_with fail;go_ret;exact⟨by rw[Hend.o];rfl,Hx.o⟩
end
theorem Ps{a b:Int}(h:a=b):Ending.returned (.int .i64 a)=.returned (.int .i64 b):=by rw[h]
def Bw(c:Int):Bool:=decide (44032≤c)&&decide (c≤55203)
def Zqe(c:Int):Bool:=(decide (97≤c)&&decide (c≤122))||(decide (48≤c)&&decide (c≤57))||c==45
def Sh(c:Int):Bool:=(decide (4352≤c)&&decide (c≤4370))||(decide (4449≤c)&&decide (c≤4469))||(decide (4520≤c)&&decide (c≤4546))
def Zzh(c:Int):Bool:=decide (0≤c)&&decide (c≤1114111)&&(decide (c<55296)||decide (57343<c))
theorem Jz(c:Int)(w:World):Calls Tryz.prog 113 #[.int .i64 c] w fun e w'=>e=.returned (.bool (Bw c))∧w=w':=by
 go_enter Tryz.func113,Tryz.ntmps113;go_wp2_with fail;all_goals
  go_ret;refine⟨Ex ?_,rfl⟩;rw[Zkw];simp[Bw];try omega
theorem Ge(c:Int)(w:World):Calls Tryz.prog 142 #[.int .i64 c] w fun e w'=>e=.returned (.bool (Zqe c))∧w=w':=by
 go_enter Tryz.func142,Tryz.ntmps142;go_wp2_with fail;all_goals
  go_ret;refine⟨Ex ?_,rfl⟩;rw[Zkw];simp[Zqe];try omega
theorem Ee(c:Int)(w:World):Calls Tryz.prog 145 #[.int .i64 c] w fun e w'=>e=.returned (.bool (Sh c))∧w=w':=by
 go_enter Tryz.func145,Tryz.ntmps145;go_wp2_with fail;all_goals
  go_ret;refine⟨Ex ?_,rfl⟩;rw[Zkw];simp[Sh];try omega
theorem Jp(c:Int)(w:World):Calls Tryz.prog 143 #[.int .i64 c] w fun e w'=>e=.returned (.bool (Zzh c))∧w=w':=by
 go_enter Tryz.func143,Tryz.ntmps143;go_wp2_with fail;all_goals
  go_ret;refine⟨Ex ?_,rfl⟩;rw[Zkw];simp[Zzh];try omega
def Zy8(c:Int):Int:=if Zzh c=false then 0 else if c≤127 then 1 else if c≤2047 then 2 else if c≤65535 then 3 else 4
theorem len_any(c:Int)(w:World):Calls Tryz.prog 186 #[.int .i64 c] w fun e w'=>e=.returned (.int .i64 (Zy8 c))∧w=w':=by
 go_enter Tryz.func186,Tryz.ntmps186;cases hb:Zzh c
 all_goals
  have Hb:=Y4 hb;go_wp2_with (go_at_call 143;refine(Jp _ _).mono ?_;rintro e w' ⟨rfl,rfl⟩;rw[hb])
 all_goals
  go_ret;refine⟨Ps ?_,rfl⟩;unfold Zy8;rw[Hb.o];simp;try(repeat' split)
  all_goals(simp at *;try omega)
def Sf(c:Int):Bool:=(decide (0≤c)&&decide (c≤127))||(decide (55296≤c)&&decide (c≤57343))||Bw c||Sh c
theorem Un(c:Int)(w:World):Calls Tryz.prog 141 #[.int .i64 c] w fun e w'=>e=.returned (.bool (Sf c))∧w=w':=by
 go_enter Tryz.func141,Tryz.ntmps141;cases hb:Bw c<;>cases hj:Sh c
 all_goals
  have Hb:=Y4 hb;have Hj:=Y4 hj;go_wp2_with (first|(go_at_call 113;refine(Jz _ _).mono ?_;rintro e w' ⟨rfl,rfl⟩;rw[hb])|(go_at_call 145;refine(Ee _ _).mono ?_;rintro e w' ⟨rfl,rfl⟩;rw[hj]))
 all_goals
  go_ret;refine⟨Ex ?_,rfl⟩;unfold Sf;rw[Hb.o,Hj.o];rw[Zkw];simp;try omega
def swp(f:Int→Int)(l:List Int)(i:Nat):List Int :=
 match l[i-1]?,l[i]? with
 | some x,some y=>if 0<f y∧f y<f x then(l.set (i-1) y).set i x else l
 | _,_=>l
def O2(f:Int→Int):List Int→Nat
 | []=>0
 | x::r=>r.countP (fun y=>decide (f y<f x))+O2 f r
theorem Rw(f:Int→Int){x y:Int}(h:f y<f x)(b:List Int):∀ a:List Int,O2 f (a++y::x::b)<O2 f (a++x::y::b)
 | []=>by
  simp only[Zo,O2,Zj7];have h1:decide (f y<f x)=true:=Yf h;have h2:decide (f x<f y)=false:=Yg;rw[h1,h2];simp only[Zi7,Bool.false_eq_true,Zi9];omega
 | z::a=>by
  have:=Rw f h b a;simp only[List.cons_append,O2,Zit,Zj7];omega
theorem Zny(f:Int→Int)(l:List Int)(i:Nat):(swp f l i).length=l.length:=by
 unfold swp;split
 ·split<;>simp
 rfl
theorem Zms{f:Int→Int}{l:List Int}{i:Nat}{x y:Int}(hx:l[i-1]?=some x)(hy:l[i]?=some y)(h:¬ (0<f y∧f y<f x)):swp f l i=l:=by
 unfold swp;rw[hx,hy];simp only;rw[Zm2 h]
theorem Ztl{f:Int→Int}{l:List Int}{i:Nat}{x y:Int}(hx:l[i-1]?=some x)(hy:l[i]?=some y)(h:0<f y∧f y<f x):swp f l i=(l.set (i-1) y).set i x:=by
 unfold swp;rw[hx,hy];simp only;rw[Zm4 h]
theorem Zmt{f:Int→Int}{l:List Int}{k:Nat}{x y:Int}(hx:l[k]?=some x)(hy:l[k+1]?=some y)(h:0<f y∧f y<f x):O2 f (swp f l (k+1))<O2 f l:=by
 rw[Ztl (by simpa using hx) hy h];have hk:=(Zr.1 hy).1;have e0:l=l.take k++x::y::l.drop (k+2):=by
  apply Zjc;intro j;rw[List.getElem?_append,Zp,Zk5 (by omega)];split
  ·rw[Yw,Zm4 (by assumption)]
  rename_i hj;rcases Zl9 j (k+1)with h1|h1
  ·have:j=k:=by omega
   subst this;simp[hx]
  rcases Zl9 j (k+2)with h2|h2
  ·have:j=k+1:=by omega
   subst this;simp[hy]
  obtain⟨m,rfl⟩:∃ m,j=k+2+m:=⟨j-(k+2),by omega⟩;rw[show k+2+m-k=m+1+1 by omega];simp
 obtain⟨a,b,e,ha⟩:∃ a b,l=a++x::y::b∧a.length=k:=⟨l.take k,l.drop (k+2),e0,by rw[Zp];omega⟩;clear e0 hx hy hk;subst e ha;rw[show((a++x::y::b).set (a.length+1-1) y).set (a.length+1) x=a++y::x::b by simp[Ziz]];exact Rw f h.2 _ _
def Zzq(f:Int→Int)(l:List Int):Nat→List Int
 | 0=>l
 | k+1=>swp f (Zzq f l k) (k+1)
theorem Pw(f:Int→Int)(l:List Int):∀ k,(Zzq f l k).length=l.length
 | 0=>rfl
 | k+1=>by rw[Zzq,Zny,Pw f l k]
def Zxt(f:Int→Int)(l:List Int):List Int:=Zzq f l (l.length-1)
def Gb(f:Int→Int)(l:List Int):List Int:=if _h:O2 f (Zxt f l)<O2 f l then Gb f (Zxt f l)else l
termination_by O2 f l
theorem Zuj(f:Int→Int)(l:List Int):(Gb f l).length=l.length:=by
 induction l using Gb.induct f with
 | case1 l h ih =>
  rw[Gb,Zhy h,ih];exact Pw _ _ _
 | case2 l h=>rw[Gb,dif_neg h]
theorem Zrd{f:Int→Int}{l:List Int}(h:O2 f (Zxt f l)<O2 f l):Gb f l=Gb f (Zxt f l):=by
 rw[Gb,Zhy h]
theorem Zuk{f:Int→Int}{l:List Int}(h:Zxt f l=l):Gb f l=l:=by
 rw[Gb,dif_neg (by rw[h];omega)]
def u8L(zs:List Int):List UInt8:=zs.map fun z=>UInt8.ofNat (z%256).toNat
theorem Qs{w:World}(zs:List Int)(n:Nat)(hn:zs.length=n)(cs:Array Value)(hcs:cs=(zs.map fun z=>Value.int .u8 (z%256)).toArray) :
 (convert 224 9 (.slice (some ⟨w.heap.size,0,none⟩) n n)).run Tryz.prog (w.alloc (.cells cs 5))=.ok (.string (bs (u8L zs))) (w.alloc (.cells cs 5)):=by
 subst hn hcs;have hl:zs.length=(u8L zs).length:=by simp[u8L]
 rw[hl];refine run_convert_bytes_back _ 224 9 5 ⟨w.heap.size,0,none⟩ _ (u8L zs) Ztg Zqr Zns fun j hj=>?_
 rw[Ox];have h1:(w.alloc (.cells (zs.map fun z=>Value.int .u8 (z%256)).toArray 5)).heap[w.heap.size]?=some (.cells (zs.map fun z=>Value.int .u8 (z%256)).toArray 5):=Zlo w _;have hj':j<zs.length:=by rw[hl];exact hj
 simp only[World.cell?,h1];simp only[u8L,Zie];rw[Zmg (by omega)];simp[hj'];omega
def Mx(c:Int):List Int :=
 if Zy8 c=1 then[c]
 else if Zy8 c=2 then[wrap64 (192+wrap64 (c.tdiv 64)),wrap64 (128+c.tmod 64)]
 else if Zy8 c=3 then[wrap64 (224+wrap64 (c.tdiv 4096)),wrap64 (128+(wrap64 (c.tdiv 64)).tmod 64),wrap64 (128+c.tmod 64)]
 else[wrap64 (240+wrap64 (c.tdiv 262144)),wrap64 (128+(wrap64 (c.tdiv 4096)).tmod 64),wrap64 (128+(wrap64 (c.tdiv 64)).tmod 64),wrap64 (128+c.tmod 64)]
theorem Zrg(c:Int):(Mx c).length≤4:=by
 unfold Mx;split
 ·simp
 split
 ·simp
 split<;>simp
theorem one_any(c:Int)(w:World):Calls Tryz.prog 166 #[.int .i64 c] w fun e w'=>e=.returned (.string (bs (u8L (Mx c))))∧Ext w w':=by
 go_enter Tryz.func166,Tryz.ntmps166;cases h1:(Zy8 c==1)
 ·cases h2:(Zy8 c==2)
  ·cases h3:(Zy8 c==3)
   ·have e1:Mx c=[wrap64 (240+wrap64 (c.tdiv 262144)),wrap64 (128+(wrap64 (c.tdiv 4096)).tmod 64),wrap64 (128+(wrap64 (c.tdiv 64)).tmod 64),wrap64 (128+c.tmod 64)]:=by
     simp at h1 h2 h3;unfold Mx;rw[Zm2 h1,Zm2 h2,Zm2 h3]
    have E1:=Y4 e1;have hcv:=fun w:World=>Qs (w:=w) (Mx c) 4 (by rw[e1];rfl) _ rfl
    rw[e1]at hcv;simp only[Zlg,Zl2]at hcv;clear e1;go_wp2_with (go_at_call 186;refine(len_any _ _).mono ?_;rintro e w' ⟨rfl,rfl⟩);go_ret;exact⟨by rw[E1.o];rfl,(Yl w).alloc _⟩
   have e1:Mx c=[wrap64 (224+wrap64 (c.tdiv 4096)),wrap64 (128+(wrap64 (c.tdiv 64)).tmod 64),wrap64 (128+c.tmod 64)]:=by
    simp at h1 h2 h3;unfold Mx;rw[Zm2 h1,Zm2 h2,Zm4 h3]
   have E1:=Y4 e1;have hcv:=fun w:World=>Qs (w:=w) (Mx c) 3 (by rw[e1];rfl) _ rfl
   rw[e1]at hcv;simp only[Zlg,Zl2]at hcv;clear e1;go_wp2_with (go_at_call 186;refine(len_any _ _).mono ?_;rintro e w' ⟨rfl,rfl⟩);go_ret;exact⟨by rw[E1.o];rfl,(Yl w).alloc _⟩
  have e1:Mx c=[wrap64 (192+wrap64 (c.tdiv 64)),wrap64 (128+c.tmod 64)]:=by
   simp at h1 h2;unfold Mx;rw[Zm2 h1,Zm4 h2]
  have E1:=Y4 e1;have hcv:=fun w:World=>Qs (w:=w) (Mx c) 2 (by rw[e1];rfl) _ rfl
  rw[e1]at hcv;simp only[Zlg,Zl2]at hcv;clear e1;go_wp2_with (go_at_call 186;refine(len_any _ _).mono ?_;rintro e w' ⟨rfl,rfl⟩);go_ret;exact⟨by rw[E1.o];rfl,(Yl w).alloc _⟩
 have e1:Mx c=[c]:=by simp at h1;unfold Mx;rw[Zm4 h1]
 have E1:=Y4 e1;have hcv:=fun w:World=>Qs (w:=w) (Mx c) 1 (by rw[e1];rfl) _ rfl
 rw[e1]at hcv;simp only[Zlg,Zl2]at hcv;clear e1;go_wp2_with (go_at_call 186;refine(len_any _ _).mono ?_;rintro e w' ⟨rfl,rfl⟩);go_ret;exact⟨by rw[E1.o];rfl,(Yl w).alloc _⟩
end Go.Proofs.YtnbclgbicnpmnaaGreat
