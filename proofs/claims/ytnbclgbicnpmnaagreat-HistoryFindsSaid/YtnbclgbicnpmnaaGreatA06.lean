/- Lemmas of this claim: RA, RB, RC, RD, RRp, RM, RN. Conditions: as named. -/
import Derived.Laws.BitsAllLaws
import Derived.Laws.DeepNot64
import Derived.Laws.IdiomCopy
import Derived.WalkSmall
import Derived.Test.YtnbclgbicnpmnaaGreatA02
namespace Go.Proofs.YtnbclgbicnpmnaaGreat
open Go.RowKit Go.Sort Tryz
set_option maxHeartbeats 0
set_option maxRecDepth 100000
set_option linter.all false
section
def Xx(w:World)(S:Nat→Prop)(v:Value)(l:List Int):Prop:=Rd w S 1 v l.length (l.map (Value.int .i64))
section
variable {w w':World} {S T:Nat→Prop} {v:Value} {l:List Int}
theorem Xx.ext(h:Xx w S v l)(x:Ext w w'):Xx w' S v l:=Rd.ext h x
theorem Xx.chg(h:Xx w S v l)(c:Chg T w w')(hd:∀ k,S k→¬ T k):Xx w' S v l:=Rd.chg h c hd
theorem Xx.shape(h:Xx w S v l):∃ A c,v=.slice A l.length c∧l.length≤c∧c≤maxLen:=by
 obtain⟨_,A,c,h,h1,h2,_⟩:=h;exact⟨A,c,h,h1,h2⟩
theorem Xx.get(h:Xx w S v l){j:Nat}{x:Int}(hj:l[j]?=some x) :
 ∃ g o c,v=.slice (some ⟨g,o,none⟩) l.length c∧l.length≤c∧c≤maxLen∧S g∧g<w.heap.size∧w.cell? ⟨g,o+j,none⟩=some (.int .i64 x):=by
 obtain⟨g,o,c,h1,h2,h3,h4,h5,h6⟩:=Rd.at_ h (Zr.1 hj).1;exact⟨g,o,c,h1,h2,h3,h4,h5,h6 j _ (by rw[Zn,hj];rfl)⟩
theorem Xx.nil(w:World)(S:Nat→Prop):Xx w S (.slice none 0 0) []:=Rd.nil w S 1
end
structure Sp where
 fr:Int
 to_:Int
 val:Int
def Nz(s:Sp):List Value:=[.int .i64 s.fr,.int .i64 s.to_,.int .i64 s.val]
def Vs:List Sp→List Value
 | []=>[]
 | s::r=>Nz s++Vs r
theorem Fx:∀ l:List Sp,(Vs l).length=l.length*3
 | []=>rfl
 | n::r=>by rw[Vs,Zs,Fx r];simp[Nz];omega
theorem Gz:∀ a b:List Sp,Vs (a++b)=Vs a++Vs b
 | [],_=>rfl
 | n::r,b=>by simp[Vs,Gz r b]
theorem Nx:∀ {l:List Sp} {j:Nat} {s:Sp},l[j]?=some s→(Vs l)[j*3]?=some (.int .i64 s.fr)∧(Vs l)[j*3+1]?=some (.int .i64 s.to_)∧(Vs l)[j*3+2]?=some (.int .i64 s.val)
 | m::r,0,n,h=>by
  simp only[Zx,Yd]at h;subst h;simp[Vs,Nz]
 | m::r,j+1,n,h=>by
  obtain⟨h1,h2,h3⟩:=Nx (l:=r) (j:=j) (s:=n) (by simpa using h);have hm:(Nz m).length=3:=rfl;have e:∀ k,(Vs (m::r))[(j+1)*3+k]?=(Vs r)[j*3+k]?:=fun k=>by
   rw[Vs,Zd (by omega),hm];congr 1;omega
  refine⟨?_,?_,?_⟩
  ·have:=e 0;simp only[Zix]at this;rw[this,h1]
  ·rw[e 1,h2]
  rw[e 2,h3]
def Vp(w:World)(S:Nat→Prop)(v:Value)(l:List Sp):Prop:=Rd w S 3 v l.length (Vs l)
section
variable {w w':World} {S T:Nat→Prop} {v:Value} {l:List Sp}
theorem Vp.ext(h:Vp w S v l)(x:Ext w w'):Vp w' S v l:=Rd.ext h x
theorem Vp.chg(h:Vp w S v l)(c:Chg T w w')(hd:∀ k,S k→¬ T k):Vp w' S v l:=Rd.chg h c hd
theorem Vp.shape(h:Vp w S v l):∃ A c,v=.slice A l.length c∧l.length≤c∧c≤maxLen:=by
 obtain⟨_,A,c,h,h1,h2,_⟩:=h;exact⟨A,c,h,h1,h2⟩
theorem Vp.get(h:Vp w S v l){j:Nat}{s:Sp}(hj:l[j]?=some s) :
 ∃ g o c,v=.slice (some ⟨g,o,none⟩) l.length c∧l.length≤c∧c≤maxLen∧S g∧g<w.heap.size∧w.cell? ⟨g,o+j*3,none⟩=some (.int .i64 s.fr)∧w.cell? ⟨g,o+j*3+1,none⟩=some (.int .i64 s.to_)∧w.cell? ⟨g,o+j*3+2,none⟩=some (.int .i64 s.val):=by
 obtain⟨g,o,c,h1,h2,h3,h4,h5,h6⟩:=Rd.at_ h (Zr.1 hj).1;obtain⟨q1,q2,q3⟩:=Nx hj;exact⟨g,o,c,h1,h2,h3,h4,h5,h6 _ _ q1,by rw[Zid];exact h6 _ _ q2,by rw[Zid];exact h6 _ _ q3⟩
end
structure Mp where
 fr:Int
 tv:Value
 to_:List Int
def Mx(s:Mp):List Value:=[.int .i64 s.fr,s.tv]
def Vt:List Mp→List Value
 | []=>[]
 | s::r=>Mx s++Vt r
theorem Ah:∀ l:List Mp,(Vt l).length=l.length*2
 | []=>rfl
 | n::r=>by rw[Vt,Zs,Ah r];simp[Mx];omega
theorem Ue:∀ a b:List Mp,Vt (a++b)=Vt a++Vt b
 | [],_=>rfl
 | n::r,b=>by simp[Vt,Ue r b]
theorem K5:∀ {l:List Mp} {j:Nat} {s:Mp},l[j]?=some s→(Vt l)[j*2]?=some (.int .i64 s.fr)∧(Vt l)[j*2+1]?=some s.tv
 | m::r,0,n,h=>by
  simp only[Zx,Yd]at h;subst h;simp[Vt,Mx]
 | m::r,j+1,n,h=>by
  obtain⟨h1,h2⟩:=K5 (l:=r) (j:=j) (s:=n) (by simpa using h);have hm:(Mx m).length=2:=rfl;have e:∀ k,(Vt (m::r))[(j+1)*2+k]?=(Vt r)[j*2+k]?:=fun k=>by
   rw[Vt,Zd (by omega),hm];congr 1;omega
  refine⟨?_,?_⟩
  ·have:=e 0;simp only[Zix]at this;rw[this,h1]
  rw[e 1,h2]
def Us(w:World)(S:Nat→Prop)(v:Value)(l:List Mp):Prop:=Rd w S 2 v l.length (Vt l)∧∀ m∈l,Xx w S m.tv m.to_
section
variable {w w':World} {S T:Nat→Prop} {v:Value} {l:List Mp}
theorem Us.ext(h:Us w S v l)(x:Ext w w'):Us w' S v l:=⟨Rd.ext h.1 x,fun m hm=>(h.2 m hm).ext x⟩
theorem Us.chg(h:Us w S v l)(c:Chg T w w')(hd:∀ k,S k→¬ T k):Us w' S v l:=⟨Rd.chg h.1 c hd,fun m hm=>(h.2 m hm).chg c hd⟩
theorem Us.shape(h:Us w S v l):∃ A c,v=.slice A l.length c∧l.length≤c∧c≤maxLen:=by
 obtain⟨⟨_,A,c,h,h1,h2,_⟩,_⟩:=h;exact⟨A,c,h,h1,h2⟩
theorem Us.get(h:Us w S v l){j:Nat}{s:Mp}(hj:l[j]?=some s) :
 ∃ g o c,v=.slice (some ⟨g,o,none⟩) l.length c∧l.length≤c∧c≤maxLen∧S g∧g<w.heap.size∧w.cell? ⟨g,o+j*2,none⟩=some (.int .i64 s.fr)∧w.cell? ⟨g,o+j*2+1,none⟩=some s.tv∧Xx w S s.tv s.to_:=by
 obtain⟨g,o,c,h1,h2,h3,h4,h5,h6⟩:=Rd.at_ h.1 (Zr.1 hj).1;obtain⟨q1,q2⟩:=K5 hj;exact⟨g,o,c,h1,h2,h3,h4,h5,h6 _ _ q1,by rw[Zid];exact h6 _ _ q2,h.2 s (Zy hj)⟩
end
structure Tbl where
 catV:Value
 clsV:Value
 joiV:Value
 bidV:Value
 scrV:Value
 staV:Value
 ignV:Value
 extV:Value
 mapV:Value
 decV:Value
 excV:Value
 proV:Value
 cat:List Sp
 cls:List Sp
 joi:List Sp
 bid:List Sp
 scr:List Sp
 sta:List Sp
 ign:List Sp
 ext:List Mp
 map:List Mp
 dec:List Mp
 exc:List Int
 pro:List Mp
def Vn(t:Tbl):Value:=.agg #[t.catV,t.clsV,t.joiV,t.bidV,t.scrV,t.staV,t.ignV,t.extV,t.mapV,t.decV,t.excV,t.proV]
structure Xk(w:World)(S:Nat→Prop)(t:Tbl):Prop where
 cat:Vp w S t.catV t.cat
 cls:Vp w S t.clsV t.cls
 joi:Vp w S t.joiV t.joi
 bid:Vp w S t.bidV t.bid
 scr:Vp w S t.scrV t.scr
 sta:Vp w S t.staV t.sta
 ign:Vp w S t.ignV t.ign
 ext:Us w S t.extV t.ext
 map:Us w S t.mapV t.map
 dec:Us w S t.decV t.dec
 exc:Xx w S t.excV t.exc
 pro:Us w S t.proV t.pro
theorem Xk.up{w w':World}{S:Nat→Prop}{t:Tbl}(h:Xk w S t)(x:Ext w w'):Xk w' S t :=
 ⟨h.cat.ext x,h.cls.ext x,h.joi.ext x,h.bid.ext x,h.scr.ext x,h.sta.ext x,h.ign.ext x,h.ext.ext x,h.map.ext x,h.dec.ext x,h.exc.ext x,h.pro.ext x⟩
theorem Xk.chg{w w':World}{S T:Nat→Prop}{t:Tbl}(h:Xk w S t)(c:Chg T w w')(hd:∀ k,S k→¬ T k):Xk w' S t :=
 ⟨h.cat.chg c hd,h.cls.chg c hd,h.joi.chg c hd,h.bid.chg c hd,h.scr.chg c hd,h.sta.chg c hd,h.ign.chg c hd,h.ext.chg c hd,h.map.chg c hd,h.dec.chg c hd,h.exc.chg c hd,h.pro.chg c hd⟩
def Wk:List Sp→Int→Int
 | [],_=>0
 | s::r,c=>if s.fr≤c∧c≤s.to_ then s.val else Wk r c
theorem drop_at{α:Type}{l:List α}{i:Nat}{x:α}(h:l[i]?=some x):l.drop i=x::l.drop (i+1):=by
 obtain⟨h1,h2⟩:=Zr.1 h;rw[Zha h1,h2]
theorem Qw{S:Nat→Prop}(v:Value)(l:List Sp)(c:Int)(w:World)(h:Vp w S v l) :
 Calls prog 125 #[v,.int .i64 c] w fun e w'=>e=.returned (.int .i64 (Wk l c))∧Ext w w':=by
 obtain⟨A,C,rfl,hlC,hC⟩:=h.shape;obtain⟨n,hn⟩:=gnX (l.length);have Hn:=Y4 hn;have H:=Y4 h;unfold maxLen at hC;rw[hn]at hlC⊢;clear h hn;go_enter func125,ntmps125;go_wp2_with fail;go_loopw [9] (fun o wr=>∃ i:Nat,i≤n∧o=.int .i64 (i:Int)∧Wk l c=Wk (l.drop i) c∧Ext w wr) (fun o _=>n-(intOf o).toNat);case atStart=>exact⟨0,by omega,rfl,rfl,Yl _⟩
 obtain⟨i,hi,rfl,hv,hx⟩:=hrel;have Hv:=Y4 hv;have Hx:=Y4 hx;clear hv hx;by_cases hlt:i<n
 ·have hd:decide ((i:Int)<(n:Int))=true:=by simpa using hlt
  obtain⟨s,hs⟩:=geX (l:=l) (i:=i) (by rw[Hn.o];exact hlt);obtain⟨g,o,c',hvv,_,_,_,_,c0,c1,c2⟩:=(H.o.ext Hx.o).get hs;simp only[Ye]at hvv;obtain⟨rfl,_,rfl⟩:=hvv;have i0:(0:Int)≤(i:Int):=by omega
  have i1:(i:Int)<(n:Int):=by omega
  have Hs:=Y4 hs;clear hs;cases h1:decide (s.fr≤c)<;>cases h2:decide (c≤s.to_)
  case true.true =>
   go_wp2_with fail;go_ret;refine⟨?_,Hx.o.alloc _⟩;rw[Hv.o,drop_at Hs.o,Wk,Zjx ⟨by simpa using h1,by simpa using h2⟩];rfl
  all_goals
   have Hno:=Y4 (show Wk l c=Wk (l.drop (i+1)) c by
    rw[Hv.o,drop_at Hs.o,Wk,Zk9];simp at h1 h2;omega)
   go_wp2_with fail;go_roundw;case rel=>exact⟨i+1,by omega,by go_num,Hno.o,Hx.o.alloc _⟩
   simp[intOf];omega
 have hd:decide ((i:Int)<(n:Int))=false:=by simp;omega
 have Hend:=Y4 (show Wk l c=0 by rw[Hv.o,Zim (by rw[Hn.o];omega)];rfl);go_wp2_with fail;go_ret;exact⟨by rw[Hend.o];rfl,Hx.o⟩
def Ds:List Mp→Int→Value
 | [],_=>.slice none 0 0
 | s::r,c=>if s.fr=c then s.tv else Ds r c
def Xf:List Mp→Int→List Int
 | [],_=>[]
 | s::r,c=>if s.fr=c then s.to_ else Xf r c
theorem Qh{w:World}{S:Nat→Prop}:∀ {l:List Mp} {c:Int},(∀ m∈l,Xx w S m.tv m.to_)→Xx w S (Ds l c) (Xf l c)
 | [],_,_=>Xx.nil w S
 | s::r,c,h=>by
  unfold Ds Xf;by_cases hc:s.fr=c
  ·rw[Zjx hc,Zjx hc];exact h s (by simp)
  rw[Zk9 hc,Zk9 hc];exact Qh fun m hm=>h m (by simp[hm])
theorem Ww{S:Nat→Prop}(v:Value)(l:List Mp)(c:Int)(w:World)(h:Us w S v l) :
 Calls prog 111 #[v,.int .i64 c] w fun e w'=>e=.returned (Ds l c)∧Ext w w':=by
 obtain⟨A,C,rfl,hlC,hC⟩:=h.shape;obtain⟨n,hn⟩:=gnX (l.length);have Hn:=Y4 hn;have H:=Y4 h;unfold maxLen at hC;rw[hn]at hlC⊢;clear h hn;go_enter func111,ntmps111;go_wp2_with fail;go_loopw [9] (fun o wr=>∃ i:Nat,i≤n∧o=.int .i64 (i:Int)∧Ds l c=Ds (l.drop i) c∧Ext w wr) (fun o _=>n-(intOf o).toNat);case atStart=>exact⟨0,by omega,rfl,rfl,Yl _⟩
 obtain⟨i,hi,rfl,hv,hx⟩:=hrel;have Hv:=Y4 hv;have Hx:=Y4 hx;clear hv hx;by_cases hlt:i<n
 ·have hd:decide ((i:Int)<(n:Int))=true:=by simpa using hlt
  obtain⟨s,hs⟩:=geX (l:=l) (i:=i) (by rw[Hn.o];exact hlt);obtain⟨g,o,c',hvv,_,_,_,_,c0,c1,hti⟩:=(H.o.ext Hx.o).get hs;simp only[Ye]at hvv;obtain⟨rfl,_,rfl⟩:=hvv;obtain⟨tA,tC,htv,_,_⟩:=hti.shape;rw[htv]at c1;have i0:(0:Int)≤(i:Int):=by omega
  have i1:(i:Int)<(n:Int):=by omega
  have Hs:=Y4 hs;have Htv:=Y4 htv;clear hs hti htv;cases h1:(s.fr==c)
  case true =>
   go_wp2_with fail;go_ret;refine⟨?_,Hx.o.alloc _⟩;rw[Hv.o,drop_at Hs.o,Ds,Zjx (by simpa using h1),Htv.o];rfl
  case false =>
   have Hno:=Y4 (show Ds l c=Ds (l.drop (i+1)) c by
    rw[Hv.o,drop_at Hs.o,Ds,Zk9 (by simpa using h1)])
   go_wp2_with fail;go_roundw;case rel=>exact⟨i+1,by omega,by go_num,Hno.o,Hx.o.alloc _⟩
   simp[intOf];omega
 have hd:decide ((i:Int)<(n:Int))=false:=by simp;omega
 have Hend:=Y4 (show Ds l c=.slice none 0 0 by rw[Hv.o,Zim (by rw[Hn.o];omega)];rfl);go_wp2_with fail;go_ret;exact⟨by rw[Hend.o];rfl,Hx.o⟩
end
theorem Rm{a b:Int}(h:a=b):Ending.returned (.int .i64 a)=.returned (.int .i64 b):=by rw[h]
def Bh(c:Int):Bool:=decide (44032≤c)&&decide (c≤55203)
def Zod(c:Int):Bool:=(decide (97≤c)&&decide (c≤122))||(decide (48≤c)&&decide (c≤57))||c==45
def Ic(c:Int):Bool:=(decide (4352≤c)&&decide (c≤4370))||(decide (4449≤c)&&decide (c≤4469))||(decide (4520≤c)&&decide (c≤4546))
def Zxw(c:Int):Bool:=decide (0≤c)&&decide (c≤1114111)&&(decide (c<55296)||decide (57343<c))
theorem Jl(c:Int)(w:World):Calls prog 113 #[.int .i64 c] w fun e w'=>e=.returned (.bool (Bh c))∧w=w':=by
 go_enter func113,ntmps113;go_wp2_with fail;all_goals
  go_ret;refine⟨Eh ?_,rfl⟩;rw[Zib];simp[Bh];try omega
theorem Br(c:Int)(w:World):Calls prog 142 #[.int .i64 c] w fun e w'=>e=.returned (.bool (Zod c))∧w=w':=by
 go_enter func142,ntmps142;go_wp2_with fail;all_goals
  go_ret;refine⟨Eh ?_,rfl⟩;rw[Zib];simp[Zod];try omega
theorem Dl(c:Int)(w:World):Calls prog 145 #[.int .i64 c] w fun e w'=>e=.returned (.bool (Ic c))∧w=w':=by
 go_enter func145,ntmps145;go_wp2_with fail;all_goals
  go_ret;refine⟨Eh ?_,rfl⟩;rw[Zib];simp[Ic];try omega
theorem J2(c:Int)(w:World):Calls prog 143 #[.int .i64 c] w fun e w'=>e=.returned (.bool (Zxw c))∧w=w':=by
 go_enter func143,ntmps143;go_wp2_with fail;all_goals
  go_ret;refine⟨Eh ?_,rfl⟩;rw[Zib];simp[Zxw];try omega
def Zwi(c:Int):Int:=if Zxw c=false then 0 else if c≤127 then 1 else if c≤2047 then 2 else if c≤65535 then 3 else 4
theorem len_any(c:Int)(w:World):Calls prog 186 #[.int .i64 c] w fun e w'=>e=.returned (.int .i64 (Zwi c))∧w=w':=by
 go_enter func186,ntmps186;cases hb:Zxw c
 all_goals
  have Hb:=Y4 hb;go_wp2_with (go_at_call 143;refine(J2 _ _).mono ?_;rintro e w' ⟨rfl,rfl⟩;rw[hb])
 all_goals
  go_ret;refine⟨Rm ?_,rfl⟩;unfold Zwi;rw[Hb.o];simp;try(repeat' split)
  all_goals(simp at *;try omega)
def Ia(c:Int):Bool:=(decide (0≤c)&&decide (c≤127))||(decide (55296≤c)&&decide (c≤57343))||Bh c||Ic c
theorem Ub(c:Int)(w:World):Calls prog 141 #[.int .i64 c] w fun e w'=>e=.returned (.bool (Ia c))∧w=w':=by
 go_enter func141,ntmps141;cases hb:Bh c<;>cases hj:Ic c
 all_goals
  have Hb:=Y4 hb;have Hj:=Y4 hj;go_wp2_with (first|(go_at_call 113;refine(Jl _ _).mono ?_;rintro e w' ⟨rfl,rfl⟩;rw[hb])|(go_at_call 145;refine(Dl _ _).mono ?_;rintro e w' ⟨rfl,rfl⟩;rw[hj]))
 all_goals
  go_ret;refine⟨Eh ?_,rfl⟩;unfold Ia;rw[Hb.o,Hj.o];rw[Zib];simp;try omega
def Bz(w:World)(e:Ending)(w':World):Prop:=∃ v:Int,e=.returned (.int .i64 v)∧Ext w w'
def Ql(w:World)(e:Ending)(w':World):Prop:=∃ v:Bool,e=.returned (.bool v)∧Ext w w'
theorem Xo{S:Nat→Prop}(T:Tbl)(c:Int)(w:World)(h:Xk w S T):Calls prog 148 #[Vn T,.int .i64 c] w fun e w'=>e=.returned (.int .i64 (Wk T.cls c))∧Ext w w':=by
 unfold Vn;have H:=Y4 h;clear h;go_enter func148,ntmps148;go_wp2_with (go_at_call 125;refine(Qw _ T.cls _ _ (H.o.cls.ext (xE))).mono ?_;rintro e w1 ⟨rfl,hx1⟩);go_ret;exact⟨rfl,xE⟩
theorem Va{S:Nat→Prop}(T:Tbl)(c:Int)(w:World)(h:Xk w S T):Calls prog 266 #[Vn T,.int .i64 c] w fun e w'=>e=.returned (.int .i64 (Wk T.joi c))∧Ext w w':=by
 unfold Vn;have H:=Y4 h;clear h;go_enter func266,ntmps266;go_wp2_with (go_at_call 125;refine(Qw _ T.joi _ _ (H.o.joi.ext (xE))).mono ?_;rintro e w1 ⟨rfl,hx1⟩);go_ret;exact⟨rfl,xE⟩
theorem Qy{S:Nat→Prop}(T:Tbl)(c:Int)(w:World)(h:Xk w S T):Calls prog 87 #[Vn T,.int .i64 c] w fun e w'=>e=.returned (.bool (Wk T.ign c==1))∧Ext w w':=by
 unfold Vn;have H:=Y4 h;clear h;go_enter func87,ntmps87;go_wp2_with (go_at_call 125;refine(Qw _ T.ign _ _ (H.o.ign.ext (xE))).mono ?_;rintro e w1 ⟨rfl,hx1⟩);go_ret;exact⟨rfl,xE⟩
def Zr3(T:Tbl)(c:Int):Int:=if Zod c=true∨c=46∨Bh c=true then 1 else if 65≤c∧c≤90 then 3 else Wk T.sta c
theorem Qe{S:Nat→Prop}(T:Tbl)(c:Int)(w:World)(h:Xk w S T):Calls prog 144 #[Vn T,.int .i64 c] w fun e w'=>e=.returned (.int .i64 (Zr3 T c))∧Ext w w':=by
 unfold Vn;have H:=Y4 h;clear h;go_enter func144,ntmps144;cases hl:Zod c<;>cases hd:(c==46)<;>cases hs:Bh c<;>cases h1:decide (65≤c)<;>cases h2:decide (c≤90)
 all_goals
  have Hl:=Y4 hl;have Hs:=Y4 hs;have Hd:=Y4 hd;have H1:=Y4 h1;have H2:=Y4 h2;go_wp2_with (first|(go_at_call 125;refine(Qw _ T.sta _ _ (H.o.sta.ext (xE))).mono ?_;rintro e w1 ⟨rfl,hx1⟩)|(go_at_call 113;refine(Jl _ _).mono ?_;rintro e w' ⟨rfl,rfl⟩;rw[hs])|(go_at_call 142;refine(Br _ _).mono ?_;rintro e w' ⟨rfl,rfl⟩;rw[hl]));go_ret;refine⟨Rm ?_,xE⟩;have g1:=Hd.o;have g2:=H1.o;have g3:=H2.o;simp at g1 g2 g3;unfold Zr3;rw[Hl.o,Hs.o];simp[g1];try omega
theorem Sk{S:Nat→Prop}(T:Tbl)(c:Int)(w:World)(h:Xk w S T):Calls prog 232 #[Vn T,.int .i64 c] w (Bz w):=by
 unfold Vn;have H:=Y4 h;clear h;go_enter func232,ntmps232;go_wp2_with (first|(go_at_call 125;refine(Qw _ T.cat _ _ (H.o.cat.ext (xE))).mono ?_;rintro e w1 ⟨rfl,hx1⟩)|(go_at_call 113;refine(Jl _ _).mono ?_;rintro e w' ⟨rfl,rfl⟩)|(go_at_call 145;refine(Dl _ _).mono ?_;rintro e w' ⟨rfl,rfl⟩));all_goals(go_ret;exact⟨_,rfl,xE⟩)
theorem Pe{S:Nat→Prop}(T:Tbl)(c:Int)(w:World)(h:Xk w S T):Calls prog 257 #[Vn T,.int .i64 c] w (Bz w):=by
 unfold Vn;have H:=Y4 h;clear h;go_enter func257,ntmps257;go_wp2_with (go_at_call 125;refine(Qw _ T.bid _ _ (H.o.bid.ext (xE))).mono ?_;rintro e w1 ⟨rfl,hx1⟩);all_goals(go_ret;exact⟨_,rfl,xE⟩)
theorem Pq{S:Nat→Prop}(T:Tbl)(c:Int)(w:World)(h:Xk w S T):Calls prog 239 #[Vn T,.int .i64 c] w (Bz w):=by
 unfold Vn;have H:=Y4 h;clear h;go_enter func239,ntmps239;go_wp2_with (first|(go_at_call 125;refine(Qw _ T.scr _ _ (H.o.scr.ext (xE))).mono ?_;rintro e w1 ⟨rfl,hx1⟩)|(go_at_call 113;refine(Jl _ _).mono ?_;rintro e w' ⟨rfl,rfl⟩)|(go_at_call 145;refine(Dl _ _).mono ?_;rintro e w' ⟨rfl,rfl⟩));all_goals(go_ret;exact⟨_,rfl,xE⟩)
theorem Zza{S:Nat→Prop}(T:Tbl)(c:Int)(w:World)(h:Xk w S T):Calls prog 238 #[Vn T,.int .i64 c] w fun e w'=>e=.returned (Ds T.ext c)∧Ext w w':=by
 unfold Vn;have H:=Y4 h;clear h;go_enter func238,ntmps238;go_wp2_with (go_at_call 111;refine(Ww _ T.ext _ _ (H.o.ext.ext (xE))).mono ?_;rintro e w1 ⟨rfl,hx1⟩);go_ret;exact⟨rfl,xE⟩
theorem Zsh{S:Nat→Prop}(T:Tbl)(c:Int)(w:World)(h:Xk w S T):Calls prog 258 #[Vn T,.int .i64 c] w fun e w'=>e=.returned (Ds T.pro c)∧Ext w w':=by
 unfold Vn;have H:=Y4 h;clear h;go_enter func258,ntmps258;go_wp2_with (go_at_call 111;refine(Ww _ T.pro _ _ (H.o.pro.ext (xE))).mono ?_;rintro e w1 ⟨rfl,hx1⟩);go_ret;exact⟨rfl,xE⟩
def Tl(T:Tbl)(c:Int):List Int:=if 65≤c∧c≤90 then[c+32]else Xf T.map c
theorem Wr(w:World)(z:Int)(t:TypeId)(g:Nat)(hg:w.heap.size=g):Xx (w.alloc (.cells #[.int .i64 z] t)) (fun _=>True) (.slice (some ⟨g,0,none⟩) 1 1) [z]:=by
 subst hg;have h1:(w.alloc (.cells #[.int .i64 z] t)).heap[w.heap.size]?=some (.cells #[.int .i64 z] t):=Zjc w _;refine⟨by simp,_,_,rfl,Yn _,by unfold maxLen;omega,fun _=>⟨_,_,rfl,trivial,(Zjz.1 h1).1,fun j u hu=>?_⟩⟩;simp only[World.cell?,h1];rw[Zjd,← hu];simp
theorem Xx.any{w:World}{S:Nat→Prop}{v:Value}{l:List Int}(h:Xx w S v l):Xx w (fun _=>True) v l:=Rd.mono h fun _ _ _=>trivial
theorem Zpp{S:Nat→Prop}(T:Tbl)(c:Int)(w:World)(h:Xk w S T):Calls prog 225 #[Vn T,.int .i64 c] w fun e w'=>∃ v,e=.returned v∧Xx w' (fun _=>True) v (Tl T c)∧Ext w w':=by
 unfold Vn;have H:=Y4 h;clear h;go_enter func225,ntmps225;by_cases hc:65≤c∧c≤90
 ·have e1:Tl T c=[c+32]:=Zjx hc;have Hc:=Y4 e1;have q1:IntKind.i64.wrap (c+32)=c+32:=Yp _ (by omega);obtain⟨d1,d2⟩:=hc;clear e1;go_wp2_with fail;go_ret;refine⟨.slice (some ⟨_,0,none⟩) 1 1,rfl,?_,xE⟩;rw[Hc.o];exact Wr _ _ _ _ (by simp)
 have e1:Tl T c=Xf T.map c:=Zk9 hc;have Hc:=Y4 e1;have hcc:¬ (65≤c)∨¬ (c≤90):=by omega
 have Hcc:=Y4 hcc;clear e1 hc hcc;cases h1:decide (65≤c)<;>cases h2:decide (c≤90)
 case true.true=>exact absurd Hcc.o (by simp at h1 h2;omega)
 all_goals
  go_wp2_with (go_at_call 111;refine(Ww _ T.map _ _ (H.o.map.ext (xE))).mono ?_;rintro e w1 ⟨rfl,hx1⟩);go_ret;refine⟨_,rfl,?_,xE⟩;rw[Hc.o];exact(Qh (H.o.map.ext (xE)).2).any
def Zvb(l:List Int)(c:Int):Bool:=l.any (· == c)
theorem Wj{S:Nat→Prop}(T:Tbl)(c:Int)(w:World)(h:Xk w S T):Calls prog 147 #[Vn T,.int .i64 c] w fun e w'=>e=.returned (.bool (Zvb T.exc c))∧Ext w w':=by
 have he:=h.exc;clear h;obtain⟨A,C,hsv,hlC,hC⟩:=he.shape;unfold Vn;rw[hsv]at he⊢;obtain⟨n,hn⟩:=gnX (T.exc.length);have Hnn:=Y4 hn;have He:=Y4 he;unfold maxLen at hC;rw[hn]at hlC⊢;clear he hn hsv;go_enter func147,ntmps147;go_wp2_with fail;go_loopw [10] (fun o wr=>∃ i:Nat,i≤n∧o=.int .i64 (i:Int)∧Zvb (T.exc.take i) c=false∧Ext w wr) (fun o _=>n-(intOf o).toNat);case atStart=>exact⟨0,by omega,rfl,rfl,xE⟩
 obtain⟨i,hi,rfl,hno,hx⟩:=hrel;have Hno:=Y4 hno;have Hx:=Y4 hx;clear hno hx;by_cases hlt:i<n
 ·have hd:=LTd i n;have i0:(0:Int)≤(i:Int):=by omega
  have i1:(i:Int)<(n:Int):=by omega
  obtain⟨x,hs⟩:=geX (l:=(T.exc)) (i:=i) (by first|(rw[Hnn.o];exact hlt)|(have:=Hnn.o;omega));obtain⟨g,o,c',hvv,_,_,_,hgl,c0⟩:=(He.o.ext Hx.o).get hs;simp only[Ye]at hvv;obtain⟨rfl,-,rfl⟩:=hvv;have Hs:=Y4 hs;clear hs;cases h1:(x==c)
  ·have Hnx:=Y4 (show Zvb (T.exc.take (i+1)) c=false by
    have:=Hno.o;unfold Zvb at this⊢;rw[Za,Hs.o,Zgm,this];simpa using h1)
   go_wp2_with fail;go_roundw;case rel=>exact⟨i+1,by omega,by go_num,Hnx.o,(have hx:=Hx.o;xE)⟩
   simp[intOf];omega
  have Hyes:=Y4 (show Zvb T.exc c=true by
   unfold Zvb;rw[Zii];exact⟨x,Zy Hs.o,h1⟩)
  go_wp2_with fail;go_ret;exact⟨by rw[Hyes.o];rfl,(have hx:=Hx.o;xE)⟩
 have hd:=GEl i n;have Hend:=Y4 (show Zvb T.exc c=false by
  have:=Hno.o
  rwa [Zm (by rw[Hnn.o];omega)]at this)
 go_wp2_with fail;go_ret;exact⟨by rw[Hend.o];rfl,(have hx:=Hx.o;xE)⟩
section
structure G9(w:World)(g:Nat)(vs:List Value):Prop where
 lt:g<w.heap.size
 at_:∀ i v,vs[i]?=some v→w.cell? ⟨g,i,none⟩=some v
theorem G9.ext{w w':World}{g:Nat}{vs:List Value}(h:G9 w g vs)(x:Ext w w'):G9 w' g vs :=
 ⟨Zk8 h.lt x.size,fun i v hv=>(x.cell (p:=⟨g,i,none⟩) h.lt).trans (h.at_ i v hv)⟩
theorem Jc(w:World)(cs:Array Value)(t:TypeId)(g:Nat)(hg:w.heap.size=g):G9 (w.alloc (.cells cs t)) g cs.toList:=by
 subst hg;have h1:(w.alloc (.cells cs t)).heap[w.heap.size]?=some (.cells cs t):=Zjc w _;refine⟨(Zjz.1 h1).1,fun i v hv=>?_⟩;simp only[World.cell?,h1];rw[← hv];simp
def Zz2(T:Tbl):List (Value×List Sp):=[(T.catV,T.cat),(T.clsV,T.cls),(T.joiV,T.joi),(T.bidV,T.bid),(T.scrV,T.scr),(T.staV,T.sta),(T.ignV,T.ign)]
def Zzs(T:Tbl):List (Value×List Mp):=[(T.extV,T.ext),(T.mapV,T.map),(T.decV,T.dec),(T.proV,T.pro)]
theorem Zrx{w:World}{S:Nat→Prop}{T:Tbl}(h:Xk w S T):∀ p∈Zz2 T,Vp w S p.1 p.2:=by
 intro p hp;simp only[Zz2,Zg,Zh,Zin]at hp;rcases hp with rfl|rfl|rfl|rfl|rfl|rfl|rfl
 ·exact h.cat
 ·exact h.cls
 ·exact h.joi
 ·exact h.bid
 ·exact h.scr
 ·exact h.sta
 exact h.ign
theorem Zt6{w:World}{S:Nat→Prop}{T:Tbl}(h:Xk w S T):∀ p∈Zzs T,Us w S p.1 p.2:=by
 intro p hp;simp only[Zzs,Zg,Zh,Zin]at hp;rcases hp with rfl|rfl|rfl|rfl
 ·exact h.ext
 ·exact h.map
 ·exact h.dec
 exact h.pro
def Zus(T:Tbl)(w:World)(e:Ending)(w':World):Prop :=
 ∃ g1 g2:Nat,e=.returned (.tuple #[.slice (some ⟨g1,0,none⟩) 7 7,.slice (some ⟨g2,0,none⟩) 7 7])∧G9 w' g1 ((Zz2 T).map (·.1))∧G9 w' g2 ([8,254,5,11,60,4,1].map (Value.int .i64))∧Ext w w'
theorem Ny{S:Nat→Prop}(T:Tbl)(w:World)(h:Xk w S T):Calls prog 137 #[Vn T] w (Zus T w):=by
 obtain⟨A0,C0,e0,_,_⟩:=h.cat.shape;obtain⟨A1,C1,e1,_,_⟩:=h.cls.shape;obtain⟨A2,C2,e2,_,_⟩:=h.joi.shape;obtain⟨A3,C3,e3,_,_⟩:=h.bid.shape;obtain⟨A4,C4,e4,_,_⟩:=h.scr.shape;obtain⟨A5,C5,e5,_,_⟩:=h.sta.shape;obtain⟨A6,C6,e6,_,_⟩:=h.ign.shape;clear h;unfold Vn;go_enter func137,ntmps137;go_wp2_with fail;go_ret2;refine⟨w.heap.size+1,w.heap.size+2,?_,?_,?_,xE⟩
 ·simp
 ·simp only[Zz2,Zj0,Ziz,e0,e1,e2,e3,e4,e5,e6];exact(Jc _ _ _ _ (by simp)).ext ((Yl _).alloc _)
 exact Jc _ _ _ _ (by simp)
def Zqu(T:Tbl)(w:World)(e:Ending)(w':World):Prop :=
 ∃ g1:Nat,e=.returned (.slice (some ⟨g1,0,none⟩) 4 4)∧G9 w' g1 ((Zzs T).map (·.1))∧Ext w w'
theorem Uf{S:Nat→Prop}(T:Tbl)(w:World)(h:Xk w S T):Calls prog 138 #[Vn T] w (Zqu T w):=by
 obtain⟨A0,C0,e0,_,_⟩:=h.ext.shape;obtain⟨A1,C1,e1,_,_⟩:=h.map.shape;obtain⟨A2,C2,e2,_,_⟩:=h.dec.shape;obtain⟨A3,C3,e3,_,_⟩:=h.pro.shape;clear h;unfold Vn;go_enter func138,ntmps138;go_wp2_with fail;go_ret;refine⟨w.heap.size+1,?_,?_,xE⟩
 ·simp
 simp only[Zzs,Zj0,Ziz,e0,e1,e2,e3];exact Jc _ _ _ _ (by simp)
def Qj(T:Tbl):List Value:=[T.catV,T.clsV,T.joiV,T.bidV,T.scrV,T.staV,T.ignV,T.extV,T.mapV,T.decV,T.excV,T.proV]
def Wx(T:Tbl):Obj:=.cells (Qj T).toArray 34
structure J4(w:World)(b:Nat)(T:Tbl):Prop where
 lt:b<w.heap.size
 at_:∀ k,k<12→w.cell? ⟨b,k,none⟩=(Qj T)[k]?
theorem J4.ext{w w':World}{b:Nat}{T:Tbl}(h:J4 w b T)(x:Ext w w'):J4 w' b T :=
 ⟨Zk8 h.lt x.size,fun k hk=>(x.cell (p:=⟨b,k,none⟩) h.lt).trans (h.at_ k hk)⟩
theorem Xm(w:World)(T:Tbl):J4 (w.alloc (Wx T)) w.heap.size T:=by
 refine⟨by simp,fun k hk=>?_⟩;unfold Wx;rw[cell_of_row _ _ k (Qj T).toArray 34 (0,0) (Zjc w _)];simp
theorem Nl:(prog.underlying 34).map TypeDesc.isRow=some true:=by kernel_rfl
theorem Gn:(prog.info? 34).map (·.size)=some 12:=by kernel_rfl
theorem J4.range{w:World}{b:Nat}{T:Tbl}(h:J4 w b T):w.rangeAt b 0 (Qj T):=fun j v hv=>by
 rw[Zjd,h.at_ j (Zr.1 hv).1,hv]
section
variable {ops:Array Oper} {rest:List Oper} {dst:Option Nat} {x:Operand} {t:TypeId} {pos:String} {af:Array Edge} {a:Act} {w:World} {Q:Exit→Act→World→Prop} {b:Nat} {T:Tbl}
theorem Xw(hx:a.eval x=Vn T)(hK:wpList prog ops Q rest (a.put dst (.pointer (some ⟨w.heap.size,0,none⟩))) (w.alloc (Wx T))) :
 wpList prog ops Q ({dst:=dst,op:=.box 34 x,type:=t,pos:=pos,after:=af,guard:=none}::rest) a w:=by
 refine Zgr rfl fun K hK'=>?_
 unfold Oper.wp execOp;have hc:(a.eval x).cells=(Qj T).toArray:=by rw[hx];rfl
 simp only[Zhs,Instr.box,newVar,newRow,run_newObj_alloc,Zhr,Zir,hc];exact hK' _ _ hK
theorem Xz(h:J4 w b T)(hx:a.eval x=.pointer (some ⟨b,0,none⟩))(hK:wpList prog ops Q rest (a.put dst (Vn T)) w) :
 wpList prog ops Q ({dst:=dst,op:=.load 34 x,type:=t,pos:=pos,after:=af,guard:=none}::rest) a w:=by
 have hu:=Nl;rw[Zjl]at hu;obtain⟨d,hu,hd⟩:=hu;exact Zfu rfl _ x rfl b 0 hx (Qj T) d h.range hu hd (by rw[Gn];rfl) hK
end
theorem lat{W:World}{b o:Nat}{v:Value}(h:W.cell? ⟨b,o,none⟩=some v):∀ k os,(later W k os).cell? ⟨b,o,none⟩=some v:=fun k os=>(Pb W k os b o (lt_of_cell h)).trans h
theorem Vl(i:Nat)(h0:0<i)(h1:i≤9223372036854775807):IntKind.i64.wrap ((i:Int)-1)=((i-1:Nat):Int):=by
 rw[Yp _ (by omega)];omega
end
def swp(f:Int→Int)(l:List Int)(i:Nat):List Int :=
 match l[i-1]?,l[i]? with
 | some x,some y=>if 0<f y∧f y<f x then(l.set (i-1) y).set i x else l
 | _,_=>l
def Rx(f:Int→Int):List Int→Nat
 | []=>0
 | x::r=>r.countP (fun y=>decide (f y<f x))+Rx f r
theorem Tw(f:Int→Int){x y:Int}(h:f y<f x)(b:List Int):∀ a:List Int,Rx f (a++y::x::b)<Rx f (a++x::y::b)
 | []=>by
  simp only[Zo,Rx,Zi7];have h1:decide (f y<f x)=true:=Yf h;have h2:decide (f x<f y)=false:=Yg;rw[h1,h2];simp only[Zfo,Bool.false_eq_true,Zfm];omega
 | z::a=>by
  have:=Tw f h b a;simp only[List.cons_append,Rx,Zge,Zi7];omega
theorem Zls(f:Int→Int)(l:List Int)(i:Nat):(swp f l i).length=l.length:=by
 unfold swp;split
 ·split<;>simp
 rfl
theorem Zkn{f:Int→Int}{l:List Int}{i:Nat}{x y:Int}(hx:l[i-1]?=some x)(hy:l[i]?=some y)(h:¬ (0<f y∧f y<f x)):swp f l i=l:=by
 unfold swp;rw[hx,hy];simp only;rw[Zk9 h]
theorem Zro{f:Int→Int}{l:List Int}{i:Nat}{x y:Int}(hx:l[i-1]?=some x)(hy:l[i]?=some y)(h:0<f y∧f y<f x):swp f l i=(l.set (i-1) y).set i x:=by
 unfold swp;rw[hx,hy];simp only;rw[Zjx h]
theorem Zko{f:Int→Int}{l:List Int}{k:Nat}{x y:Int}(hx:l[k]?=some x)(hy:l[k+1]?=some y)(h:0<f y∧f y<f x):Rx f (swp f l (k+1))<Rx f l:=by
 rw[Zro (by simpa using hx) hy h];have hk:=(Zr.1 hy).1;have e0:l=l.take k++x::y::l.drop (k+2):=by
  apply Zhd;intro j;rw[List.getElem?_append,Zp,Zhp (by omega)];split
  ·rw[Yw,Zjx (by assumption)]
  rename_i hj;rcases Zis j (k+1)with h1|h1
  ·have:j=k:=by omega
   subst this;simp[hx]
  rcases Zis j (k+2)with h2|h2
  ·have:j=k+1:=by omega
   subst this;simp[hy]
  obtain⟨m,rfl⟩:∃ m,j=k+2+m:=⟨j-(k+2),by omega⟩;rw[show k+2+m-k=m+1+1 by omega];simp
 obtain⟨a,b,e,ha⟩:∃ a b,l=a++x::y::b∧a.length=k:=⟨l.take k,l.drop (k+2),e0,by rw[Zp];omega⟩;clear e0 hx hy hk;subst e ha;rw[show((a++x::y::b).set (a.length+1-1) y).set (a.length+1) x=a++y::x::b by simp[Zgl]];exact Tw f h.2 _ _
def Zy3(f:Int→Int)(l:List Int):Nat→List Int
 | 0=>l
 | k+1=>swp f (Zy3 f l k) (k+1)
theorem Ro(f:Int→Int)(l:List Int):∀ k,(Zy3 f l k).length=l.length
 | 0=>rfl
 | k+1=>by rw[Zy3,Zls,Ro f l k]
def Zw0(f:Int→Int)(l:List Int):List Int:=Zy3 f l (l.length-1)
def Bp(f:Int→Int)(l:List Int):List Int:=if _h:Rx f (Zw0 f l)<Rx f l then Bp f (Zw0 f l)else l
termination_by Rx f l
theorem Zss(f:Int→Int)(l:List Int):(Bp f l).length=l.length:=by
 induction l using Bp.induct f with
 | case1 l h ih =>
  rw[Bp,Zfl h,ih];exact Ro _ _ _
 | case2 l h=>rw[Bp,dif_neg h]
theorem Zpd{f:Int→Int}{l:List Int}(h:Rx f (Zw0 f l)<Rx f l):Bp f l=Bp f (Zw0 f l):=by
 rw[Bp,Zfl h]
theorem Zst{f:Int→Int}{l:List Int}(h:Zw0 f l=l):Bp f l=l:=by
 rw[Bp,dif_neg (by rw[h];omega)]
def u8L(zs:List Int):List UInt8:=zs.map fun z=>UInt8.ofNat (z%256).toNat
theorem Qg{w:World}(zs:List Int)(n:Nat)(hn:zs.length=n)(cs:Array Value)(hcs:cs=(zs.map fun z=>Value.int .u8 (z%256)).toArray) :
 (convert 224 9 (.slice (some ⟨w.heap.size,0,none⟩) n n)).run prog (w.alloc (.cells cs 5))=.ok (.string (bs (u8L zs))) (w.alloc (.cells cs 5)):=by
 subst hn hcs;have hl:zs.length=(u8L zs).length:=by simp[u8L]
 rw[hl];refine run_convert_bytes_back _ 224 9 5 ⟨w.heap.size,0,none⟩ _ (u8L zs) Zrj Zot Zln fun j hj=>?_
 rw[Ph];have h1:(w.alloc (.cells (zs.map fun z=>Value.int .u8 (z%256)).toArray 5)).heap[w.heap.size]?=some (.cells (zs.map fun z=>Value.int .u8 (z%256)).toArray 5):=Zjc w _;have hj':j<zs.length:=by rw[hl];exact hj
 simp only[World.cell?,h1];simp only[u8L,Zfz];rw[Zk0 (by omega)];simp[hj'];omega
def Nj(c:Int):List Int :=
 if Zwi c=1 then[c]
 else if Zwi c=2 then[wrap64 (192+wrap64 (c.tdiv 64)),wrap64 (128+c.tmod 64)]
 else if Zwi c=3 then[wrap64 (224+wrap64 (c.tdiv 4096)),wrap64 (128+(wrap64 (c.tdiv 64)).tmod 64),wrap64 (128+c.tmod 64)]
 else[wrap64 (240+wrap64 (c.tdiv 262144)),wrap64 (128+(wrap64 (c.tdiv 4096)).tmod 64),wrap64 (128+(wrap64 (c.tdiv 64)).tmod 64),wrap64 (128+c.tmod 64)]
theorem Zpi(c:Int):(Nj c).length≤4:=by
 unfold Nj;split
 ·simp
 split
 ·simp
 split<;>simp
theorem one_any(c:Int)(w:World):Calls prog 166 #[.int .i64 c] w fun e w'=>e=.returned (.string (bs (u8L (Nj c))))∧Ext w w':=by
 go_enter func166,ntmps166;cases h1:(Zwi c==1)
 ·cases h2:(Zwi c==2)
  ·cases h3:(Zwi c==3)
   ·have e1:Nj c=[wrap64 (240+wrap64 (c.tdiv 262144)),wrap64 (128+(wrap64 (c.tdiv 4096)).tmod 64),wrap64 (128+(wrap64 (c.tdiv 64)).tmod 64),wrap64 (128+c.tmod 64)]:=by
     simp at h1 h2 h3;unfold Nj;rw[Zk9 h1,Zk9 h2,Zk9 h3]
    have E1:=Y4 e1;have hcv:=fun w:World=>Qg (w:=w) (Nj c) 4 (by rw[e1];rfl) _ rfl
    rw[e1]at hcv;simp only[Zj0,Ziz]at hcv;clear e1;go_wp2_with (go_at_call 186;refine(len_any _ _).mono ?_;rintro e w' ⟨rfl,rfl⟩);go_ret;exact⟨by rw[E1.o];rfl,(Yl w).alloc _⟩
   have e1:Nj c=[wrap64 (224+wrap64 (c.tdiv 4096)),wrap64 (128+(wrap64 (c.tdiv 64)).tmod 64),wrap64 (128+c.tmod 64)]:=by
    simp at h1 h2 h3;unfold Nj;rw[Zk9 h1,Zk9 h2,Zjx h3]
   have E1:=Y4 e1;have hcv:=fun w:World=>Qg (w:=w) (Nj c) 3 (by rw[e1];rfl) _ rfl
   rw[e1]at hcv;simp only[Zj0,Ziz]at hcv;clear e1;go_wp2_with (go_at_call 186;refine(len_any _ _).mono ?_;rintro e w' ⟨rfl,rfl⟩);go_ret;exact⟨by rw[E1.o];rfl,(Yl w).alloc _⟩
  have e1:Nj c=[wrap64 (192+wrap64 (c.tdiv 64)),wrap64 (128+c.tmod 64)]:=by
   simp at h1 h2;unfold Nj;rw[Zk9 h1,Zjx h2]
  have E1:=Y4 e1;have hcv:=fun w:World=>Qg (w:=w) (Nj c) 2 (by rw[e1];rfl) _ rfl
  rw[e1]at hcv;simp only[Zj0,Ziz]at hcv;clear e1;go_wp2_with (go_at_call 186;refine(len_any _ _).mono ?_;rintro e w' ⟨rfl,rfl⟩);go_ret;exact⟨by rw[E1.o];rfl,(Yl w).alloc _⟩
 have e1:Nj c=[c]:=by simp at h1;unfold Nj;rw[Zjx h1]
 have E1:=Y4 e1;have hcv:=fun w:World=>Qg (w:=w) (Nj c) 1 (by rw[e1];rfl) _ rfl
 rw[e1]at hcv;simp only[Zj0,Ziz]at hcv;clear e1;go_wp2_with (go_at_call 186;refine(len_any _ _).mono ?_;rintro e w' ⟨rfl,rfl⟩);go_ret;exact⟨by rw[E1.o];rfl,(Yl w).alloc _⟩
def Lw(s:ByteArray):Nat→Int
 | 1=>if _h:0<s.size then wrap64 (s[0].toNat:Int)else 0
 | 2=>if _h:1<s.size then IntKind.i64.wrap (IntKind.i64.wrap (IntKind.i64.wrap (IntKind.i64.wrap (IntKind.i64.wrap (s[0].toNat:Int)-192)*64)+IntKind.i64.wrap (s[1].toNat:Int))-128)else 0
 | 3=>if _h:2<s.size then IntKind.i64.wrap (IntKind.i64.wrap (IntKind.i64.wrap (IntKind.i64.wrap (IntKind.i64.wrap (IntKind.i64.wrap (s[0].toNat:Int)-224)*4096)+IntKind.i64.wrap (IntKind.i64.wrap (IntKind.i64.wrap (s[1].toNat:Int)-128)*64))+IntKind.i64.wrap (s[2].toNat:Int))-128)else 0
 | 4=>if _h:3<s.size then IntKind.i64.wrap (IntKind.i64.wrap (IntKind.i64.wrap (IntKind.i64.wrap (IntKind.i64.wrap (IntKind.i64.wrap (IntKind.i64.wrap (s[0].toNat:Int)-240)*262144)+IntKind.i64.wrap (IntKind.i64.wrap (IntKind.i64.wrap (s[1].toNat:Int)-128)*4096))+IntKind.i64.wrap (IntKind.i64.wrap (IntKind.i64.wrap (s[2].toNat:Int)-128)*64))+IntKind.i64.wrap (s[3].toNat:Int))-128)else 0
 | _=>0
def Gp(s:ByteArray)(k:Nat):Bool:=(Zwi (Lw s k)==(k:Int))&&((bs (u8L (Nj (Lw s k)))).toList==(s.extract 0 k).toList)
def Ul(s:ByteArray):Nat :=
 if 1≤s.size∧Gp s 1=true then 1 else if 2≤s.size∧Gp s 2=true then 2 else if 3≤s.size∧Gp s 3=true then 3 else if 4≤s.size∧Gp s 4=true then 4 else 0
theorem Gq(s:ByteArray)(k:Nat)(h1:1≤k)(h4:k≤4)(hs:k≤s.size)(hy:Gp s k=true)(hall:∀ j,1≤j→j<k→j≤s.size→Gp s j=false):Ul s=k:=by
 have hn:∀ j,1≤j→j<k→¬ (j≤s.size∧Gp s j=true):=fun j a b c=>by rw[hall j a b c.1]at c;exact absurd c.2 (by simp)
 unfold Ul;rcases(show k=1∨k=2∨k=3∨k=4 by omega)with rfl|rfl|rfl|rfl
 ·rw[Zjx ⟨hs,hy⟩]
 ·rw[Zk9 (hn 1 (by omega) (by omega)),Zjx ⟨hs,hy⟩]
 ·rw[Zk9 (hn 1 (by omega) (by omega)),Zk9 (hn 2 (by omega) (by omega)),Zjx ⟨hs,hy⟩]
 rw[Zk9 (hn 1 (by omega) (by omega)),Zk9 (hn 2 (by omega) (by omega)),Zk9 (hn 3 (by omega) (by omega)),Zjx ⟨hs,hy⟩]
theorem Ztz(s:ByteArray)(k:Nat)(h1:1≤k)(h5:k≤5)(hs:¬ (k≤4∧k≤s.size))(hall:∀ j,1≤j→j<k→j≤s.size→Gp s j=false):Ul s=0:=by
 have hn:∀ j,1≤j→j≤4→¬ (j≤s.size∧Gp s j=true):=fun j a b c=>by
  by_cases hj:j<k
  ·rw[hall j a hj c.1]at c;exact absurd c.2 (by simp)
  omega
 unfold Ul;rw[Zk9 (hn 1 (by omega) (by omega)),Zk9 (hn 2 (by omega) (by omega)),Zk9 (hn 3 (by omega) (by omega)),Zk9 (hn 4 (by omega) (by omega))]
theorem Zu9(s:ByteArray):Ul s≤s.size:=by
 unfold Ul;split
 ·omega
 split
 ·omega
 split
 ·omega
 split<;>omega
def Ob(s:ByteArray):Int:=Lw s (Ul s)
theorem first_any(s:ByteArray)(hs:s.size≤maxLen)(w:World):Calls prog 246 #[.string s] w fun e w'=>e=.returned (.tuple #[.int .i64 (Ob s),.int .i64 (Ul s:Int)])∧Ext w w':=by
 unfold Ob;unfold maxLen at hs;go_enter func246,ntmps246;go_wp2_with fail;go_loopw [4] (fun o wr=>∃ k:Nat,1≤k∧k≤5∧o=.int .i64 (k:Int)∧Aside (∀ j,1≤j→j<k→j≤s.size→Gp s j=false)∧Ext w wr) (fun o _=>5-(intOf o).toNat);case atStart=>exact⟨1,by omega,by omega,rfl,fun j h1 h2 _=>by omega,Yl _⟩
 obtain⟨k,hk1,hk5,rfl,hall,hx⟩:=hrel;have Hall:=Zj7 hall.out;have Hx:=Zj7 hx;clear hx hall;by_cases hlt:k≤4∧k≤s.size
 ·obtain⟨h4,hsz⟩:=hlt;have d1:decide ((k:Int)≤(4:Int))=true:=Yf;have d2:decide ((k:Int)≤(s.size:Int))=true:=Yf;rcases(show k=1∨k=2∨k=3∨k=4 by omega)with rfl|rfl|rfl|rfl
  ·have p0:0<s.size:=by omega
   go_wp2_with fail;obtain⟨V,hV⟩:∃ V:Int,Lw s 1=V:=⟨_,rfl⟩;rw[show wrap64 (s[0].toNat:Int)=V from by rw[← hV];simp only[Lw];rw[Zfl p0]];have HV:=Zj7 hV;clear hV;cases q1:(Zwi V==(1:Int))
   ·have Hno:=Zj7 (show Gp s 1=false by unfold Gp;rw[HV.out,show((1:Nat):Int)=(1:Int) from rfl,q1];rfl);have hun:=Yb;refine Y8 (by kernel_rfl) (by kernel_rfl) ?_;repeat((with_reducible refine Yu ?_);intro K hK;go_simp;first|((with_reducible refine hK _ ?_);clear hK K)|(apply Exists.intro;refine⟨fun _=>?_,hK _ ?_⟩;(first|(go_at_call 186;exact Xq (len_any _ _))|(go_at_call 166;exact Xy (one_any _ _)));clear hK K))
    (with_reducible refine Yt ?_)
    intro w3 hy3;clear hun;try simp only[Yc]
    have hx:=Hx.out;go_wp2_with fail;refine⟨⟨1+1,by omega,by omega,rfl,fun j h1 h2 h3=>?_,xE⟩,by simp[intOf]⟩;rcases(show j<1∨j=1 by omega)with h|rfl
    ·exact Hall.out j h1 h h3
    exact Hno.out
   cases q2:((bs (u8L (Nj V))).toList==(s.extract 0 1).toList)
   ·have Hno:=Zj7 (show Gp s 1=false by unfold Gp;rw[HV.out,q2];simp);have hun:=Yb;refine Y8 (by kernel_rfl) (by kernel_rfl) ?_;repeat((with_reducible refine Yu ?_);intro K hK;go_simp;first|((with_reducible refine hK _ ?_);clear hK K)|(apply Exists.intro;refine⟨fun _=>?_,hK _ ?_⟩;(first|(go_at_call 186;exact Xq (len_any _ _))|(go_at_call 166;exact Xy (one_any _ _)));clear hK K))
    (with_reducible refine Yt ?_)
    intro w3 hy3;clear hun;try simp only[Yc]
    have hx:=Hx.out;go_wp2_with fail;refine⟨⟨1+1,by omega,by omega,rfl,fun j h1 h2 h3=>?_,xE⟩,by simp[intOf]⟩;rcases(show j<1∨j=1 by omega)with h|rfl
    ·exact Hall.out j h1 h h3
    exact Hno.out
   have Hyes:=Zj7 (show Gp s 1=true by unfold Gp;rw[HV.out,q2];simp at q1⊢;exact q1);have hun:=Yb;refine Y8 (by kernel_rfl) (by kernel_rfl) ?_;repeat((with_reducible refine Yu ?_);intro K hK;go_simp;first|((with_reducible refine hK _ ?_);clear hK K)|(apply Exists.intro;refine⟨fun _=>?_,hK _ ?_⟩;(first|(go_at_call 186;exact Xq (len_any _ _))|(go_at_call 166;exact Xy (one_any _ _)));clear hK K))
   (with_reducible refine Yt ?_)
   intro w3 hy3;clear hun;try simp only[Yc]
   have hx:=Hx.out;go_wp2_with fail;go_ret2;exact⟨by rw[Gq s 1 (by omega) (by omega) hsz Hyes.out Hall.out,HV.out];rfl,xE⟩
  ·have p0:0<s.size:=by omega
   have p1:1<s.size:=by omega
   have r1:(1:Int)<(s.size:Int):=by omega
   have hun:=Yb;go_wp2_with fail;refine Y8 (by kernel_rfl) (by kernel_rfl) ?_;repeat((with_reducible refine Yu ?_);intro K hK;go_simp;first|((with_reducible refine hK _ ?_);clear hK K)|(apply Exists.intro;refine⟨fun _=>?_,hK _ ?_⟩;(first|(go_at_call 186;exact Xq (len_any _ _))|(go_at_call 166;exact Xy (one_any _ _)));clear hK K))
   (with_reducible refine Yt ?_)
   intro w2 hy;clear hun;try simp only[Yc]
   go_wp2_with fail;obtain⟨V,hV⟩:∃ V:Int,Lw s 2=V:=⟨_,rfl⟩;rw[show IntKind.i64.wrap (IntKind.i64.wrap (IntKind.i64.wrap (IntKind.i64.wrap (IntKind.i64.wrap (s[0].toNat:Int)-192)*64)+IntKind.i64.wrap (s[1].toNat:Int))-128)=V from by rw[← hV];simp only[Lw];rw[Zfl p1]];have HV:=Zj7 hV;clear hV;cases q1:(Zwi V==(2:Int))
   ·have Hno:=Zj7 (show Gp s 2=false by unfold Gp;rw[HV.out,show((2:Nat):Int)=(2:Int) from rfl,q1];rfl);have hun:=Yb;refine Y8 (by kernel_rfl) (by kernel_rfl) ?_;repeat((with_reducible refine Yu ?_);intro K hK;go_simp;first|((with_reducible refine hK _ ?_);clear hK K)|(apply Exists.intro;refine⟨fun _=>?_,hK _ ?_⟩;(first|(go_at_call 186;exact Xq (len_any _ _))|(go_at_call 166;exact Xy (one_any _ _)));clear hK K))
    (with_reducible refine Yt ?_)
    intro w3 hy3;clear hun;try simp only[Yc]
    have hx:=Hx.out;go_wp2_with fail;refine⟨⟨2+1,by omega,by omega,rfl,fun j h1 h2 h3=>?_,xE⟩,by simp[intOf]⟩;rcases(show j<2∨j=2 by omega)with h|rfl
    ·exact Hall.out j h1 h h3
    exact Hno.out
   cases q2:((bs (u8L (Nj V))).toList==(s.extract 0 2).toList)
   ·have Hno:=Zj7 (show Gp s 2=false by unfold Gp;rw[HV.out,q2];simp);have hun:=Yb;refine Y8 (by kernel_rfl) (by kernel_rfl) ?_;repeat((with_reducible refine Yu ?_);intro K hK;go_simp;first|((with_reducible refine hK _ ?_);clear hK K)|(apply Exists.intro;refine⟨fun _=>?_,hK _ ?_⟩;(first|(go_at_call 186;exact Xq (len_any _ _))|(go_at_call 166;exact Xy (one_any _ _)));clear hK K))
    (with_reducible refine Yt ?_)
    intro w3 hy3;clear hun;try simp only[Yc]
    have hx:=Hx.out;go_wp2_with fail;refine⟨⟨2+1,by omega,by omega,rfl,fun j h1 h2 h3=>?_,xE⟩,by simp[intOf]⟩;rcases(show j<2∨j=2 by omega)with h|rfl
    ·exact Hall.out j h1 h h3
    exact Hno.out
   have Hyes:=Zj7 (show Gp s 2=true by unfold Gp;rw[HV.out,q2];simp at q1⊢;exact q1);have hun:=Yb;refine Y8 (by kernel_rfl) (by kernel_rfl) ?_;repeat((with_reducible refine Yu ?_);intro K hK;go_simp;first|((with_reducible refine hK _ ?_);clear hK K)|(apply Exists.intro;refine⟨fun _=>?_,hK _ ?_⟩;(first|(go_at_call 186;exact Xq (len_any _ _))|(go_at_call 166;exact Xy (one_any _ _)));clear hK K))
   (with_reducible refine Yt ?_)
   intro w3 hy3;clear hun;try simp only[Yc]
   have hx:=Hx.out;go_wp2_with fail;go_ret2;exact⟨by rw[Gq s 2 (by omega) (by omega) hsz Hyes.out Hall.out,HV.out];rfl,xE⟩
  ·have p0:0<s.size:=by omega
   have p1:1<s.size:=by omega
   have r1:(1:Int)<(s.size:Int):=by omega
   have p2:2<s.size:=by omega
   have r2:(2:Int)<(s.size:Int):=by omega
   have hun:=Yb;go_wp2_with fail;refine Y8 (by kernel_rfl) (by kernel_rfl) ?_;repeat((with_reducible refine Yu ?_);intro K hK;go_simp;first|((with_reducible refine hK _ ?_);clear hK K)|(apply Exists.intro;refine⟨fun _=>?_,hK _ ?_⟩;(first|(go_at_call 186;exact Xq (len_any _ _))|(go_at_call 166;exact Xy (one_any _ _)));clear hK K))
   (with_reducible refine Yt ?_)
   intro w2 hy;clear hun;try simp only[Yc]
   go_wp2_with fail;obtain⟨V,hV⟩:∃ V:Int,Lw s 3=V:=⟨_,rfl⟩;rw[show IntKind.i64.wrap (IntKind.i64.wrap (IntKind.i64.wrap (IntKind.i64.wrap (IntKind.i64.wrap (IntKind.i64.wrap (s[0].toNat:Int)-224)*4096)+IntKind.i64.wrap (IntKind.i64.wrap (IntKind.i64.wrap (s[1].toNat:Int)-128)*64))+IntKind.i64.wrap (s[2].toNat:Int))-128)=V from by rw[← hV];simp only[Lw];rw[Zfl p2]];have HV:=Zj7 hV;clear hV;cases q1:(Zwi V==(3:Int))
   ·have Hno:=Zj7 (show Gp s 3=false by unfold Gp;rw[HV.out,show((3:Nat):Int)=(3:Int) from rfl,q1];rfl);have hun:=Yb;refine Y8 (by kernel_rfl) (by kernel_rfl) ?_;repeat((with_reducible refine Yu ?_);intro K hK;go_simp;first|((with_reducible refine hK _ ?_);clear hK K)|(apply Exists.intro;refine⟨fun _=>?_,hK _ ?_⟩;(first|(go_at_call 186;exact Xq (len_any _ _))|(go_at_call 166;exact Xy (one_any _ _)));clear hK K))
    (with_reducible refine Yt ?_)
    intro w3 hy3;clear hun;try simp only[Yc]
    have hx:=Hx.out;go_wp2_with fail;refine⟨⟨3+1,by omega,by omega,rfl,fun j h1 h2 h3=>?_,xE⟩,by simp[intOf]⟩;rcases(show j<3∨j=3 by omega)with h|rfl
    ·exact Hall.out j h1 h h3
    exact Hno.out
   cases q2:((bs (u8L (Nj V))).toList==(s.extract 0 3).toList)
   ·have Hno:=Zj7 (show Gp s 3=false by unfold Gp;rw[HV.out,q2];simp);have hun:=Yb;refine Y8 (by kernel_rfl) (by kernel_rfl) ?_;repeat((with_reducible refine Yu ?_);intro K hK;go_simp;first|((with_reducible refine hK _ ?_);clear hK K)|(apply Exists.intro;refine⟨fun _=>?_,hK _ ?_⟩;(first|(go_at_call 186;exact Xq (len_any _ _))|(go_at_call 166;exact Xy (one_any _ _)));clear hK K))
    (with_reducible refine Yt ?_)
    intro w3 hy3;clear hun;try simp only[Yc]
    have hx:=Hx.out;go_wp2_with fail;refine⟨⟨3+1,by omega,by omega,rfl,fun j h1 h2 h3=>?_,xE⟩,by simp[intOf]⟩;rcases(show j<3∨j=3 by omega)with h|rfl
    ·exact Hall.out j h1 h h3
    exact Hno.out
   have Hyes:=Zj7 (show Gp s 3=true by unfold Gp;rw[HV.out,q2];simp at q1⊢;exact q1);have hun:=Yb;refine Y8 (by kernel_rfl) (by kernel_rfl) ?_;repeat((with_reducible refine Yu ?_);intro K hK;go_simp;first|((with_reducible refine hK _ ?_);clear hK K)|(apply Exists.intro;refine⟨fun _=>?_,hK _ ?_⟩;(first|(go_at_call 186;exact Xq (len_any _ _))|(go_at_call 166;exact Xy (one_any _ _)));clear hK K))
   (with_reducible refine Yt ?_)
   intro w3 hy3;clear hun;try simp only[Yc]
   have hx:=Hx.out;go_wp2_with fail;go_ret2;exact⟨by rw[Gq s 3 (by omega) (by omega) hsz Hyes.out Hall.out,HV.out];rfl,xE⟩
  have p0:0<s.size:=by omega
  have p1:1<s.size:=by omega
  have r1:(1:Int)<(s.size:Int):=by omega
  have p2:2<s.size:=by omega
  have r2:(2:Int)<(s.size:Int):=by omega
  have p3:3<s.size:=by omega
  have r3:(3:Int)<(s.size:Int):=by omega
  have hun:=Yb;go_wp2_with fail;refine Y8 (by kernel_rfl) (by kernel_rfl) ?_;repeat((with_reducible refine Yu ?_);intro K hK;go_simp;first|((with_reducible refine hK _ ?_);clear hK K)|(apply Exists.intro;refine⟨fun _=>?_,hK _ ?_⟩;(first|(go_at_call 186;exact Xq (len_any _ _))|(go_at_call 166;exact Xy (one_any _ _)));clear hK K))
  (with_reducible refine Yt ?_)
  intro w2 hy;clear hun;try simp only[Yc]
  go_wp2_with fail;obtain⟨V,hV⟩:∃ V:Int,Lw s 4=V:=⟨_,rfl⟩;rw[show IntKind.i64.wrap (IntKind.i64.wrap (IntKind.i64.wrap (IntKind.i64.wrap (IntKind.i64.wrap (IntKind.i64.wrap (IntKind.i64.wrap (s[0].toNat:Int)-240)*262144)+IntKind.i64.wrap (IntKind.i64.wrap (IntKind.i64.wrap (s[1].toNat:Int)-128)*4096))+IntKind.i64.wrap (IntKind.i64.wrap (IntKind.i64.wrap (s[2].toNat:Int)-128)*64))+IntKind.i64.wrap (s[3].toNat:Int))-128)=V from by rw[← hV];simp only[Lw];rw[Zfl p3]];have HV:=Zj7 hV;clear hV;cases q1:(Zwi V==(4:Int))
  ·have Hno:=Zj7 (show Gp s 4=false by unfold Gp;rw[HV.out,show((4:Nat):Int)=(4:Int) from rfl,q1];rfl);have hun:=Yb;refine Y8 (by kernel_rfl) (by kernel_rfl) ?_;repeat((with_reducible refine Yu ?_);intro K hK;go_simp;first|((with_reducible refine hK _ ?_);clear hK K)|(apply Exists.intro;refine⟨fun _=>?_,hK _ ?_⟩;(first|(go_at_call 186;exact Xq (len_any _ _))|(go_at_call 166;exact Xy (one_any _ _)));clear hK K))
   (with_reducible refine Yt ?_)
   intro w3 hy3;clear hun;try simp only[Yc]
   have hx:=Hx.out;go_wp2_with fail;refine⟨⟨4+1,by omega,by omega,rfl,fun j h1 h2 h3=>?_,xE⟩,by simp[intOf]⟩;rcases(show j<4∨j=4 by omega)with h|rfl
   ·exact Hall.out j h1 h h3
   exact Hno.out
  cases q2:((bs (u8L (Nj V))).toList==(s.extract 0 4).toList)
  ·have Hno:=Zj7 (show Gp s 4=false by unfold Gp;rw[HV.out,q2];simp);have hun:=Yb;refine Y8 (by kernel_rfl) (by kernel_rfl) ?_;repeat((with_reducible refine Yu ?_);intro K hK;go_simp;first|((with_reducible refine hK _ ?_);clear hK K)|(apply Exists.intro;refine⟨fun _=>?_,hK _ ?_⟩;(first|(go_at_call 186;exact Xq (len_any _ _))|(go_at_call 166;exact Xy (one_any _ _)));clear hK K))
   (with_reducible refine Yt ?_)
   intro w3 hy3;clear hun;try simp only[Yc]
   have hx:=Hx.out;go_wp2_with fail;refine⟨⟨4+1,by omega,by omega,rfl,fun j h1 h2 h3=>?_,xE⟩,by simp[intOf]⟩;rcases(show j<4∨j=4 by omega)with h|rfl
   ·exact Hall.out j h1 h h3
   exact Hno.out
  have Hyes:=Zj7 (show Gp s 4=true by unfold Gp;rw[HV.out,q2];simp at q1⊢;exact q1);have hun:=Yb;refine Y8 (by kernel_rfl) (by kernel_rfl) ?_;repeat((with_reducible refine Yu ?_);intro K hK;go_simp;first|((with_reducible refine hK _ ?_);clear hK K)|(apply Exists.intro;refine⟨fun _=>?_,hK _ ?_⟩;(first|(go_at_call 186;exact Xq (len_any _ _))|(go_at_call 166;exact Xy (one_any _ _)));clear hK K))
  (with_reducible refine Yt ?_)
  intro w3 hy3;clear hun;try simp only[Yc]
  have hx:=Hx.out;go_wp2_with fail;go_ret2;exact⟨by rw[Gq s 4 (by omega) (by omega) hsz Hyes.out Hall.out,HV.out];rfl,xE⟩
 have hfin:=Zj7 (Ztz s k hk1 hk5 hlt Hall.out);by_cases h4:k≤4
 ·have d1:decide ((k:Int)≤(4:Int))=true:=Yf;have d2:decide ((k:Int)≤(s.size:Int))=false:=Yg;have hx:=Hx.out;go_wp2_with fail;go_ret2;exact⟨by rw[hfin.out];rfl,xE⟩
 have d1:decide ((k:Int)≤(4:Int))=false:=Yg;have hx:=Hx.out;go_wp2_with fail;go_ret2;exact⟨by rw[hfin.out];rfl,xE⟩
