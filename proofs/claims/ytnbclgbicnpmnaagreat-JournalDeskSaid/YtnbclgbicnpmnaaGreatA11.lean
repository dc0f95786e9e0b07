/- Lemmas of this claim: RA, RB, RC, RD, Enc, RG, RH, RRp, RM, P1. Conditions: as named. -/
import Derived.Test.YtnbclgbicnpmnaaGreatA03
namespace Go.Proofs.YtnbclgbicnpmnaaGreat
open Go.RowKit Go.Sort Tryz
set_option maxHeartbeats 0
set_option maxRecDepth 100000
set_option linter.all false
section
def Xw(w:World)(S:Nat→Prop)(v:Value)(l:List Int):Prop:=Rd w S 1 v l.length (l.map (Value.int .i64))
section
variable {w w':World} {S T:Nat→Prop} {v:Value} {l:List Int}
theorem Xw.ext(h:Xw w S v l)(x:Ext w w'):Xw w' S v l:=Rd.ext h x
theorem Xw.chg(h:Xw w S v l)(c:Chg T w w')(hd:∀ k,S k→¬ T k):Xw w' S v l:=Rd.chg h c hd
theorem Xw.shape(h:Xw w S v l):∃ A c,v=.slice A l.length c∧l.length≤c∧c≤maxLen:=by
 obtain⟨_,A,c,h,h1,h2,_⟩:=h;exact⟨A,c,h,h1,h2⟩
theorem Xw.get(h:Xw w S v l){j:Nat}{x:Int}(hj:l[j]?=some x) :
 ∃ g o c,v=.slice (some ⟨g,o,none⟩) l.length c∧l.length≤c∧c≤maxLen∧S g∧g<w.heap.size∧w.cell? ⟨g,o+j,none⟩=some (.int .i64 x):=by
 obtain⟨g,o,c,h1,h2,h3,h4,h5,h6⟩:=Rd.at_ h (Zr.1 hj).1;exact⟨g,o,c,h1,h2,h3,h4,h5,h6 j _ (by rw[Zn,hj];rfl)⟩
theorem Xw.nil(w:World)(S:Nat→Prop):Xw w S (.slice none 0 0) []:=Rd.nil w S 1
end
structure Sp where
 fr:Int
 to_:Int
 val:Int
def Oa(s:Sp):List Value:=[.int .i64 s.fr,.int .i64 s.to_,.int .i64 s.val]
def Vo:List Sp→List Value
 | []=>[]
 | s::r=>Oa s++Vo r
theorem Ls:∀ l:List Sp,(Vo l).length=l.length*3
 | []=>rfl
 | n::r=>by rw[Vo,Zs,Ls r];simp[Oa];omega
theorem Bz:∀ a b:List Sp,Vo (a++b)=Vo a++Vo b
 | [],_=>rfl
 | n::r,b=>by simp[Vo,Bz r b]
theorem O2:∀ {l:List Sp} {j:Nat} {s:Sp},l[j]?=some s→(Vo l)[j*3]?=some (.int .i64 s.fr)∧(Vo l)[j*3+1]?=some (.int .i64 s.to_)∧(Vo l)[j*3+2]?=some (.int .i64 s.val)
 | m::r,0,n,h=>by
  simp only[Zx,Yc]at h;subst h;simp[Vo,Oa]
 | m::r,j+1,n,h=>by
  obtain⟨h1,h2,h3⟩:=O2 (l:=r) (j:=j) (s:=n) (by simpa using h);have hm:(Oa m).length=3:=rfl;have e:∀ k,(Vo (m::r))[(j+1)*3+k]?=(Vo r)[j*3+k]?:=fun k=>by
   rw[Vo,Zd (by omega),hm];congr 1;omega
  refine⟨?_,?_,?_⟩
  ·have:=e 0;simp only[Zfu]at this;rw[this,h1]
  ·rw[e 1,h2]
  rw[e 2,h3]
def Vh(w:World)(S:Nat→Prop)(v:Value)(l:List Sp):Prop:=Rd w S 3 v l.length (Vo l)
section
variable {w w':World} {S T:Nat→Prop} {v:Value} {l:List Sp}
theorem Vh.ext(h:Vh w S v l)(x:Ext w w'):Vh w' S v l:=Rd.ext h x
theorem Vh.chg(h:Vh w S v l)(c:Chg T w w')(hd:∀ k,S k→¬ T k):Vh w' S v l:=Rd.chg h c hd
theorem Vh.shape(h:Vh w S v l):∃ A c,v=.slice A l.length c∧l.length≤c∧c≤maxLen:=by
 obtain⟨_,A,c,h,h1,h2,_⟩:=h;exact⟨A,c,h,h1,h2⟩
theorem Vh.get(h:Vh w S v l){j:Nat}{s:Sp}(hj:l[j]?=some s) :
 ∃ g o c,v=.slice (some ⟨g,o,none⟩) l.length c∧l.length≤c∧c≤maxLen∧S g∧g<w.heap.size∧w.cell? ⟨g,o+j*3,none⟩=some (.int .i64 s.fr)∧w.cell? ⟨g,o+j*3+1,none⟩=some (.int .i64 s.to_)∧w.cell? ⟨g,o+j*3+2,none⟩=some (.int .i64 s.val):=by
 obtain⟨g,o,c,h1,h2,h3,h4,h5,h6⟩:=Rd.at_ h (Zr.1 hj).1;obtain⟨q1,q2,q3⟩:=O2 hj;exact⟨g,o,c,h1,h2,h3,h4,h5,h6 _ _ q1,by rw[Zfh];exact h6 _ _ q2,by rw[Zfh];exact h6 _ _ q3⟩
end
structure Mp where
 fr:Int
 tv:Value
 to_:List Int
def N7(s:Mp):List Value:=[.int .i64 s.fr,s.tv]
def Vp:List Mp→List Value
 | []=>[]
 | s::r=>N7 s++Vp r
theorem F9:∀ l:List Mp,(Vp l).length=l.length*2
 | []=>rfl
 | n::r=>by rw[Vp,Zs,F9 r];simp[N7];omega
theorem Gc:∀ a b:List Mp,Vp (a++b)=Vp a++Vp b
 | [],_=>rfl
 | n::r,b=>by simp[Vp,Gc r b]
theorem Uh:∀ {l:List Mp} {j:Nat} {s:Mp},l[j]?=some s→(Vp l)[j*2]?=some (.int .i64 s.fr)∧(Vp l)[j*2+1]?=some s.tv
 | m::r,0,n,h=>by
  simp only[Zx,Yc]at h;subst h;simp[Vp,N7]
 | m::r,j+1,n,h=>by
  obtain⟨h1,h2⟩:=Uh (l:=r) (j:=j) (s:=n) (by simpa using h);have hm:(N7 m).length=2:=rfl;have e:∀ k,(Vp (m::r))[(j+1)*2+k]?=(Vp r)[j*2+k]?:=fun k=>by
   rw[Vp,Zd (by omega),hm];congr 1;omega
  refine⟨?_,?_⟩
  ·have:=e 0;simp only[Zfu]at this;rw[this,h1]
  rw[e 1,h2]
def Gu(w:World)(S:Nat→Prop)(v:Value)(l:List Mp):Prop:=Rd w S 2 v l.length (Vp l)∧∀ m∈l,Xw w S m.tv m.to_
section
variable {w w':World} {S T:Nat→Prop} {v:Value} {l:List Mp}
theorem Gu.ext(h:Gu w S v l)(x:Ext w w'):Gu w' S v l:=⟨Rd.ext h.1 x,fun m hm=>(h.2 m hm).ext x⟩
theorem Gu.chg(h:Gu w S v l)(c:Chg T w w')(hd:∀ k,S k→¬ T k):Gu w' S v l:=⟨Rd.chg h.1 c hd,fun m hm=>(h.2 m hm).chg c hd⟩
theorem Gu.shape(h:Gu w S v l):∃ A c,v=.slice A l.length c∧l.length≤c∧c≤maxLen:=by
 obtain⟨⟨_,A,c,h,h1,h2,_⟩,_⟩:=h;exact⟨A,c,h,h1,h2⟩
theorem Gu.get(h:Gu w S v l){j:Nat}{s:Mp}(hj:l[j]?=some s) :
 ∃ g o c,v=.slice (some ⟨g,o,none⟩) l.length c∧l.length≤c∧c≤maxLen∧S g∧g<w.heap.size∧w.cell? ⟨g,o+j*2,none⟩=some (.int .i64 s.fr)∧w.cell? ⟨g,o+j*2+1,none⟩=some s.tv∧Xw w S s.tv s.to_:=by
 obtain⟨g,o,c,h1,h2,h3,h4,h5,h6⟩:=Rd.at_ h.1 (Zr.1 hj).1;obtain⟨q1,q2⟩:=Uh hj;exact⟨g,o,c,h1,h2,h3,h4,h5,h6 _ _ q1,by rw[Zfh];exact h6 _ _ q2,h.2 s (Zy hj)⟩
end
structure Tbl where
 catV:Value
 clsV:Value
 joiV:Value
 bidV:Value
 scrV:Value
 staV:Value
 ignV:Value
 extV:Value
 mapV:Value
 decV:Value
 excV:Value
 proV:Value
 cat:List Sp
 cls:List Sp
 joi:List Sp
 bid:List Sp
 scr:List Sp
 sta:List Sp
 ign:List Sp
 ext:List Mp
 map:List Mp
 dec:List Mp
 exc:List Int
 pro:List Mp
def Vg(t:Tbl):Value:=.agg #[t.catV,t.clsV,t.joiV,t.bidV,t.scrV,t.staV,t.ignV,t.extV,t.mapV,t.decV,t.excV,t.proV]
structure Xg(w:World)(S:Nat→Prop)(t:Tbl):Prop where
 cat:Vh w S t.catV t.cat
 cls:Vh w S t.clsV t.cls
 joi:Vh w S t.joiV t.joi
 bid:Vh w S t.bidV t.bid
 scr:Vh w S t.scrV t.scr
 sta:Vh w S t.staV t.sta
 ign:Vh w S t.ignV t.ign
 ext:Gu w S t.extV t.ext
 map:Gu w S t.mapV t.map
 dec:Gu w S t.decV t.dec
 exc:Xw w S t.excV t.exc
 pro:Gu w S t.proV t.pro
theorem Xg.up{w w':World}{S:Nat→Prop}{t:Tbl}(h:Xg w S t)(x:Ext w w'):Xg w' S t :=
 ⟨h.cat.ext x,h.cls.ext x,h.joi.ext x,h.bid.ext x,h.scr.ext x,h.sta.ext x,h.ign.ext x,h.ext.ext x,h.map.ext x,h.dec.ext x,h.exc.ext x,h.pro.ext x⟩
theorem Xg.chg{w w':World}{S T:Nat→Prop}{t:Tbl}(h:Xg w S t)(c:Chg T w w')(hd:∀ k,S k→¬ T k):Xg w' S t :=
 ⟨h.cat.chg c hd,h.cls.chg c hd,h.joi.chg c hd,h.bid.chg c hd,h.scr.chg c hd,h.sta.chg c hd,h.ign.chg c hd,h.ext.chg c hd,h.map.chg c hd,h.dec.chg c hd,h.exc.chg c hd,h.pro.chg c hd⟩
def Wk:List Sp→Int→Int
 | [],_=>0
 | s::r,c=>if s.fr≤c∧c≤s.to_ then s.val else Wk r c
theorem drop_at{α:Type}{l:List α}{i:Nat}{x:α}(h:l[i]?=some x):l.drop i=x::l.drop (i+1):=by
 obtain⟨h1,h2⟩:=Zr.1 h;rw[Zep h1,h2]
theorem Qw{S:Nat→Prop}(v:Value)(l:List Sp)(c:Int)(w:World)(h:Vh w S v l) :
 Calls prog 125 #[v,.int .i64 c] w fun e w'=>e=.returned (.int .i64 (Wk l c))∧Ext w w':=by
 obtain⟨A,C,rfl,hlC,hC⟩:=h.shape;obtain⟨n,hn⟩:=gnX (l.length);have Hn:=Y8 hn;have H:=Y8 h;unfold maxLen at hC;rw[hn]at hlC⊢;clear h hn;go_enter func125,ntmps125;go_wp2_with fail;go_loopw [9] (fun o wr=>∃ i:Nat,i≤n∧o=.int .i64 (i:Int)∧Wk l c=Wk (l.drop i) c∧Ext w wr) (fun o _=>n-(intOf o).toNat);case atStart=>exact⟨0,by omega,rfl,rfl,Yk _⟩
 obtain⟨i,hi,rfl,hv,hx⟩:=hrel;have Hv:=Y8 hv;have Hx:=Y8 hx;clear hv hx;by_cases hlt:i<n
 ·have hd:decide ((i:Int)<(n:Int))=true:=by simpa using hlt
  obtain⟨s,hs⟩:=geX (l:=l) (i:=i) (by rw[Hn.o];exact hlt);obtain⟨g,o,c',hvv,_,_,_,_,c0,c1,c2⟩:=(H.o.ext Hx.o).get hs;simp only[Yd]at hvv;obtain⟨rfl,_,rfl⟩:=hvv;have i0:(0:Int)≤(i:Int):=by omega
  have i1:(i:Int)<(n:Int):=by omega
  have Hs:=Y8 hs;clear hs;cases h1:decide (s.fr≤c)<;>cases h2:decide (c≤s.to_)
  case true.true =>
   go_wp2_with fail;go_ret;refine⟨?_,Hx.o.alloc _⟩;rw[Hv.o,drop_at Hs.o,Wk,Zgn ⟨by simpa using h1,by simpa using h2⟩];rfl
  all_goals
   have Hno:=Y8 (show Wk l c=Wk (l.drop (i+1)) c by
    rw[Hv.o,drop_at Hs.o,Wk,Zgq];simp at h1 h2;omega)
   go_wp2_with fail;go_roundw;case rel=>exact⟨i+1,by omega,by go_num,Hno.o,Hx.o.alloc _⟩
   simp[intOf];omega
 have hd:decide ((i:Int)<(n:Int))=false:=by simp;omega
 have Hend:=Y8 (show Wk l c=0 by rw[Hv.o,Zf0 (by rw[Hn.o];omega)];rfl);go_wp2_with fail;go_ret;exact⟨by rw[Hend.o];rfl,Hx.o⟩
def Fv:List Mp→Int→Value
 | [],_=>.slice none 0 0
 | s::r,c=>if s.fr=c then s.tv else Fv r c
def Xb:List Mp→Int→List Int
 | [],_=>[]
 | s::r,c=>if s.fr=c then s.to_ else Xb r c
theorem Qi{w:World}{S:Nat→Prop}:∀ {l:List Mp} {c:Int},(∀ m∈l,Xw w S m.tv m.to_)→Xw w S (Fv l c) (Xb l c)
 | [],_,_=>Xw.nil w S
 | s::r,c,h=>by
  unfold Fv Xb;by_cases hc:s.fr=c
  ·rw[Zgn hc,Zgn hc];exact h s (by simp)
  rw[Zgq hc,Zgq hc];exact Qi fun m hm=>h m (by simp[hm])
theorem Wy{S:Nat→Prop}(v:Value)(l:List Mp)(c:Int)(w:World)(h:Gu w S v l) :
 Calls prog 111 #[v,.int .i64 c] w fun e w'=>e=.returned (Fv l c)∧Ext w w':=by
 obtain⟨A,C,rfl,hlC,hC⟩:=h.shape;obtain⟨n,hn⟩:=gnX (l.length);have Hn:=Y8 hn;have H:=Y8 h;unfold maxLen at hC;rw[hn]at hlC⊢;clear h hn;go_enter func111,ntmps111;go_wp2_with fail;go_loopw [9] (fun o wr=>∃ i:Nat,i≤n∧o=.int .i64 (i:Int)∧Fv l c=Fv (l.drop i) c∧Ext w wr) (fun o _=>n-(intOf o).toNat);case atStart=>exact⟨0,by omega,rfl,rfl,Yk _⟩
 obtain⟨i,hi,rfl,hv,hx⟩:=hrel;have Hv:=Y8 hv;have Hx:=Y8 hx;clear hv hx;by_cases hlt:i<n
 ·have hd:decide ((i:Int)<(n:Int))=true:=by simpa using hlt
  obtain⟨s,hs⟩:=geX (l:=l) (i:=i) (by rw[Hn.o];exact hlt);obtain⟨g,o,c',hvv,_,_,_,_,c0,c1,hti⟩:=(H.o.ext Hx.o).get hs;simp only[Yd]at hvv;obtain⟨rfl,_,rfl⟩:=hvv;obtain⟨tA,tC,htv,_,_⟩:=hti.shape;rw[htv]at c1;have i0:(0:Int)≤(i:Int):=by omega
  have i1:(i:Int)<(n:Int):=by omega
  have Hs:=Y8 hs;have Htv:=Y8 htv;clear hs hti htv;cases h1:(s.fr==c)
  case true =>
   go_wp2_with fail;go_ret;refine⟨?_,Hx.o.alloc _⟩;rw[Hv.o,drop_at Hs.o,Fv,Zgn (by simpa using h1),Htv.o];rfl
  case false =>
   have Hno:=Y8 (show Fv l c=Fv (l.drop (i+1)) c by
    rw[Hv.o,drop_at Hs.o,Fv,Zgq (by simpa using h1)])
   go_wp2_with fail;go_roundw;case rel=>exact⟨i+1,by omega,by go_num,Hno.o,Hx.o.alloc _⟩
   simp[intOf];omega
 have hd:decide ((i:Int)<(n:Int))=false:=by simp;omega
 have Hend:=Y8 (show Fv l c=.slice none 0 0 by rw[Hv.o,Zf0 (by rw[Hn.o];omega)];rfl);go_wp2_with fail;go_ret;exact⟨by rw[Hend.o];rfl,Hx.o⟩
end
theorem Tp{a b:Int}(h:a=b):Ending.returned (.int .i64 a)=.returned (.int .i64 b):=by rw[h]
def Ee(c:Int):Bool:=decide (44032≤c)&&decide (c≤55203)
def Zkw(c:Int):Bool:=(decide (97≤c)&&decide (c≤122))||(decide (48≤c)&&decide (c≤57))||c==45
def Zzh(c:Int):Bool:=(decide (4352≤c)&&decide (c≤4370))||(decide (4449≤c)&&decide (c≤4469))||(decide (4520≤c)&&decide (c≤4546))
def Zw1(c:Int):Bool:=decide (0≤c)&&decide (c≤1114111)&&(decide (c<55296)||decide (57343<c))
theorem Ja(c:Int)(w:World):Calls prog 113 #[.int .i64 c] w fun e w'=>e=.returned (.bool (Ee c))∧w=w':=by
 go_enter func113,ntmps113;go_wp2_with fail;all_goals
  go_ret;refine⟨Db ?_,rfl⟩;rw[Zfd];simp[Ee];try omega
theorem En(c:Int)(w:World):Calls prog 142 #[.int .i64 c] w fun e w'=>e=.returned (.bool (Zkw c))∧w=w':=by
 go_enter func142,ntmps142;go_wp2_with fail;all_goals
  go_ret;refine⟨Db ?_,rfl⟩;rw[Zfd];simp[Zkw];try omega
theorem Fr(c:Int)(w:World):Calls prog 145 #[.int .i64 c] w fun e w'=>e=.returned (.bool (Zzh c))∧w=w':=by
 go_enter func145,ntmps145;go_wp2_with fail;all_goals
  go_ret;refine⟨Db ?_,rfl⟩;rw[Zfd];simp[Zzh];try omega
theorem Kq(c:Int)(w:World):Calls prog 143 #[.int .i64 c] w fun e w'=>e=.returned (.bool (Zw1 c))∧w=w':=by
 go_enter func143,ntmps143;go_wp2_with fail;all_goals
  go_ret;refine⟨Db ?_,rfl⟩;rw[Zfd];simp[Zw1];try omega
def Zus(c:Int):Int:=if Zw1 c=false then 0 else if c≤127 then 1 else if c≤2047 then 2 else if c≤65535 then 3 else 4
theorem len_any(c:Int)(w:World):Calls prog 186 #[.int .i64 c] w fun e w'=>e=.returned (.int .i64 (Zus c))∧w=w':=by
 go_enter func186,ntmps186;cases hb:Zw1 c
 all_goals
  have Hb:=Y8 hb;go_wp2_with (go_at_call 143;refine(Kq _ _).mono ?_;rintro e w' ⟨rfl,rfl⟩;rw[hb])
 all_goals
  go_ret;refine⟨Tp ?_,rfl⟩;unfold Zus;rw[Hb.o];simp;try(repeat' split)
  all_goals(simp at *;try omega)
def Zzf(c:Int):Bool:=(decide (0≤c)&&decide (c≤127))||(decide (55296≤c)&&decide (c≤57343))||Ee c||Zzh c
theorem Ga(c:Int)(w:World):Calls prog 141 #[.int .i64 c] w fun e w'=>e=.returned (.bool (Zzf c))∧w=w':=by
 go_enter func141,ntmps141;cases hb:Ee c<;>cases hj:Zzh c
 all_goals
  have Hb:=Y8 hb;have Hj:=Y8 hj;go_wp2_with (first|(go_at_call 113;refine(Ja _ _).mono ?_;rintro e w' ⟨rfl,rfl⟩;rw[hb])|(go_at_call 145;refine(Fr _ _).mono ?_;rintro e w' ⟨rfl,rfl⟩;rw[hj]))
 all_goals
  go_ret;refine⟨Db ?_,rfl⟩;unfold Zzf;rw[Hb.o,Hj.o];rw[Zfd];simp;try omega
def Et(w:World)(e:Ending)(w':World):Prop:=∃ v:Int,e=.returned (.int .i64 v)∧Ext w w'
def Qm(w:World)(e:Ending)(w':World):Prop:=∃ v:Bool,e=.returned (.bool v)∧Ext w w'
theorem Xl{S:Nat→Prop}(T:Tbl)(c:Int)(w:World)(h:Xg w S T):Calls prog 148 #[Vg T,.int .i64 c] w fun e w'=>e=.returned (.int .i64 (Wk T.cls c))∧Ext w w':=by
 unfold Vg;have H:=Y8 h;clear h;go_enter func148,ntmps148;go_wp2_with (go_at_call 125;refine(Qw _ T.cls _ _ (H.o.cls.ext (xE))).mono ?_;rintro e w1 ⟨rfl,hx1⟩);go_ret;exact⟨rfl,xE⟩
theorem V1{S:Nat→Prop}(T:Tbl)(c:Int)(w:World)(h:Xg w S T):Calls prog 266 #[Vg T,.int .i64 c] w fun e w'=>e=.returned (.int .i64 (Wk T.joi c))∧Ext w w':=by
 unfold Vg;have H:=Y8 h;clear h;go_enter func266,ntmps266;go_wp2_with (go_at_call 125;refine(Qw _ T.joi _ _ (H.o.joi.ext (xE))).mono ?_;rintro e w1 ⟨rfl,hx1⟩);go_ret;exact⟨rfl,xE⟩
theorem Qx{S:Nat→Prop}(T:Tbl)(c:Int)(w:World)(h:Xg w S T):Calls prog 87 #[Vg T,.int .i64 c] w fun e w'=>e=.returned (.bool (Wk T.ign c==1))∧Ext w w':=by
 unfold Vg;have H:=Y8 h;clear h;go_enter func87,ntmps87;go_wp2_with (go_at_call 125;refine(Qw _ T.ign _ _ (H.o.ign.ext (xE))).mono ?_;rintro e w1 ⟨rfl,hx1⟩);go_ret;exact⟨rfl,xE⟩
def Zo3(T:Tbl)(c:Int):Int:=if Zkw c=true∨c=46∨Ee c=true then 1 else if 65≤c∧c≤90 then 3 else Wk T.sta c
theorem Qc{S:Nat→Prop}(T:Tbl)(c:Int)(w:World)(h:Xg w S T):Calls prog 144 #[Vg T,.int .i64 c] w fun e w'=>e=.returned (.int .i64 (Zo3 T c))∧Ext w w':=by
 unfold Vg;have H:=Y8 h;clear h;go_enter func144,ntmps144;cases hl:Zkw c<;>cases hd:(c==46)<;>cases hs:Ee c<;>cases h1:decide (65≤c)<;>cases h2:decide (c≤90)
 all_goals
  have Hl:=Y8 hl;have Hs:=Y8 hs;have Hd:=Y8 hd;have H1:=Y8 h1;have H2:=Y8 h2;go_wp2_with (first|(go_at_call 125;refine(Qw _ T.sta _ _ (H.o.sta.ext (xE))).mono ?_;rintro e w1 ⟨rfl,hx1⟩)|(go_at_call 113;refine(Ja _ _).mono ?_;rintro e w' ⟨rfl,rfl⟩;rw[hs])|(go_at_call 142;refine(En _ _).mono ?_;rintro e w' ⟨rfl,rfl⟩;rw[hl]));go_ret;refine⟨Tp ?_,xE⟩;have g1:=Hd.o;have g2:=H1.o;have g3:=H2.o;simp at g1 g2 g3;unfold Zo3;rw[Hl.o,Hs.o];simp[g1];try omega
theorem Iw{S:Nat→Prop}(T:Tbl)(c:Int)(w:World)(h:Xg w S T):Calls prog 232 #[Vg T,.int .i64 c] w (Et w):=by
 unfold Vg;have H:=Y8 h;clear h;go_enter func232,ntmps232;go_wp2_with (first|(go_at_call 125;refine(Qw _ T.cat _ _ (H.o.cat.ext (xE))).mono ?_;rintro e w1 ⟨rfl,hx1⟩)|(go_at_call 113;refine(Ja _ _).mono ?_;rintro e w' ⟨rfl,rfl⟩)|(go_at_call 145;refine(Fr _ _).mono ?_;rintro e w' ⟨rfl,rfl⟩));all_goals(go_ret;exact⟨_,rfl,xE⟩)
theorem Sv{S:Nat→Prop}(T:Tbl)(c:Int)(w:World)(h:Xg w S T):Calls prog 257 #[Vg T,.int .i64 c] w (Et w):=by
 unfold Vg;have H:=Y8 h;clear h;go_enter func257,ntmps257;go_wp2_with (go_at_call 125;refine(Qw _ T.bid _ _ (H.o.bid.ext (xE))).mono ?_;rintro e w1 ⟨rfl,hx1⟩);all_goals(go_ret;exact⟨_,rfl,xE⟩)
theorem Rf{S:Nat→Prop}(T:Tbl)(c:Int)(w:World)(h:Xg w S T):Calls prog 239 #[Vg T,.int .i64 c] w (Et w):=by
 unfold Vg;have H:=Y8 h;clear h;go_enter func239,ntmps239;go_wp2_with (first|(go_at_call 125;refine(Qw _ T.scr _ _ (H.o.scr.ext (xE))).mono ?_;rintro e w1 ⟨rfl,hx1⟩)|(go_at_call 113;refine(Ja _ _).mono ?_;rintro e w' ⟨rfl,rfl⟩)|(go_at_call 145;refine(Fr _ _).mono ?_;rintro e w' ⟨rfl,rfl⟩));all_goals(go_ret;exact⟨_,rfl,xE⟩)
theorem Zxn{S:Nat→Prop}(T:Tbl)(c:Int)(w:World)(h:Xg w S T):Calls prog 238 #[Vg T,.int .i64 c] w fun e w'=>e=.returned (Fv T.ext c)∧Ext w w':=by
 unfold Vg;have H:=Y8 h;clear h;go_enter func238,ntmps238;go_wp2_with (go_at_call 111;refine(Wy _ T.ext _ _ (H.o.ext.ext (xE))).mono ?_;rintro e w1 ⟨rfl,hx1⟩);go_ret;exact⟨rfl,xE⟩
theorem Zpu{S:Nat→Prop}(T:Tbl)(c:Int)(w:World)(h:Xg w S T):Calls prog 258 #[Vg T,.int .i64 c] w fun e w'=>e=.returned (Fv T.pro c)∧Ext w w':=by
 unfold Vg;have H:=Y8 h;clear h;go_enter func258,ntmps258;go_wp2_with (go_at_call 111;refine(Wy _ T.pro _ _ (H.o.pro.ext (xE))).mono ?_;rintro e w1 ⟨rfl,hx1⟩);go_ret;exact⟨rfl,xE⟩
def I8(T:Tbl)(c:Int):List Int:=if 65≤c∧c≤90 then[c+32]else Xb T.map c
theorem Ws(w:World)(z:Int)(t:TypeId)(g:Nat)(hg:w.heap.size=g):Xw (w.alloc (.cells #[.int .i64 z] t)) (fun _=>True) (.slice (some ⟨g,0,none⟩) 1 1) [z]:=by
 subst hg;have h1:(w.alloc (.cells #[.int .i64 z] t)).heap[w.heap.size]?=some (.cells #[.int .i64 z] t):=Zg3 w _;refine⟨by simp,_,_,rfl,Ym _,by unfold maxLen;omega,fun _=>⟨_,_,rfl,trivial,(Zgk.1 h1).1,fun j u hu=>?_⟩⟩;simp only[World.cell?,h1];rw[Zg7,← hu];simp
theorem Xw.any{w:World}{S:Nat→Prop}{v:Value}{l:List Int}(h:Xw w S v l):Xw w (fun _=>True) v l:=Rd.mono h fun _ _ _=>trivial
theorem Zmg{S:Nat→Prop}(T:Tbl)(c:Int)(w:World)(h:Xg w S T):Calls prog 225 #[Vg T,.int .i64 c] w fun e w'=>∃ v,e=.returned v∧Xw w' (fun _=>True) v (I8 T c)∧Ext w w':=by
 unfold Vg;have H:=Y8 h;clear h;go_enter func225,ntmps225;by_cases hc:65≤c∧c≤90
 ·have e1:I8 T c=[c+32]:=Zgn hc;have Hc:=Y8 e1;have q1:IntKind.i64.wrap (c+32)=c+32:=Yp _ (by omega);obtain⟨d1,d2⟩:=hc;clear e1;go_wp2_with fail;go_ret;refine⟨.slice (some ⟨_,0,none⟩) 1 1,rfl,?_,xE⟩;rw[Hc.o];exact Ws _ _ _ _ (by simp)
 have e1:I8 T c=Xb T.map c:=Zgq hc;have Hc:=Y8 e1;have hcc:¬ (65≤c)∨¬ (c≤90):=by omega
 have Hcc:=Y8 hcc;clear e1 hc hcc;cases h1:decide (65≤c)<;>cases h2:decide (c≤90)
 case true.true=>exact absurd Hcc.o (by simp at h1 h2;omega)
 all_goals
  go_wp2_with (go_at_call 111;refine(Wy _ T.map _ _ (H.o.map.ext (xE))).mono ?_;rintro e w1 ⟨rfl,hx1⟩);go_ret;refine⟨_,rfl,?_,xE⟩;rw[Hc.o];exact(Qi (H.o.map.ext (xE)).2).any
def Ztl(l:List Int)(c:Int):Bool:=l.any (· == c)
theorem Wi{S:Nat→Prop}(T:Tbl)(c:Int)(w:World)(h:Xg w S T):Calls prog 147 #[Vg T,.int .i64 c] w fun e w'=>e=.returned (.bool (Ztl T.exc c))∧Ext w w':=by
 have he:=h.exc;clear h;obtain⟨A,C,hsv,hlC,hC⟩:=he.shape;unfold Vg;rw[hsv]at he⊢;obtain⟨n,hn⟩:=gnX (T.exc.length);have Hnn:=Y8 hn;have He:=Y8 he;unfold maxLen at hC;rw[hn]at hlC⊢;clear he hn hsv;go_enter func147,ntmps147;go_wp2_with fail;go_loopw [10] (fun o wr=>∃ i:Nat,i≤n∧o=.int .i64 (i:Int)∧Ztl (T.exc.take i) c=false∧Ext w wr) (fun o _=>n-(intOf o).toNat);case atStart=>exact⟨0,by omega,rfl,rfl,xE⟩
 obtain⟨i,hi,rfl,hno,hx⟩:=hrel;have Hno:=Y8 hno;have Hx:=Y8 hx;clear hno hx;by_cases hlt:i<n
 ·have hd:=LTd i n;have i0:(0:Int)≤(i:Int):=by omega
  have i1:(i:Int)<(n:Int):=by omega
  obtain⟨x,hs⟩:=geX (l:=(T.exc)) (i:=i) (by first|(rw[Hnn.o];exact hlt)|(have:=Hnn.o;omega));obtain⟨g,o,c',hvv,_,_,_,hgl,c0⟩:=(He.o.ext Hx.o).get hs;obtain⟨rfl,-,rfl⟩:=slcX hvv;clear hvv;have Hs:=Y8 hs;clear hs;cases h1:(x==c)
  ·have Hnx:=Y8 (show Ztl (T.exc.take (i+1)) c=false by
    have:=Hno.o;unfold Ztl at this⊢;rw[Za,Hs.o,List.any_append,this];simpa using h1)
   go_wp2_with fail;go_roundw;case rel=>exact⟨i+1,by omega,by go_num,Hnx.o,(have hx:=Hx.o;xE)⟩
   simp[intOf];omega
  have Hyes:=Y8 (show Ztl T.exc c=true by
   unfold Ztl;rw[Zdx];exact⟨x,Zy Hs.o,h1⟩)
  go_wp2_with fail;go_ret;exact⟨by rw[Hyes.o];rfl,(have hx:=Hx.o;xE)⟩
 have hd:=GEl i n;have Hend:=Y8 (show Ztl T.exc c=false by
  have:=Hno.o
  rwa [Zm (by rw[Hnn.o];omega)]at this)
 go_wp2_with fail;go_ret;exact⟨by rw[Hend.o];rfl,(have hx:=Hx.o;xE)⟩
section
structure Ev(w:World)(g:Nat)(vs:List Value):Prop where
 lt:g<w.heap.size
 at_:∀ i v,vs[i]?=some v→w.cell? ⟨g,i,none⟩=some v
theorem Ev.ext{w w':World}{g:Nat}{vs:List Value}(h:Ev w g vs)(x:Ext w w'):Ev w' g vs :=
 ⟨Zgp h.lt x.size,fun i v hv=>(x.cell (p:=⟨g,i,none⟩) h.lt).trans (h.at_ i v hv)⟩
theorem Kx(w:World)(cs:Array Value)(t:TypeId)(g:Nat)(hg:w.heap.size=g):Ev (w.alloc (.cells cs t)) g cs.toList:=by
 subst hg;have h1:(w.alloc (.cells cs t)).heap[w.heap.size]?=some (.cells cs t):=Zg3 w _;refine⟨(Zgk.1 h1).1,fun i v hv=>?_⟩;simp only[World.cell?,h1];rw[← hv];simp
def Zxl(T:Tbl):List (Value×List Sp):=[(T.catV,T.cat),(T.clsV,T.cls),(T.joiV,T.joi),(T.bidV,T.bid),(T.scrV,T.scr),(T.staV,T.sta),(T.ignV,T.ign)]
def Zy0(T:Tbl):List (Value×List Mp):=[(T.extV,T.ext),(T.mapV,T.map),(T.decV,T.dec),(T.proV,T.pro)]
theorem Zp3{w:World}{S:Nat→Prop}{T:Tbl}(h:Xg w S T):∀ p∈Zxl T,Vh w S p.1 p.2:=by
 intro p hp;simp only[Zxl,Zg,Zh,Zfi]at hp;rcases hp with rfl|rfl|rfl|rfl|rfl|rfl|rfl
 ·exact h.cat
 ·exact h.cls
 ·exact h.joi
 ·exact h.bid
 ·exact h.scr
 ·exact h.sta
 exact h.ign
theorem Zqh{w:World}{S:Nat→Prop}{T:Tbl}(h:Xg w S T):∀ p∈Zy0 T,Gu w S p.1 p.2:=by
 intro p hp;simp only[Zy0,Zg,Zh,Zfi]at hp;rcases hp with rfl|rfl|rfl|rfl
 ·exact h.ext
 ·exact h.map
 ·exact h.dec
 exact h.pro
def Zsy(T:Tbl)(w:World)(e:Ending)(w':World):Prop :=
 ∃ g1 g2:Nat,e=.returned (.tuple #[.slice (some ⟨g1,0,none⟩) 7 7,.slice (some ⟨g2,0,none⟩) 7 7])∧Ev w' g1 ((Zxl T).map (·.1))∧Ev w' g2 ([8,254,5,11,60,4,1].map (Value.int .i64))∧Ext w w'
theorem O0{S:Nat→Prop}(T:Tbl)(w:World)(h:Xg w S T):Calls prog 137 #[Vg T] w (Zsy T w):=by
 obtain⟨A0,C0,e0,_,_⟩:=h.cat.shape;obtain⟨A1,C1,e1,_,_⟩:=h.cls.shape;obtain⟨A2,C2,e2,_,_⟩:=h.joi.shape;obtain⟨A3,C3,e3,_,_⟩:=h.bid.shape;obtain⟨A4,C4,e4,_,_⟩:=h.scr.shape;obtain⟨A5,C5,e5,_,_⟩:=h.sta.shape;obtain⟨A6,C6,e6,_,_⟩:=h.ign.shape;clear h;unfold Vg;go_enter func137,ntmps137;go_wp2_with fail;go_ret2;refine⟨w.heap.size+1,w.heap.size+2,?_,?_,?_,xE⟩
 ·simp
 ·simp only[Zxl,Zg4,Zfv,e0,e1,e2,e3,e4,e5,e6];exact(Kx _ _ _ _ (by simp)).ext ((Yk _).alloc _)
 exact Kx _ _ _ _ (by simp)
def Znu(T:Tbl)(w:World)(e:Ending)(w':World):Prop :=
 ∃ g1:Nat,e=.returned (.slice (some ⟨g1,0,none⟩) 4 4)∧Ev w' g1 ((Zy0 T).map (·.1))∧Ext w w'
theorem Gd{S:Nat→Prop}(T:Tbl)(w:World)(h:Xg w S T):Calls prog 138 #[Vg T] w (Znu T w):=by
 obtain⟨A0,C0,e0,_,_⟩:=h.ext.shape;obtain⟨A1,C1,e1,_,_⟩:=h.map.shape;obtain⟨A2,C2,e2,_,_⟩:=h.dec.shape;obtain⟨A3,C3,e3,_,_⟩:=h.pro.shape;clear h;unfold Vg;go_enter func138,ntmps138;go_wp2_with fail;go_ret;refine⟨w.heap.size+1,?_,?_,xE⟩
 ·simp
 simp only[Zy0,Zg4,Zfv,e0,e1,e2,e3];exact Kx _ _ _ _ (by simp)
def Qk(T:Tbl):List Value:=[T.catV,T.clsV,T.joiV,T.bidV,T.scrV,T.staV,T.ignV,T.extV,T.mapV,T.decV,T.excV,T.proV]
def Wz(T:Tbl):Obj:=.cells (Qk T).toArray 34
structure Kn(w:World)(b:Nat)(T:Tbl):Prop where
 lt:b<w.heap.size
 at_:∀ k,k<12→w.cell? ⟨b,k,none⟩=(Qk T)[k]?
theorem Kn.ext{w w':World}{b:Nat}{T:Tbl}(h:Kn w b T)(x:Ext w w'):Kn w' b T :=
 ⟨Zgp h.lt x.size,fun k hk=>(x.cell (p:=⟨b,k,none⟩) h.lt).trans (h.at_ k hk)⟩
theorem Xi(w:World)(T:Tbl):Kn (w.alloc (Wz T)) w.heap.size T:=by
 refine⟨by simp,fun k hk=>?_⟩;unfold Wz;rw[cell_of_row _ _ k (Qk T).toArray 34 (0,0) (Zg3 w _)];simp
theorem Pu:(prog.underlying 34).map TypeDesc.isRow=some true:=by kernel_rfl
theorem Bm:(prog.info? 34).map (·.size)=some 12:=by kernel_rfl
theorem Kn.range{w:World}{b:Nat}{T:Tbl}(h:Kn w b T):w.rangeAt b 0 (Qk T):=fun j v hv=>by
 rw[Zg7,h.at_ j (Zr.1 hv).1,hv]
section
variable {ops:Array Oper} {rest:List Oper} {dst:Option Nat} {x:Operand} {t:TypeId} {pos:String} {af:Array Edge} {a:Act} {w:World} {Q:Exit→Act→World→Prop} {b:Nat} {T:Tbl}
theorem Xv(hx:a.eval x=Vg T)(hK:wpList prog ops Q rest (a.put dst (.pointer (some ⟨w.heap.size,0,none⟩))) (w.alloc (Wz T))) :
 wpList prog ops Q ({dst:=dst,op:=.box 34 x,type:=t,pos:=pos,after:=af,guard:=none}::rest) a w:=by
 refine Zdd rfl fun K hK'=>?_
 unfold Oper.wp execOp;have hc:(a.eval x).cells=(Qk T).toArray:=by rw[hx];rfl
 simp only[Zcx,Instr.box,newVar,newRow,run_newObj_alloc,Zcw,Ze6,hc];exact hK' _ _ hK
theorem Xy(h:Kn w b T)(hx:a.eval x=.pointer (some ⟨b,0,none⟩))(hK:wpList prog ops Q rest (a.put dst (Vg T)) w) :
 wpList prog ops Q ({dst:=dst,op:=.load 34 x,type:=t,pos:=pos,after:=af,guard:=none}::rest) a w:=by
 have hu:=Pu;rw[Zg9]at hu;obtain⟨d,hu,hd⟩:=hu;exact wpList_load_mid rfl _ x rfl b 0 hx (Qk T) d h.range hu hd (by rw[Bm];rfl) hK
end
theorem lat{W:World}{b o:Nat}{v:Value}(h:W.cell? ⟨b,o,none⟩=some v):∀ k os,(later W k os).cell? ⟨b,o,none⟩=some v:=fun k os=>(J6 W k os b o (lt_of_cell h)).trans h
theorem Ve(i:Nat)(h0:0<i)(h1:i≤9223372036854775807):IntKind.i64.wrap ((i:Int)-1)=((i-1:Nat):Int):=by
 rw[Yp _ (by omega)];omega
theorem tblX{w:World}{S:Nat→Prop}{T:Tbl}(h:Xg w S T):Y4 (Ext w (w.alloc (Wz T)))∧Y4 (Xg (w.alloc (Wz T)) S T)∧Y4 (Kn (w.alloc (Wz T)) w.heap.size T):=⟨Y8 ((Yk w).alloc _),Y8 (h.up ((Yk w).alloc _)),Y8 (Xi w T)⟩
theorem intX{w w':World}{S:Nat→Prop}{A:Option Addr}{n C:Nat}{l:List Int}(h:Y4 (Xw w S (.slice A l.length C) l))(e:Y4 (l.length=n))(x:Y4 (Ext w w')):Y4 (Xw w' S (.slice A n C) l):=by
 have g:=h.o.ext x.o;rw[e.o]at g;exact Y8 g
end
section
structure Enc(α:Type) where
 ty:TypeId
 sl:TypeId
 z:Nat
 bytes:Nat
 cells:List α→List Value
 app:∀ a b,cells (a++b)=cells a++cells b
 len:∀ l,(cells l).length=l.length*z
 one:∀ l,∀ u∈cells l,u.oneCell'=true
 und:prog.underlying sl=some (.slice ty)
 i:TypeInfo
 zero:Value
 info:prog.info? ty=some i
 hz:i.zero=some zero
 hs:i.size=z
 hb:i.bytes=bytes
 hc:zero.cells.size=z
 pos:0<z
def Own{α:Type}(E:Enc α)(w:World)(B:Nat)(v:Value)(l:List α):Prop:=w.ownsRow B E.ty E.z v l.length (E.cells l)
def RdE{α:Type}(E:Enc α)(w:World)(S:Nat→Prop)(v:Value)(l:List α):Prop:=Rd w S E.z v l.length (E.cells l)
section
variable {α:Type} {E:Enc α} {w w':World} {B:Nat} {S T:Nat→Prop} {v:Value} {l:List α}
theorem Own.nil(E:Enc α)(w:World)(B:Nat):Own E w B (.slice none 0 0) []:=by
 have h:E.cells []=[]:=Zgb (by rw[E.len];simp);unfold Own;rw[h];exact Zfj _ _ _ _
theorem Own.ext(h:Own E w B v l)(x:Ext w w'):Own E w' B v l:=Ek h x
theorem Own.chg(h:Own E w B v l)(c:Chg T w w')(hS:∀ k,v.ownBlock=some k→¬ T k):Own E w' B v l:=by
 refine⟨h.1,?_⟩;rcases h.2 with hn | ⟨g,cap,cur,rfl,hb,hgg,rest⟩
 ·exact .inl hn
 refine .inr ⟨g,cap,cur,rfl,hb,?_,rest⟩;rw[c.block g (Zgk.1 hgg).1 (hS g rfl)];exact hgg
theorem Own.rd(h:Own E w B v l):RdE E w (fun k=>B≤k) v l:=Rd.of_own h fun k hk=>(h.lt k hk).1
theorem Own.shape(h:Own E w B v l):∃ A c,v=.slice A l.length c∧l.length≤c∧c≤maxLen:=by
 obtain⟨_,A,c,h,h1,h2,_⟩:=h.rd;exact⟨A,c,h,h1,h2⟩
theorem Own.base{C:Nat}(h:Own E w B v l)(hc:C≤B):Own E w C v l:=by
 refine⟨h.1,?_⟩;rcases h.2 with hn | ⟨g,cap,cur,rfl,hb,rest⟩
 ·exact .inl hn
 exact .inr ⟨g,cap,cur,rfl,Zgo hc hb,rest⟩
theorem RdE.ext(h:RdE E w S v l)(x:Ext w w'):RdE E w' S v l:=Rd.ext h x
theorem RdE.shape(h:RdE E w S v l):∃ A c,v=.slice A l.length c∧l.length≤c∧c≤maxLen:=by
 obtain⟨_,A,c,h,h1,h2,_⟩:=h;exact⟨A,c,h,h1,h2⟩
structure Grew(E:Enc α)(w:World)(B:Nat)(v:Value)(l:List α)(A:Option Addr)(n c:Nat)(w':World):Prop where
 own:Own E w' B (.slice A n c) l
 len:n=l.length
 cap:n≤c∧c≤maxLen
 ext:∀ W,Ext W w→W.heap.size≤B→Ext W w'
 chg:Chg (fun b=>v.ownBlock=some b) w w'
 at_:(Value.slice A n c).ownBlock=v.ownBlock∨(Value.slice A n c).ownBlock=some w.heap.size
theorem Zrg{m:List α}{v':Value}(hown:Own E w B v l)(h:Bu w B E.ty E.z v (l.length+m.length) (E.cells l++E.cells m) v' w'):∃ A n c,v'=.slice A n c∧Grew E w B v (l++m) A n c w':=by
 have ho:Own E w' B v' (l++m):=by
  have:=h.own;unfold Own;rw[Zs,E.app];exact this
 obtain⟨A,c,rfl,h1,h2⟩:=ho.shape;exact⟨A,_,c,rfl,ho,rfl,⟨h1,h2⟩,fun W hx hB=>hx.grown h.grown fun k hk=>Zgo hB (hown.lt k hk).1,(Chg.refl _ _).grown h.grown (fun k hk=>.inl hk),h.at_⟩
end
section
variable {α:Type} {ops:Array Oper} {rest:List Oper} {o:Oper} {a:Act} {w:World} {Q:Exit→Act→World→Prop} {K:Act→World→Prop} {B:Nat} {S:Nat→Prop} {v x:Value} {l m:List α}
theorem Zki(E:Enc α)(s y:Operand)(t:TypeId)(ho:o.op=.call {callee:=.builtin .append,args:=#[s,y],argTypes:=#[t,t]})(ht:t=E.sl)(hs:a.eval s=v)(hown:Own E w B v l)
 (hx:a.eval y=x) (hr:RdE E w S x m) (hn:l.length+m.length≤1000000000) (hby:E.bytes≤1000) (hB:B≤w.heap.size)
 (h:∀ A n c w',Grew E w B v (l++m) A n c w'→K (a.put o.dst (.slice A n c)) w'):o.wp prog a w K Q:=by
 subst ht;refine Kf w s y E.sl ho B E.ty E.i E.zero E.z E.bytes E.und E.info E.hz E.hs E.hb E.hc E.pos v l.length (E.cells l) hs hown S x m.length (E.cells m) hx hr (E.one m) (by unfold maxLen;omega) ?_ hB ?_
 ·calc (l.length+m.length)*E.bytes≤1000000000*1000:=Zdf hn hby
   _≤140737488355328:=by omega
 intro v' w' ha;obtain⟨A,n,c,rfl,hg⟩:=Zrg hown ha;exact h A n c w' hg
theorem Xt(E:Enc α)(s y:Operand)(t:TypeId)(hgd:o.guard=none)(ho:o.op=.call {callee:=.builtin .append,args:=#[s,y],argTypes:=#[t,t]})(ht:t=E.sl)(hs:a.eval s=v)(hown:Own E w B v l)
 (hx:a.eval y=x) (hr:RdE E w S x m) (hn:l.length+m.length≤1000000000) (hby:E.bytes≤1000) (hB:B≤w.heap.size)
 (h:∀ A n c w',Grew E w B v (l++m) A n c w'→wpList prog ops Q rest (a.put o.dst (.slice A n c)) w'):wpList prog ops Q (o::rest) a w :=
 Zdd hgd fun _ hK=>Zki E s y t ho ht hs hown hx hr hn hby hB fun A n c w' hg=>hK _ _ (h A n c w' hg)
theorem Wt(E:Enc α){F:Prop}(s y:Operand)(t:TypeId)(hgd:o.guard=none)(ho:o.op=.call {callee:=.builtin .append,args:=#[s,y],argTypes:=#[t,t]})(ht:t=E.sl)(hs:a.eval s=v)(hown:Own E w B v l)
 (hx:a.eval y=x) (hr:RdE E w S x m) (hn:l.length+m.length≤1000000000) (hby:E.bytes≤1000) (hB:B≤w.heap.size)
 (h:∀ A n c w',Grew E w B v (l++m) A n c w'→K (a.put o.dst (.slice A n c)) w') :
 if Region.wanted o (yielded ops a.tmps)=true then Oper.wp prog o a w K Q else F:=by
 have hw:Region.wanted o (yielded ops a.tmps)=true:=by simp[Region.wanted,hgd]
 rw[Zgn hw];exact Zki E s y t ho ht hs hown hx hr hn hby hB h
end
theorem Fp{α:Type}(f:α→Value)(hf:∀ a,(f a).oneCell'=true)(l:List α):∀ u∈l.map f,u.oneCell'=true:=fun u hu=>by
 obtain⟨y,_,rfl⟩:=Zgg.1 hu;exact hf y
theorem Ds:(prog.info? 3).map (fun i=>(i.zero,i.size,i.bytes))=some (some (.int .i64 0),1,8):=by kernel_rfl
theorem Zl0:prog.underlying 22=some (.slice 3):=by kernel_rfl
noncomputable def Ww:Enc Int where
 ty:=3
 sl:=22
 z:=1
 bytes:=8
 cells l:=l.map (Value.int .i64)
 app a b:=Yy
 len l:=by simp
 one l:=Fp _ (fun _=>rfl) l
 und:=Zl0
 i:=Classical.choose (Zgl Ds)
 zero:=.int .i64 0
 info:=(Yo (Zgl Ds)).1
 hz:=(Yo (Zgl Ds)).2.1
 hs:=(Yo (Zgl Ds)).2.2.1
 hb:=(Yo (Zgl Ds)).2.2.2
 hc:=rfl
 pos:=by omega
noncomputable def Vm:Enc ByteArray where
 ty:=9
 sl:=24
 z:=1
 bytes:=16
 cells l:=l.map Value.string
 app a b:=Yy
 len l:=by simp
 one l:=Fp _ (fun _=>rfl) l
 und:=Zvy
 i:=Classical.choose (Zgl Bn)
 zero:=.string ⟨#[]⟩
 info:=(Yo (Zgl Bn)).1
 hz:=(Yo (Zgl Bn)).2.1
 hs:=(Yo (Zgl Bn)).2.2.1
 hb:=(Yo (Zgl Bn)).2.2.2
 hc:=rfl
 pos:=by omega
end
def nextL(d:List Mp)(l:List Int):List Int:=l.flatMap fun x=>if(Xb d x).isEmpty then[x]else Xb d x
def Ll(d:List Mp)(l:List Int):Bool:=l.any fun x=>!(Xb d x).isEmpty
def Jw(d:List Mp):Nat→List Int→Option (List Int)
 | 0,_=>none
 | k+1,l=>if Ll d l=false then some l else if 18<(nextL d l).length then none else Jw d k (nextL d l)
theorem Rp(d:List Mp)(l:List Int)(x:Int):nextL d (l++[x])=nextL d l++(if(Xb d x).isEmpty then[x]else Xb d x):=by simp[nextL]
theorem Rq(d:List Mp)(l:List Int)(x:Int):Ll d (l++[x])=(Ll d l||!(Xb d x).isEmpty):=by simp[Ll]
theorem Wq{α:Type}{l:List α}{i:Nat}{x:α}(h:l[i]?=some x):l.take (i+1)=l.take i++[x]:=by
 rw[Za,h];rfl
structure Few(T:Tbl):Prop where
 dec:∀ m∈T.dec,m.to_.length≤18
 map:∀ m∈T.map,m.to_.length≤18
 pro:∀ m∈T.pro,m.to_.length≤18
 ext:∀ m∈T.ext,m.to_.length≤18
 rows:T.dec.length≤256∧T.map.length≤256∧T.pro.length≤256∧T.ext.length≤256
theorem Gm{l:List Mp}{N:Nat}(h:∀ m∈l,m.to_.length≤N):∀ c,(Xb l c).length≤N:=by
 intro c
 induction l with
 | nil=>simp[Xb]
 | cons m r ih =>
  unfold Xb;split
  ·exact h m (by simp)
  exact ih fun m hm=>h m (by simp[hm])
theorem Zqf{d:List Mp}(h:∀ m∈d,m.to_.length≤18)(l:List Int):(nextL d l).length≤18*l.length:=by
 induction l with
 | nil=>simp[nextL]
 | cons x r ih =>
  have e:nextL d (x::r)=(if(Xb d x).isEmpty then[x]else Xb d x)++nextL d r:=by simp[nextL]
  rw[e,Zs,Zl];have:=Gm h x;split<;>simp<;>omega
theorem Zmv(w:World)(z:Int)(t:TypeId)(g:Nat)(hg:w.heap.size=g):Xw (w.alloc (.cells #[.int .i64 z] t)) (fun k=>k=g) (.slice (some ⟨g,0,none⟩) 1 1) [z]:=by
 subst hg;have h1:(w.alloc (.cells #[.int .i64 z] t)).heap[w.heap.size]?=some (.cells #[.int .i64 z] t):=Zg3 w _;refine⟨by simp,_,_,rfl,Ym _,by unfold maxLen;omega,fun _=>⟨_,_,rfl,rfl,(Zgk.1 h1).1,fun j u hu=>?_⟩⟩;simp only[World.cell?,h1];rw[Zg7,← hu];simp
def J2(T:Tbl)(c:Int)(w:World)(e:Ending)(w':World):Prop :=
 match Jw T.dec 257 [c]with
 | some l=>∃ v,e=.returned (.tuple #[v,.bool true])∧Xw w' (fun k=>w.heap.size≤k) v l∧Ext w w'
 | none=>e=.returned (.tuple #[.slice none 0 0,.bool false])∧Ext w w'
theorem Dw{S:Nat→Prop}(T:Tbl)(c:Int)(w:World)(h:Xg w S T)(hf:Few T):Calls prog 146 #[Vg T,.int .i64 c] w (J2 T c w):=by
 obtain⟨A9,C9,e9,hl9,hc9⟩:=h.dec.shape;have h9:=h.dec.ext ((Yk w).alloc (Wz T));obtain⟨n9,hn9⟩:=gnX (T.dec.length);rw[hn9]at e9 hl9;rw[e9]at h9;have Hn9:=Y8 hn9;have E9:=Y8 e9;have H9:=Y8 h9;unfold maxLen at hc9;clear hn9 e9 h9;obtain⟨X0,H,Hb0⟩:=tblX h;clear h;have Hf:=Y8 hf;clear hf;go_enter func146,ntmps146;go_wp2_with (refine Xv rfl ?_);go_loopw [7,6] (fun o v wr=>∃ (k:Nat) (l:List Int),k≤257∧o=.int .i64 (k:Int)∧Jw T.dec 257 [c]=Jw T.dec (257-k) l∧l.length≤18∧Xw wr (fun k=>w.heap.size≤k) v l∧Ext (w.alloc (Wz T)) wr) (fun o _ _=>257-(intOf o).toNat);case atStart =>
  exact⟨0,[c],by omega,rfl,rfl,by simp,Rd.mono (Zmv (w.alloc (Wz T)) c 3 (w.heap.size+1) (by simp)) (fun k hk _=>by omega),(Yk _).alloc _⟩
 obtain⟨k,l,hk,rfl,he,hl,hv,hx⟩:=hrel;obtain⟨VA,VC,rfl,hvl,hvc⟩:=hv.shape;obtain⟨n,hn⟩:=gnX (l.length);rw[hn]at hvl hl⊢;have Hn:=Y8 hn;have Hv:=Y8 hv;have He:=Y8 he;have Hx:=Y8 hx;clear hn hv he hx;by_cases hlt:k≤256
 ·have hd:decide ((k:Int)≤(256:Int))=true:=Ye;go_wp2_with fail;rename World=>wo
  have hB:w.heap.size≤wo.heap.size:=Zgo X0.o.size Hx.o.size;obtain⟨B,hBe⟩:=gnX (wo.heap.size);go_loopw [21,8,9] (fun o u b wr=>∃ j:Nat,j≤n∧o=.int .i64 (j:Int)∧Own Ww wr B u (nextL T.dec (l.take j))∧b=.bool (Ll T.dec (l.take j))∧Ext wo wr) (fun o _ _ _=>n-(intOf o).toNat);case atStart=>exact⟨0,by omega,rfl,Own.nil _ _ _,rfl,Yk _⟩
  obtain⟨j,hj,rfl,ho,rfl,hxj⟩:=hrel;obtain⟨OA,OC,rfl,hol,hoc⟩:=ho.shape;have hq18:(nextL T.dec (l.take j)).length≤324:=Zgo (Zqf Hf.o.dec _) (by rw[Zp];omega);obtain⟨q,hq⟩:=gnX ((nextL T.dec (l.take j)).length);have Hq:=Y8 hq;have Ho:=Y8 ho;rw[hq]at hol hq18⊢;have Hxj:=Y8 hxj;have HxA:=Y8 (Hx.o.trans hxj);have hBj:B≤wr.heap.size:=by rw[← hBe];exact hxj.size
  have HBj:=Y8 hBj;unfold maxLen at hoc;clear hq ho hxj hBj;by_cases hlj:j<n
  ·obtain⟨hd_j,i0_j,i1_j⟩:=LTl j n;obtain⟨x,hs_x⟩:=geX (l:=(l)) (i:=j) (by have:=Hn.o;omega);obtain⟨g_x,o_x,c_x,hvv,_,_,_,hgl_x,a0_x⟩:=(Hv.o.ext Hxj.o).get hs_x;obtain⟨rfl,-,rfl⟩:=slcX hvv;clear hvv;have Hs_x:=Y8 hs_x;clear hs_x;have b9:=(Hb0.o.ext HxA.o).at_ 9 (by omega);rw[show(Qk T)[9]?=some T.decV from rfl,E9.o]at b9;have hfa:=Qi (S:=S) (c:=x) H9.o.2;obtain⟨FA,FC,ef,fl,fc⟩:=hfa.shape;obtain⟨d,hd⟩:=gnX ((Xb T.dec x).length);have hd18:=Gm Hf.o.dec x;rw[ef]at hfa;rw[hd]at ef fl hd18;have Hd:=Y8 hd;have Hfa:=Y8 hfa;clear hd hfa;unfold maxLen at fc;by_cases h0:0<d
   ·have h1:decide ((0:Int)<(d:Int))=true:=Ye;have h2:decide (0<d)=true:=Ye h0;go_wp2_with (first|(go_at_call 111;refine(Wy _ T.dec x _ (H9.o.ext HxA.o)).mono ?_;rintro e w1 ⟨rfl,hx1⟩)|(at_builtin;refine Xt Ww _ _ _ rfl rfl rfl rfl (by rw[← Hq.o];exact Ho.o.ext hx1) rfl (by have:=Hfa.o.ext (HxA.o.trans hx1);rw[Hd.o]at this;exact this) (by rw[Hq.o,Hd.o];omega) (by show 8≤1000;omega) (Zgo HBj.o hx1.size) ?_;intro A3 n3 c3 w3 hg));have Hg:=Y8 hg;have Hx1:=Y8 hx1;have h3:(Xb T.dec x).isEmpty=false:=by cases hh:Xb T.dec x with
     | nil=>have:=Hd.o;rw[hh]at this;simp at this;omega
     | cons _ _=>rfl
    have Hfin:=Y8 h3;clear hg hx1 h3;go_wp2_with fail;go_roundw;case rel =>
     refine⟨j+1,by omega,by go_num,?_,?_,?_⟩
     ·rw[Wq Hs_x.o,Rp,Hfin.o];exact Hg.o.own
     ·rw[Wq Hs_x.o,Rq,Hfin.o];simp
     exact Hg.o.ext wo (Hxj.o.trans Hx1.o) (by rw[hBe];exact Ym _)
    case measure=>simp[intOf];omega
   have h1:decide ((0:Int)<(d:Int))=false:=Yf;have h2:decide (0<d)=false:=Yf h0;go_wp2_with (first|(go_at_call 111;refine(Wy _ T.dec x _ (H9.o.ext HxA.o)).mono ?_;rintro e w1 ⟨rfl,hx1⟩)|(at_builtin;refine Xt Ww _ _ _ rfl rfl rfl rfl (by rw[← Hq.o];exact(Ho.o.ext hx1).ext ((Yk _).alloc _)) rfl (Ws w1 x _ _ rfl) (by rw[Hq.o];simp;omega) (by show 8≤1000;omega) (by have:=Zgo HBj.o hx1.size;simp;omega) ?_;intro A3 n3 c3 w3 hg));have Hg:=Y8 hg;have Hx1:=Y8 hx1;have h3:(Xb T.dec x).isEmpty=true:=by cases hh:Xb T.dec x with
    | nil=>rfl
    | cons _ _=>have:=Hd.o;rw[hh]at this;simp at this;omega
   have Hfin:=Y8 h3;clear hg hx1 h3;go_wp2_with fail;go_roundw;case rel =>
    refine⟨j+1,by omega,by go_num,?_,?_,?_⟩
    ·rw[Wq Hs_x.o,Rp,Hfin.o];exact Hg.o.own
    ·rw[Wq Hs_x.o,Rq,Hfin.o];simp
    exact Hg.o.ext wo ((Hxj.o.trans Hx1.o).alloc _) (by rw[hBe];exact Ym _)
   case measure=>simp[intOf];omega
  have hd_j:=GEl j n;have ej:l.take j=l:=Zm (by rw[Hn.o];omega);rw[ej]at Hq Ho⊢;cases hmo:Ll T.dec l
  ·have Hmo:=Y8 hmo;go_wp2_with fail;go_ret2;unfold J2;rw[He.o,show 257-k=(256-k)+1 by omega,Jw,Zgn Hmo.o];exact⟨.slice VA n VC,rfl,by rw[← Hn.o];exact Hv.o.ext Hxj.o,X0.o.trans HxA.o⟩
  have Hmo:=Y8 hmo;by_cases h18:18<q
  ·have h1:decide ((18:Int)<(q:Int))=true:=Ye;go_wp2_with fail;go_ret2;unfold J2;rw[He.o,show 257-k=(256-k)+1 by omega,Jw,Zgq (by rw[Hmo.o];simp),Zgn (by rw[Hq.o];exact h18)];exact⟨rfl,X0.o.trans HxA.o⟩
  have h1:decide ((18:Int)<(q:Int))=false:=Yf;go_wp2_with fail;go_roundw;case rel =>
   refine⟨k+1,nextL T.dec l,by omega,by go_num,?_,?_,?_,HxA.o⟩
   ·rw[He.o,show 257-k=(256-k)+1 by omega,Jw,Zgq (by rw[Hmo.o];simp),Zgq (by rw[Hq.o];exact h18)];rw[show 257-(k+1)=256-k by omega]
   ·rw[Hq.o];omega
   rw[← Hq.o];exact Rd.mono Ho.o.rd fun b hb _=>by omega
  case measure=>simp[intOf];omega
 have hd:decide ((k:Int)≤(256:Int))=false:=Yf;have Hnone:=Y8 (show Jw T.dec 257 [c]=none by rw[He.o,show 257-k=0 by omega];rfl);go_wp2_with fail;go_ret2;unfold J2;rw[Hnone.o];exact⟨rfl,X0.o.trans Hx.o⟩
def Dep(d:List Mp):Nat→Int→Prop
 | 0,c=>Xb d c=[]
 | k+1,c=>Xb d c=[]∨∃ x r,Xb d c=x::r∧Dep d k x
theorem Zws(d:List Mp):∀ (k:Nat) (c:Int) (t r:List Int),Jw d k (c::t)=some r→Dep d k c
 | 0,c,t,r,h=>by simp[Jw]at h
 | k+1,c,t,r,h=>by
  cases hc:Xb d c with
  | nil=>exact .inl hc
  | cons x q =>
   refine .inr ⟨x,q,hc,?_⟩;unfold Jw at h;split at h
   ·rename_i hm;simp[Ll,hc]at hm
   split at h
   ·simp at h
   have e:nextL d (c::t)=x::(q++nextL d t):=by simp[nextL,hc]
   rw[e]at h;exact Zws d k x _ r h
theorem Ziy{d:List Mp}{l:List Int}(h:l≠[]):nextL d l≠[]:=by
 cases l with
 | nil=>exact absurd rfl h
 | cons x r =>
  have e:nextL d (x::r)=(if(Xb d x).isEmpty then[x]else Xb d x)++nextL d r:=by simp[nextL]
  rw[e];split
  ·simp
  rename_i hx;intro h;have:=(List.append_eq_nil_iff.1 h).1;rw[this]at hx;simp at hx
theorem Zro(d:List Mp):∀ (k:Nat) (l r:List Int),l≠[]→Jw d k l=some r→r≠[]
 | 0,l,r,_,h=>by simp[Jw]at h
 | k+1,l,r,hl,h=>by
  unfold Jw at h;split at h
  ·cases h;exact hl
  split at h
  ·simp at h
  exact Zro d k _ r (Ziy hl) h
theorem Sh(d:List Mp):∀ (k:Nat) (l r:List Int),l.length≤18→Jw d k l=some r→r.length≤18
 | 0,l,r,_,h=>by simp[Jw]at h
 | k+1,l,r,hl,h=>by
  unfold Jw at h;split at h
  ·cases h;exact hl
  split at h
  ·simp at h
  exact Sh d k _ r (by omega) h
def Zo0(T:Tbl):Prop:=∀ m∈T.dec,(Jw T.dec 257 [m.fr]).isSome
theorem Zwt{d:List Mp}{c:Int}(h:Xb d c≠[]):∃ m∈d,m.fr=c:=by
 induction d with
 | nil=>simp[Xb]at h
 | cons m r ih =>
  unfold Xb at h;split at h
  ·rename_i e;exact⟨m,by simp,e⟩
  obtain⟨m',h1,h2⟩:=ih h;exact⟨m',by simp[h1],h2⟩
theorem Zyq{T:Tbl}(h:Zo0 T)(c:Int):∃ r,Jw T.dec 257 [c]=some r∧r≠[]∧r.length≤18:=by
 have h1:(Jw T.dec 257 [c]).isSome:=by
  by_cases hc:Xb T.dec c=[]
  ·have:Jw T.dec 257 [c]=some [c]:=by
    unfold Jw;rw[Zgn (by simp[Ll,hc])]
   rw[this];rfl
  obtain⟨m,hm,rfl⟩:=Zwt hc;exact h m hm
 obtain⟨r,hr⟩:=Zeh.1 h1;exact⟨r,hr,Zro _ _ _ _ (by simp) hr,Sh _ _ _ _ (by simp) hr⟩
theorem Zjf{T:Tbl}(h:Zo0 T)(c:Int):Dep T.dec 257 c:=by
 obtain⟨r,hr,_⟩:=Zyq h c;exact Zws _ _ _ _ _ hr
def I5(T:Tbl)(c:Int):Int:=((Jw T.dec 257 [c]).getD []).getLastD 0
def Fz(T:Tbl):Nat→Int→Bool
 | 0,_=>false
 | n+1,c =>
  match Xb T.dec c with
  | [x,y] =>
   if Ztl T.exc c=true∨Wk T.cls c≠0∨Wk T.cls x≠0∨Xb T.dec y≠[]then false
   else if Xb T.dec x≠[]∧Fz T n x=false then false
   else Wk T.cls y==0||decide (Wk T.cls (I5 T x)≤Wk T.cls y)
  | _=>false
theorem Md{T:Tbl}{n:Nat}{c:Int}(h:(Xb T.dec c).length≠2):Fz T n c=false:=by
 cases n with
 | zero=>rfl
 | succ n =>
  unfold Fz;split
  ·rename_i e;rw[e]at h;simp at h
  rfl
theorem Zml{b:Nat}{T:Tbl}{W:World}(h:Kn W b T):(Instr.loadAt 34 (.pointer (some ⟨b,0,none⟩))).run prog W=.ok (Vg T) W:=by
 have hu:=Pu;rw[Zg9]at hu;obtain⟨d,hu,hd⟩:=hu;exact run_loadAt_mid _ b 0 _ (Qk T) d h.range hu hd (by rw[Bm];rfl)
theorem Xf{ops:Array Oper}{C:World→Prop}{Q:Act→Prop}{rest:List Oper}{dst:Option Nat}{x:Operand}{t:TypeId}{pos:String}{af:Array Edge}{gd:Option (Nat×Bool)}{a:Act}{b:Nat}{T:Tbl}
 (hw:Region.wanted {dst:=dst,op:=.load 34 x,type:=t,pos:=pos,after:=af,guard:=gd} (yielded ops a.tmps)=true) (hx:a.eval x=.pointer (some ⟨b,0,none⟩)) (hC:∀ w',C w'→Kn w' b T)
 (hK:wpQuiet prog ops C Q rest (a.put dst (Vg T))):wpQuiet prog ops C Q ({dst:=dst,op:=.load 34 x,type:=t,pos:=pos,after:=af,guard:=gd}::rest) a:=by
 have hu:=Pu;rw[Zg9]at hu;obtain⟨d,hu,hd⟩:=hu;show if _ then _ else _
 rw[Zgn hw];refine⟨Vg T,fun w' hc=>?_,hK⟩;unfold Oper.quietAt execOp;simp only[hx,Instr.loadAt,Instr.sureAddr,Zcx,Zcw,Ze6,run_loadVar_mid w' b 0 _ (Qk T) d (hC w' hc).range hu hd (by rw[Bm];rfl)];exact⟨rfl,rfl⟩
theorem Ny{r:List Int}(h:r≠[]):r[r.length-1]?=some (r.getLastD 0):=by
 rw[← Zdy,Zcq,List.getLast?_eq_some_getLast h];rfl
theorem Jg{T:Tbl}{n:Nat}{c x y:Int}(h:Xb T.dec c=[x,y]):Fz T (n+1) c =
 if Ztl T.exc c=true∨Wk T.cls c≠0∨Wk T.cls x≠0∨Xb T.dec y≠[]then false
 else if Xb T.dec x≠[]∧Fz T n x=false then false
 else Wk T.cls y==0||decide (Wk T.cls (I5 T x)≤Wk T.cls y):=by
 rw[Fz,h]
theorem Zs0{S:Nat→Prop}(T:Tbl)(hfin:Zo0 T)(hf:Few T)(n:Nat)(c x y:Int)(w:World)(h:Xg w S T)(hxy:Xb T.dec c=[x,y])
 (hrec:Xb T.dec x≠[]→∀ w',Ext w w'→Calls prog 112 #[Vg T,.int .i64 x] w' fun e w''=>e=.returned (.bool (Fz T n x))∧Ext w' w'') :
 Calls prog 112 #[Vg T,.int .i64 c] w fun e w'=>e=.returned (.bool (Fz T (n+1) c))∧Ext w w':=by
 obtain⟨A9,C9,e9,hl9,hc9⟩:=h.dec.shape;have h9:=h.dec.ext ((Yk w).alloc (Wz T));obtain⟨n9,hn9⟩:=gnX (T.dec.length);rw[hn9]at e9 hl9;rw[e9]at h9;have Hn9:=Y8 hn9;have E9:=Y8 e9;have H9:=Y8 h9;unfold maxLen at hc9;clear hn9 e9 h9;obtain⟨X0,H,Hb0⟩:=tblX h;clear h;have hfa:=Qi (S:=S) (c:=c) H9.o.2;rw[hxy]at hfa;obtain⟨g,o,FC,ef,_,fc,_,hgl,c0⟩:=hfa.get (j:=0) rfl;obtain⟨g',o',FC',ef',_,_,_,_,c1⟩:=hfa.get (j:=1) rfl;rw[ef]at ef';simp only[Yd,Yc,Zga,Zg0,Zfw]at ef';obtain⟨⟨rfl,rfl⟩,rfl⟩:=ef';rw[Zfu]at c0;rw[show([x,y]:List Int).length=2 from rfl]at ef;have Hrec:=Y8 hrec;have Hxy:=Y8 hxy;have Hx:=Y8 (Yk (w.alloc (Wz T)));have b9:=(Hb0.o.ext Hx.o).at_ 9 (by omega);rw[show(Qk T)[9]?=some T.decV from rfl,E9.o]at b9;clear hrec hxy hfa Hx;go_enter func112,ntmps112;go_wp2_with (first|(refine Xv rfl ?_)|(go_at_call 111;refine(Wy _ T.dec c _ H9.o).mono ?_;rintro e w1 ⟨rfl,hx1⟩));have B9:=Y8 b9;have C0:=Y8 c0;have C1:=Y8 c1;clear b9 c0 c1;have HW:=Y8 (H.o.up hx1);have HD:=Y8 (H9.o.ext hx1);have hC:∀ w',(∃ p:Vt,w'=later w1 p.n p.os)→Kn w' w.heap.size T:=fun w' ⟨p,e⟩=>by rw[e];exact(Hb0.o.ext hx1).ext (⟨_,_,rfl⟩)
 have m9:=lat (((hx1).cell (p:=⟨w.heap.size,9,none⟩) Hb0.o.lt).trans B9.o);have m0:=lat (((hx1).cell (p:=⟨g,o,none⟩) hgl).trans C0.o);have m1:=lat (((hx1).cell (p:=⟨g,o+1,none⟩) hgl).trans C1.o);obtain⟨YA,YC,ey,yl,yc⟩:=(Qi (S:=S) (c:=y) HD.o.2).shape;obtain⟨ny,hny⟩:=gnX ((Xb T.dec y).length);rw[hny]at ey yl;have Hny:=Y8 hny;clear hny;rcases Zfm (Ztl T.exc c)with q1|q1
 ·have hun:=Ya;refine wreX ?_;repeat(first|((with_reducible refine Xf ?_ ?_ hC ?_);(focus(go_simp;done));rfl)|(refine(Yu ?_:);intro K hK;go_simp;first|(refine hK _ ?_;clear hK K)|(apply Exists.intro;refine⟨fun _=>?_,hK _ ?_⟩;(first|(go_at_call 147;exact Xx (Wi T _ _ (HW.o.up (⟨_,_,rfl⟩))))|(go_at_call 148;exact Xx (Xl T _ _ (HW.o.up (⟨_,_,rfl⟩))))|(go_at_call 111;exact Xx (Wy _ T.dec _ _ (HD.o.ext (⟨_,_,rfl⟩)))));clear hK K)))
  refine Yt ?_;intro w1 hy;clear hun;go_wp2_with fail;go_ret;exact⟨by rw[Jg Hxy.o,Zgn (.inl q1)];rfl,X0.o.trans (hx1.trans hy)⟩
 rcases Zfm (Wk T.cls c==0)with q2|q2;rotate_left
 ·have q2b:(!(Wk T.cls c==0))=true:=by rw[q2];rfl
  have q2c:(Wk T.cls c !=0)=true:=q2b;have hun:=Ya;refine wreX ?_;repeat(first|((with_reducible refine Xf ?_ ?_ hC ?_);(focus(go_simp;done));rfl)|(refine(Yu ?_:);intro K hK;go_simp;first|(refine hK _ ?_;clear hK K)|(apply Exists.intro;refine⟨fun _=>?_,hK _ ?_⟩;(first|(go_at_call 147;exact Xx (Wi T _ _ (HW.o.up (⟨_,_,rfl⟩))))|(go_at_call 148;exact Xx (Xl T _ _ (HW.o.up (⟨_,_,rfl⟩))))|(go_at_call 111;exact Xx (Wy _ T.dec _ _ (HD.o.ext (⟨_,_,rfl⟩)))));clear hK K)))
  refine Yt ?_;intro w1 hy;clear hun;go_wp2_with fail;go_ret;exact⟨by rw[Jg Hxy.o,Zgn (.inr (.inl (by simpa using q2)))];rfl,X0.o.trans (hx1.trans hy)⟩
 have q2b:(!(Wk T.cls c==0))=false:=by rw[q2];rfl
 have q2c:(Wk T.cls c !=0)=false:=q2b;rcases Zfm (Wk T.cls x==0)with q3|q3;rotate_left
 ·have q3b:(!(Wk T.cls x==0))=true:=by rw[q3];rfl
  have q3c:(Wk T.cls x !=0)=true:=q3b;have hun:=Ya;refine wreX ?_;repeat(first|((with_reducible refine Xf ?_ ?_ hC ?_);(focus(go_simp;done));rfl)|(refine(Yu ?_:);intro K hK;go_simp;first|(refine hK _ ?_;clear hK K)|(apply Exists.intro;refine⟨fun _=>?_,hK _ ?_⟩;(first|(go_at_call 147;exact Xx (Wi T _ _ (HW.o.up (⟨_,_,rfl⟩))))|(go_at_call 148;exact Xx (Xl T _ _ (HW.o.up (⟨_,_,rfl⟩))))|(go_at_call 111;exact Xx (Wy _ T.dec _ _ (HD.o.ext (⟨_,_,rfl⟩)))));clear hK K)))
  refine Yt ?_;intro w1 hy;clear hun;go_wp2_with fail;go_ret;exact⟨by rw[Jg Hxy.o,Zgn (.inr (.inr (.inl (by simpa using q3))))];rfl,X0.o.trans (hx1.trans hy)⟩
 have q3b:(!(Wk T.cls x==0))=false:=by rw[q3];rfl
 have q3c:(Wk T.cls x !=0)=false:=q3b;by_cases hy0:0<ny
 ·have q4:decide ((0:Int)<(ny:Int))=true:=Ye;have q5:decide (0<ny)=true:=Ye hy0;have Hy0:=Y8 (show Xb T.dec y≠[] by intro hh;have:=Hny.o;rw[hh]at this;simp at this;omega);have hun:=Ya;refine wreX ?_;repeat(first|((with_reducible refine Xf ?_ ?_ hC ?_);(focus(go_simp;done));rfl)|(refine(Yu ?_:);intro K hK;go_simp;first|(refine hK _ ?_;clear hK K)|(apply Exists.intro;refine⟨fun _=>?_,hK _ ?_⟩;(first|(go_at_call 147;exact Xx (Wi T _ _ (HW.o.up (⟨_,_,rfl⟩))))|(go_at_call 148;exact Xx (Xl T _ _ (HW.o.up (⟨_,_,rfl⟩))))|(go_at_call 111;exact Xx (Wy _ T.dec _ _ (HD.o.ext (⟨_,_,rfl⟩)))));clear hK K)))
  refine Yt ?_;intro w1 hy;clear hun;go_wp2_with fail;go_ret;exact⟨by rw[Jg Hxy.o,Zgn (.inr (.inr (.inr Hy0.o)))];rfl,X0.o.trans (hx1.trans hy)⟩
 have q4:decide ((0:Int)<(ny:Int))=false:=Yf;have q5:decide (0<ny)=false:=Yf hy0;have Hy0:=Y8 (show Xb T.dec y=[] from Zgb (by rw[Hny.o];omega));have hun:=Ya;refine wreX ?_;repeat(first|((with_reducible refine Xf ?_ ?_ hC ?_);(focus(go_simp;done));rfl)|(refine(Yu ?_:);intro K hK;go_simp;first|(refine hK _ ?_;clear hK K)|(apply Exists.intro;refine⟨fun _=>?_,hK _ ?_⟩;(first|(go_at_call 147;exact Xx (Wi T _ _ (HW.o.up (⟨_,_,rfl⟩))))|(go_at_call 148;exact Xx (Xl T _ _ (HW.o.up (⟨_,_,rfl⟩))))|(go_at_call 111;exact Xx (Wy _ T.dec _ _ (HD.o.ext (⟨_,_,rfl⟩)))));clear hK K)))
 refine Yt ?_;intro w2 hy2;have Hx2:=Y8 (hx1.trans hy2);clear hun hx1 hy2 HW HD hC m9 m0 m1;have Hno:=Y8 (show ¬ (Ztl T.exc c=true∨Wk T.cls c≠0∨Wk T.cls x≠0∨Xb T.dec y≠[]) from by
  have h1:Wk T.cls c=0:=by simpa using q2
  have h2:Wk T.cls x=0:=by simpa using q3
  rw[q1,h1,h2,Hy0.o];simp)
 clear q1 q2 q3 q2b q2c q3b q3c q4 q5 ey;have HW:=Y8 (H.o.up Hx2.o);have HD:=Y8 (H9.o.ext Hx2.o);have hC:∀ w',(∃ p:Vt,w'=later w2 p.n p.os)→Kn w' w.heap.size T:=fun w' ⟨p,e⟩=>by rw[e];exact(Hb0.o.ext Hx2.o).ext (⟨_,_,rfl⟩)
 have m9:=lat (((Hx2.o).cell (p:=⟨w.heap.size,9,none⟩) Hb0.o.lt).trans B9.o);have m0:=lat (((Hx2.o).cell (p:=⟨g,o,none⟩) hgl).trans C0.o);have m1:=lat (((Hx2.o).cell (p:=⟨g,o+1,none⟩) hgl).trans C1.o);go_wp2_with fail;obtain⟨XA,XC,ex,xl,xc⟩:=(Qi (S:=S) (c:=x) HD.o.2).shape;obtain⟨nx,hnx⟩:=gnX ((Xb T.dec x).length);rw[hnx]at ex xl;have Hnx:=Y8 hnx;clear hnx;by_cases hx0:0<nx
 ·have q4:decide ((0:Int)<(nx:Int))=true:=Ye;have q5:decide (0<nx)=true:=Ye hx0;have Hxn:=Y8 (show Xb T.dec x≠[] by intro hh;have:=Hnx.o;rw[hh]at this;simp at this;omega);have Hrc:=Y8 (fun n' os=>Hrec.o Hxn.o (later w2 n' os) (X0.o.trans (Hx2.o.trans ⟨n',os,rfl⟩)));cases hcb:Fz T n x
  ·have Hcb:=Y8 hcb;have hun:=Ya;refine wreX ?_;repeat(first|((with_reducible refine Xf ?_ ?_ hC ?_);(focus(go_simp;done));rfl)|(refine(Yu ?_:);intro K hK;go_simp;first|(refine hK _ ?_;clear hK K)|(apply Exists.intro;refine⟨fun _=>?_,hK _ ?_⟩;(first|(go_at_call 112;exact Xx (Hrc.o _ _))|(go_at_call 111;exact Xx (Wy _ T.dec _ _ (HD.o.ext (⟨_,_,rfl⟩)))));clear hK K)))
   refine Yt ?_;intro w1 hy;clear hun;go_wp2_with fail;go_ret;exact⟨by rw[Jg Hxy.o,Zgq Hno.o,Zgn ⟨Hxn.o,Hcb.o⟩];rfl,X0.o.trans (Hx2.o.trans hy)⟩
  have Hno2:=Y8 (show ¬ (Xb T.dec x≠[]∧Fz T n x=false) from fun h=>by rw[hcb]at h;exact absurd h.2 (by simp));have hun:=Ya;refine wreX ?_;repeat(first|((with_reducible refine Xf ?_ ?_ hC ?_);(focus(go_simp;done));rfl)|(refine(Yu ?_:);intro K hK;go_simp;first|(refine hK _ ?_;clear hK K)|(apply Exists.intro;refine⟨fun _=>?_,hK _ ?_⟩;(first|(go_at_call 112;exact Xx (Hrc.o _ _))|(go_at_call 111;exact Xx (Wy _ T.dec _ _ (HD.o.ext (⟨_,_,rfl⟩)))));clear hK K)))
  refine Yt ?_;intro w3 hy3;clear hun;go_wp2_with fail;have Hx3:=Y8 (Hx2.o.trans hy3);clear hy3 HW HD hC m9 m0 m1;obtain⟨r,hfull,hne,hr18⟩:=Zyq hfin x;have Hfull:=Y8 hfull;have z0:(w3).cell? ⟨w.heap.size,0,none⟩=some T.catV:=(Hb0.o.ext Hx3.o).at_ 0 (by omega);have z1:(w3).cell? ⟨w.heap.size,1,none⟩=some T.clsV:=(Hb0.o.ext Hx3.o).at_ 1 (by omega);have z2:(w3).cell? ⟨w.heap.size,2,none⟩=some T.joiV:=(Hb0.o.ext Hx3.o).at_ 2 (by omega);have z3:(w3).cell? ⟨w.heap.size,3,none⟩=some T.bidV:=(Hb0.o.ext Hx3.o).at_ 3 (by omega);have z4:(w3).cell? ⟨w.heap.size,4,none⟩=some T.scrV:=(Hb0.o.ext Hx3.o).at_ 4 (by omega);have z5:(w3).cell? ⟨w.heap.size,5,none⟩=some T.staV:=(Hb0.o.ext Hx3.o).at_ 5 (by omega);have z6:(w3).cell? ⟨w.heap.size,6,none⟩=some T.ignV:=(Hb0.o.ext Hx3.o).at_ 6 (by omega);have z7:(w3).cell? ⟨w.heap.size,7,none⟩=some T.extV:=(Hb0.o.ext Hx3.o).at_ 7 (by omega);have z8:(w3).cell? ⟨w.heap.size,8,none⟩=some T.mapV:=(Hb0.o.ext Hx3.o).at_ 8 (by omega);have z9:(w3).cell? ⟨w.heap.size,9,none⟩=some T.decV:=(Hb0.o.ext Hx3.o).at_ 9 (by omega);have z10:(w3).cell? ⟨w.heap.size,10,none⟩=some T.excV:=(Hb0.o.ext Hx3.o).at_ 10 (by omega);have z11:(w3).cell? ⟨w.heap.size,11,none⟩=some T.proV:=(Hb0.o.ext Hx3.o).at_ 11 (by omega);have n0:=(Hx3.o.cell (p:=⟨g,o,none⟩) hgl).trans C0.o;have n1:=(Hx3.o.cell (p:=⟨g,o+1,none⟩) hgl).trans C1.o;clear hfull;go_region_with (go_at_call 146;refine(Dw T x _ (H.o.up (have hx:=Hx3.o;xE)) hf).mono ?_;rintro e w5 hp;unfold J2 at hp;rw[Hfull.o]at hp;obtain⟨v5,rfl,hv5,hx5⟩:=hp);all_goals
   have Hx5:=Y8 (Hx3.o.drew.trans hx5);obtain⟨A5,C5,rfl,hl5,hc5⟩:=hv5.shape;have Hv5:=Y8 hv5;clear z0 z1 z2 z3 z4 z5 z6 z7 z8 z9 z10 z11 n0 n1 hx5 hv5;go_simp;go_wp2_with fail;have hrp:0<r.length:=Zdv.2 hne;have hlast:r[r.length-1]?=some (I5 T x):=by
    unfold I5;rw[Hfull.o];exact Ny hne
   have HW:=Y8 (H.o.up Hx5.o);have HD:=Y8 (H9.o.ext Hx5.o);have hC:∀ w',(∃ p:Vt,w'=later w5 p.n p.os)→Kn w' w.heap.size T:=fun w' ⟨p,e⟩=>by rw[e];exact(Hb0.o.ext Hx5.o).ext (⟨_,_,rfl⟩)
   have m9:=lat (((Hx5.o).cell (p:=⟨w.heap.size,9,none⟩) Hb0.o.lt).trans B9.o);have m0:=lat (((Hx5.o).cell (p:=⟨g,o,none⟩) hgl).trans C0.o);have m1:=lat (((Hx5.o).cell (p:=⟨g,o+1,none⟩) hgl).trans C1.o);obtain⟨g5,o5,c5,e5,_,_,_,_,k5⟩:=Hv5.o.get hlast;obtain⟨rfl,-,rfl⟩:=slcX e5;clear e5;have m5:=lat k5;have Hlast:=Y8 hlast;obtain⟨nr,hnr⟩:=gnX (r.length);rw[hnr]at m5 hrp hr18⊢;have Hnr:=Y8 hnr;clear hlast k5 hnr hl5;have p1:=Ve nr hrp (by omega);have p2:(1:Int)≤(nr:Int):=by omega
   have p3:(0:Int)≤((nr-1:Nat):Int):=by omega
   have p4:((nr-1:Nat):Int)<(nr:Int):=by omega
   have p5:IntKind.i64.wrap ((nr-1:Nat):Int)=((nr-1:Nat):Int):=Yp _ (by omega);have p6:nr-1<nr:=by omega
   rcases Zfm (Wk T.cls y==0)with u1|u1
   ·have U1:=Y8 u1;have hun:=Ya;refine wreX ?_;repeat(first|((with_reducible refine Xf ?_ ?_ hC ?_);(focus(go_simp;done));rfl)|(refine(Yu ?_:);intro K hK;go_simp;first|(refine hK _ ?_;clear hK K)|(apply Exists.intro;refine⟨fun _=>?_,hK _ ?_⟩;(first|(go_at_call 147;exact Xx (Wi T _ _ (HW.o.up (⟨_,_,rfl⟩))))|(go_at_call 148;exact Xx (Xl T _ _ (HW.o.up (⟨_,_,rfl⟩))))|(go_at_call 111;exact Xx (Wy _ T.dec _ _ (HD.o.ext (⟨_,_,rfl⟩)))));clear hK K)))
    refine Yt ?_;intro w1 hy;clear hun;go_wp2_with fail;go_ret;exact⟨by rw[Jg Hxy.o,Zgq Hno.o,Zgq Hno2.o];first|(rw[U1.o,U2.o];rfl)|(rw[U1.o];rfl),X0.o.trans (Hx5.o.trans hy)⟩
   rcases Zfm (decide (Wk T.cls (I5 T x)≤Wk T.cls y))with u2|u2
   ·have U1:=Y8 u1;have U2:=Y8 u2;have hun:=Ya;refine wreX ?_;repeat(first|((with_reducible refine Xf ?_ ?_ hC ?_);(focus(go_simp;done));rfl)|(refine(Yu ?_:);intro K hK;go_simp;first|(refine hK _ ?_;clear hK K)|(apply Exists.intro;refine⟨fun _=>?_,hK _ ?_⟩;(first|(go_at_call 147;exact Xx (Wi T _ _ (HW.o.up (⟨_,_,rfl⟩))))|(go_at_call 148;exact Xx (Xl T _ _ (HW.o.up (⟨_,_,rfl⟩))))|(go_at_call 111;exact Xx (Wy _ T.dec _ _ (HD.o.ext (⟨_,_,rfl⟩)))));clear hK K)))
    refine Yt ?_;intro w1 hy;clear hun;go_wp2_with fail;go_ret;exact⟨by rw[Jg Hxy.o,Zgq Hno.o,Zgq Hno2.o];first|(rw[U1.o,U2.o];rfl)|(rw[U1.o];rfl),X0.o.trans (Hx5.o.trans hy)⟩
   have U1:=Y8 u1;have U2:=Y8 u2;have hun:=Ya;refine wreX ?_;repeat(first|((with_reducible refine Xf ?_ ?_ hC ?_);(focus(go_simp;done));rfl)|(refine(Yu ?_:);intro K hK;go_simp;first|(refine hK _ ?_;clear hK K)|(apply Exists.intro;refine⟨fun _=>?_,hK _ ?_⟩;(first|(go_at_call 147;exact Xx (Wi T _ _ (HW.o.up (⟨_,_,rfl⟩))))|(go_at_call 148;exact Xx (Xl T _ _ (HW.o.up (⟨_,_,rfl⟩))))|(go_at_call 111;exact Xx (Wy _ T.dec _ _ (HD.o.ext (⟨_,_,rfl⟩)))));clear hK K)))
   refine Yt ?_;intro w1 hy;clear hun;go_wp2_with fail;go_ret;exact⟨by rw[Jg Hxy.o,Zgq Hno.o,Zgq Hno2.o];first|(rw[U1.o,U2.o];rfl)|(rw[U1.o];rfl),X0.o.trans (Hx5.o.trans hy)⟩
 have q4:decide ((0:Int)<(nx:Int))=false:=Yf;have q5:decide (0<nx)=false:=Yf hx0;have hun:=Ya;refine wreX ?_;repeat(first|((with_reducible refine Xf ?_ ?_ hC ?_);(focus(go_simp;done));rfl)|(refine(Yu ?_:);intro K hK;go_simp;first|(refine hK _ ?_;clear hK K)|(apply Exists.intro;refine⟨fun _=>?_,hK _ ?_⟩;(first|(go_at_call 147;exact Xx (Wi T _ _ (HW.o.up (⟨_,_,rfl⟩))))|(go_at_call 148;exact Xx (Xl T _ _ (HW.o.up (⟨_,_,rfl⟩))))|(go_at_call 111;exact Xx (Wy _ T.dec _ _ (HD.o.ext (⟨_,_,rfl⟩)))));clear hK K)))
 refine Yt ?_;intro w3 hy3;clear hun;go_wp2_with fail;have Hno2:=Y8 (show ¬ (Xb T.dec x≠[]∧Fz T n x=false) from fun h=>h.1 (Zgb (by rw[Hnx.o];omega)));have Hx3:=Y8 (Hx2.o.trans hy3);clear hy3 HW HD hC m9 m0 m1;obtain⟨r,hfull,hne,hr18⟩:=Zyq hfin x;have Hfull:=Y8 hfull;have z0:(w3).cell? ⟨w.heap.size,0,none⟩=some T.catV:=(Hb0.o.ext Hx3.o).at_ 0 (by omega);have z1:(w3).cell? ⟨w.heap.size,1,none⟩=some T.clsV:=(Hb0.o.ext Hx3.o).at_ 1 (by omega);have z2:(w3).cell? ⟨w.heap.size,2,none⟩=some T.joiV:=(Hb0.o.ext Hx3.o).at_ 2 (by omega);have z3:(w3).cell? ⟨w.heap.size,3,none⟩=some T.bidV:=(Hb0.o.ext Hx3.o).at_ 3 (by omega);have z4:(w3).cell? ⟨w.heap.size,4,none⟩=some T.scrV:=(Hb0.o.ext Hx3.o).at_ 4 (by omega);have z5:(w3).cell? ⟨w.heap.size,5,none⟩=some T.staV:=(Hb0.o.ext Hx3.o).at_ 5 (by omega);have z6:(w3).cell? ⟨w.heap.size,6,none⟩=some T.ignV:=(Hb0.o.ext Hx3.o).at_ 6 (by omega);have z7:(w3).cell? ⟨w.heap.size,7,none⟩=some T.extV:=(Hb0.o.ext Hx3.o).at_ 7 (by omega);have z8:(w3).cell? ⟨w.heap.size,8,none⟩=some T.mapV:=(Hb0.o.ext Hx3.o).at_ 8 (by omega);have z9:(w3).cell? ⟨w.heap.size,9,none⟩=some T.decV:=(Hb0.o.ext Hx3.o).at_ 9 (by omega);have z10:(w3).cell? ⟨w.heap.size,10,none⟩=some T.excV:=(Hb0.o.ext Hx3.o).at_ 10 (by omega);have z11:(w3).cell? ⟨w.heap.size,11,none⟩=some T.proV:=(Hb0.o.ext Hx3.o).at_ 11 (by omega);have n0:=(Hx3.o.cell (p:=⟨g,o,none⟩) hgl).trans C0.o;have n1:=(Hx3.o.cell (p:=⟨g,o+1,none⟩) hgl).trans C1.o;clear hfull;go_region_with (go_at_call 146;refine(Dw T x _ (H.o.up (have hx:=Hx3.o;xE)) hf).mono ?_;rintro e w5 hp;unfold J2 at hp;rw[Hfull.o]at hp;obtain⟨v5,rfl,hv5,hx5⟩:=hp);all_goals
  have Hx5:=Y8 (Hx3.o.drew.trans hx5);obtain⟨A5,C5,rfl,hl5,hc5⟩:=hv5.shape;have Hv5:=Y8 hv5;clear z0 z1 z2 z3 z4 z5 z6 z7 z8 z9 z10 z11 n0 n1 hx5 hv5;go_simp;go_wp2_with fail;have hrp:0<r.length:=Zdv.2 hne;have hlast:r[r.length-1]?=some (I5 T x):=by
   unfold I5;rw[Hfull.o];exact Ny hne
  have HW:=Y8 (H.o.up Hx5.o);have HD:=Y8 (H9.o.ext Hx5.o);have hC:∀ w',(∃ p:Vt,w'=later w5 p.n p.os)→Kn w' w.heap.size T:=fun w' ⟨p,e⟩=>by rw[e];exact(Hb0.o.ext Hx5.o).ext (⟨_,_,rfl⟩)
  have m9:=lat (((Hx5.o).cell (p:=⟨w.heap.size,9,none⟩) Hb0.o.lt).trans B9.o);have m0:=lat (((Hx5.o).cell (p:=⟨g,o,none⟩) hgl).trans C0.o);have m1:=lat (((Hx5.o).cell (p:=⟨g,o+1,none⟩) hgl).trans C1.o);obtain⟨g5,o5,c5,e5,_,_,_,_,k5⟩:=Hv5.o.get hlast;obtain⟨rfl,-,rfl⟩:=slcX e5;clear e5;have m5:=lat k5;have Hlast:=Y8 hlast;obtain⟨nr,hnr⟩:=gnX (r.length);rw[hnr]at m5 hrp hr18⊢;have Hnr:=Y8 hnr;clear hlast k5 hnr hl5;have p1:=Ve nr hrp (by omega);have p2:(1:Int)≤(nr:Int):=by omega
  have p3:(0:Int)≤((nr-1:Nat):Int):=by omega
  have p4:((nr-1:Nat):Int)<(nr:Int):=by omega
  have p5:IntKind.i64.wrap ((nr-1:Nat):Int)=((nr-1:Nat):Int):=Yp _ (by omega);have p6:nr-1<nr:=by omega
  rcases Zfm (Wk T.cls y==0)with u1|u1
  ·have U1:=Y8 u1;have hun:=Ya;refine wreX ?_;repeat(first|((with_reducible refine Xf ?_ ?_ hC ?_);(focus(go_simp;done));rfl)|(refine(Yu ?_:);intro K hK;go_simp;first|(refine hK _ ?_;clear hK K)|(apply Exists.intro;refine⟨fun _=>?_,hK _ ?_⟩;(first|(go_at_call 147;exact Xx (Wi T _ _ (HW.o.up (⟨_,_,rfl⟩))))|(go_at_call 148;exact Xx (Xl T _ _ (HW.o.up (⟨_,_,rfl⟩))))|(go_at_call 111;exact Xx (Wy _ T.dec _ _ (HD.o.ext (⟨_,_,rfl⟩)))));clear hK K)))
   refine Yt ?_;intro w1 hy;clear hun;go_wp2_with fail;go_ret;exact⟨by rw[Jg Hxy.o,Zgq Hno.o,Zgq Hno2.o];first|(rw[U1.o,U2.o];rfl)|(rw[U1.o];rfl),X0.o.trans (Hx5.o.trans hy)⟩
  rcases Zfm (decide (Wk T.cls (I5 T x)≤Wk T.cls y))with u2|u2
  ·have U1:=Y8 u1;have U2:=Y8 u2;have hun:=Ya;refine wreX ?_;repeat(first|((with_reducible refine Xf ?_ ?_ hC ?_);(focus(go_simp;done));rfl)|(refine(Yu ?_:);intro K hK;go_simp;first|(refine hK _ ?_;clear hK K)|(apply Exists.intro;refine⟨fun _=>?_,hK _ ?_⟩;(first|(go_at_call 147;exact Xx (Wi T _ _ (HW.o.up (⟨_,_,rfl⟩))))|(go_at_call 148;exact Xx (Xl T _ _ (HW.o.up (⟨_,_,rfl⟩))))|(go_at_call 111;exact Xx (Wy _ T.dec _ _ (HD.o.ext (⟨_,_,rfl⟩)))));clear hK K)))
   refine Yt ?_;intro w1 hy;clear hun;go_wp2_with fail;go_ret;exact⟨by rw[Jg Hxy.o,Zgq Hno.o,Zgq Hno2.o];first|(rw[U1.o,U2.o];rfl)|(rw[U1.o];rfl),X0.o.trans (Hx5.o.trans hy)⟩
  have U1:=Y8 u1;have U2:=Y8 u2;have hun:=Ya;refine wreX ?_;repeat(first|((with_reducible refine Xf ?_ ?_ hC ?_);(focus(go_simp;done));rfl)|(refine(Yu ?_:);intro K hK;go_simp;first|(refine hK _ ?_;clear hK K)|(apply Exists.intro;refine⟨fun _=>?_,hK _ ?_⟩;(first|(go_at_call 147;exact Xx (Wi T _ _ (HW.o.up (⟨_,_,rfl⟩))))|(go_at_call 148;exact Xx (Xl T _ _ (HW.o.up (⟨_,_,rfl⟩))))|(go_at_call 111;exact Xx (Wy _ T.dec _ _ (HD.o.ext (⟨_,_,rfl⟩)))));clear hK K)))
  refine Yt ?_;intro w1 hy;clear hun;go_wp2_with fail;go_ret;exact⟨by rw[Jg Hxy.o,Zgq Hno.o,Zgq Hno2.o];first|(rw[U1.o,U2.o];rfl)|(rw[U1.o];rfl),X0.o.trans (Hx5.o.trans hy)⟩
def swp(f:Int→Int)(l:List Int)(i:Nat):List Int :=
 match l[i-1]?,l[i]? with
 | some x,some y=>if 0<f y∧f y<f x then(l.set (i-1) y).set i x else l
 | _,_=>l
def Sf(f:Int→Int):List Int→Nat
 | []=>0
 | x::r=>r.countP (fun y=>decide (f y<f x))+Sf f r
theorem Id(f:Int→Int){x y:Int}(h:f y<f x)(b:List Int):∀ a:List Int,Sf f (a++y::x::b)<Sf f (a++x::y::b)
 | []=>by
  simp only[Zo,Sf,Zeb];have h1:decide (f y<f x)=true:=Ye h;have h2:decide (f x<f y)=false:=Yf;rw[h1,h2];simp only[Zc6,Ze0,Zc2];omega
 | z::a=>by
  have:=Id f h b a;simp only[Zd0,Sf,Zcu,Zeb];omega
theorem Zie(f:Int→Int)(l:List Int)(i:Nat):(swp f l i).length=l.length:=by
 unfold swp;split
 ·split<;>simp
 rfl
theorem Zha{f:Int→Int}{l:List Int}{i:Nat}{x y:Int}(hx:l[i-1]?=some x)(hy:l[i]?=some y)(h:¬ (0<f y∧f y<f x)):swp f l i=l:=by
 unfold swp;rw[hx,hy];simp only;rw[Zgq h]
theorem Zou{f:Int→Int}{l:List Int}{i:Nat}{x y:Int}(hx:l[i-1]?=some x)(hy:l[i]?=some y)(h:0<f y∧f y<f x):swp f l i=(l.set (i-1) y).set i x:=by
 unfold swp;rw[hx,hy];simp only;rw[Zgn h]
theorem Zhb{f:Int→Int}{l:List Int}{k:Nat}{x y:Int}(hx:l[k]?=some x)(hy:l[k+1]?=some y)(h:0<f y∧f y<f x):Sf f (swp f l (k+1))<Sf f l:=by
 rw[Zou (by simpa using hx) hy h];have hk:=(Zr.1 hy).1;have e0:l=l.take k++x::y::l.drop (k+2):=by
  apply Zdi;intro j;rw[List.getElem?_append,Zp,Zef (by omega)];split
  ·rw[Yw,Zgn (by assumption)]
  rename_i hj;rcases Zff j (k+1)with h1|h1
  ·have:j=k:=by omega
   subst this;simp[hx]
  rcases Zff j (k+2)with h2|h2
  ·have:j=k+1:=by omega
   subst this;simp[hy]
  obtain⟨m,rfl⟩:∃ m,j=k+2+m:=⟨j-(k+2),by omega⟩;rw[show k+2+m-k=m+1+1 by omega];simp
 obtain⟨a,b,e,ha⟩:∃ a b,l=a++x::y::b∧a.length=k:=⟨l.take k,l.drop (k+2),e0,by rw[Zp];omega⟩;clear e0 hx hy hk;subst e ha;rw[show((a++x::y::b).set (a.length+1-1) y).set (a.length+1) x=a++y::x::b by simp[Zd6]];exact Id f h.2 _ _
def Zwd(f:Int→Int)(l:List Int):Nat→List Int
 | 0=>l
 | k+1=>swp f (Zwd f l k) (k+1)
theorem Ts(f:Int→Int)(l:List Int):∀ k,(Zwd f l k).length=l.length
 | 0=>rfl
 | k+1=>by rw[Zwd,Zie,Ts f l k]
def Zuh(f:Int→Int)(l:List Int):List Int:=Zwd f l (l.length-1)
def El(f:Int→Int)(l:List Int):List Int:=if _h:Sf f (Zuh f l)<Sf f l then El f (Zuh f l)else l
termination_by Sf f l
theorem Zq5(f:Int→Int)(l:List Int):(El f l).length=l.length:=by
 induction l using El.induct f with
 | case1 l h ih =>
  rw[El,Zc5 h,ih];exact Ts _ _ _
 | case2 l h=>rw[El,dif_neg h]
theorem Zm8{f:Int→Int}{l:List Int}(h:Sf f (Zuh f l)<Sf f l):El f l=El f (Zuh f l):=by
 rw[El,Zc5 h]
theorem Zq4{f:Int→Int}{l:List Int}(h:Zuh f l=l):El f l=l:=by
 rw[El,dif_neg (by rw[h];omega)]
def u8L(zs:List Int):List UInt8:=zs.map fun z=>UInt8.ofNat (z%256).toNat
theorem Qg{w:World}(zs:List Int)(n:Nat)(hn:zs.length=n)(cs:Array Value)(hcs:cs=(zs.map fun z=>Value.int .u8 (z%256)).toArray) :
 (convert 224 9 (.slice (some ⟨w.heap.size,0,none⟩) n n)).run prog (w.alloc (.cells cs 5))=.ok (.string (bs (u8L zs))) (w.alloc (.cells cs 5)):=by
 subst hn hcs;have hl:zs.length=(u8L zs).length:=by simp[u8L]
 rw[hl];refine run_convert_bytes_back _ 224 9 5 ⟨w.heap.size,0,none⟩ _ (u8L zs) Uo Mr Ff fun j hj=>?_
 rw[Br];have h1:(w.alloc (.cells (zs.map fun z=>Value.int .u8 (z%256)).toArray 5)).heap[w.heap.size]?=some (.cells (zs.map fun z=>Value.int .u8 (z%256)).toArray 5):=Zg3 w _;have hj':j<zs.length:=by rw[hl];exact hj
 simp only[World.cell?,h1];simp only[u8L,Zcg];rw[Zoq (by omega)];simp[hj'];omega
def Pr(c:Int):List Int :=
 if Zus c=1 then[c]
 else if Zus c=2 then[wrap64 (192+wrap64 (c.tdiv 64)),wrap64 (128+c.tmod 64)]
 else if Zus c=3 then[wrap64 (224+wrap64 (c.tdiv 4096)),wrap64 (128+(wrap64 (c.tdiv 64)).tmod 64),wrap64 (128+c.tmod 64)]
 else[wrap64 (240+wrap64 (c.tdiv 262144)),wrap64 (128+(wrap64 (c.tdiv 4096)).tmod 64),wrap64 (128+(wrap64 (c.tdiv 64)).tmod 64),wrap64 (128+c.tmod 64)]
theorem Zm5(c:Int):(Pr c).length≤4:=by
 unfold Pr;split
 ·simp
 split
 ·simp
 split<;>simp
theorem one_any(c:Int)(w:World):Calls prog 166 #[.int .i64 c] w fun e w'=>e=.returned (.string (bs (u8L (Pr c))))∧Ext w w':=by
 go_enter func166,ntmps166;cases h1:(Zus c==1)
 ·cases h2:(Zus c==2)
  ·cases h3:(Zus c==3)
   ·have e1:Pr c=[wrap64 (240+wrap64 (c.tdiv 262144)),wrap64 (128+(wrap64 (c.tdiv 4096)).tmod 64),wrap64 (128+(wrap64 (c.tdiv 64)).tmod 64),wrap64 (128+c.tmod 64)]:=by
     simp at h1 h2 h3;unfold Pr;rw[Zgq h1,Zgq h2,Zgq h3]
    have E1:=Y8 e1;have hcv:=fun w:World=>Qg (w:=w) (Pr c) 4 (by rw[e1];rfl) _ rfl
    rw[e1]at hcv;simp only[Zg4,Zfv]at hcv;clear e1;go_wp2_with (go_at_call 186;refine(len_any _ _).mono ?_;rintro e w' ⟨rfl,rfl⟩);go_ret;exact⟨by rw[E1.o];rfl,(Yk w).alloc _⟩
   have e1:Pr c=[wrap64 (224+wrap64 (c.tdiv 4096)),wrap64 (128+(wrap64 (c.tdiv 64)).tmod 64),wrap64 (128+c.tmod 64)]:=by
    simp at h1 h2 h3;unfold Pr;rw[Zgq h1,Zgq h2,Zgn h3]
   have E1:=Y8 e1;have hcv:=fun w:World=>Qg (w:=w) (Pr c) 3 (by rw[e1];rfl) _ rfl
   rw[e1]at hcv;simp only[Zg4,Zfv]at hcv;clear e1;go_wp2_with (go_at_call 186;refine(len_any _ _).mono ?_;rintro e w' ⟨rfl,rfl⟩);go_ret;exact⟨by rw[E1.o];rfl,(Yk w).alloc _⟩
  have e1:Pr c=[wrap64 (192+wrap64 (c.tdiv 64)),wrap64 (128+c.tmod 64)]:=by
   simp at h1 h2;unfold Pr;rw[Zgq h1,Zgn h2]
  have E1:=Y8 e1;have hcv:=fun w:World=>Qg (w:=w) (Pr c) 2 (by rw[e1];rfl) _ rfl
  rw[e1]at hcv;simp only[Zg4,Zfv]at hcv;clear e1;go_wp2_with (go_at_call 186;refine(len_any _ _).mono ?_;rintro e w' ⟨rfl,rfl⟩);go_ret;exact⟨by rw[E1.o];rfl,(Yk w).alloc _⟩
 have e1:Pr c=[c]:=by simp at h1;unfold Pr;rw[Zgn h1]
 have E1:=Y8 e1;have hcv:=fun w:World=>Qg (w:=w) (Pr c) 1 (by rw[e1];rfl) _ rfl
 rw[e1]at hcv;simp only[Zg4,Zfv]at hcv;clear e1;go_wp2_with (go_at_call 186;refine(len_any _ _).mono ?_;rintro e w' ⟨rfl,rfl⟩);go_ret;exact⟨by rw[E1.o];rfl,(Yk w).alloc _⟩
def Zsv(w:World)(e:Ending)(w':World):Prop:=∃ t:Nat,e=.returned (.int .i64 (t:Int))∧1≤t∧t≤26∧w=w'
theorem Zh3(x:Int)(h0:1≤x)(h1:x≤26)(w:World):Zsv w (.returned (.int .i64 x)) w:=⟨x.toNat,by rw[Zew (by omega)],by omega,by omega,rfl⟩
theorem Zor(j b:Int)(w:World):Calls prog 259 #[.int .i64 j,.int .i64 b] w (Zsv w):=by
 go_enter func259,ntmps259;go_wp2_with fail;all_goals
  go_ret;exact Zh3 _ (by omega) (by omega) _
def Zo7(w:World)(e:Ending)(w':World):Prop:=∃ s:ByteArray,e=.returned (.string s)∧s.size=1∧w=w'
theorem Zwx(n:Nat)(h:n<36)(w:World):Calls prog 260 #[.int .i64 (n:Int)] w (Zo7 w):=by
 have h1:IntKind.i64.wrap ((n:Int)+1)=((n+1:Nat):Int):=Yp _ (by omega);have h2:(0:Int)≤(n:Int):=by omega
 have h3:(n:Int)≤((n+1:Nat):Int):=by omega
 have h4:((n+1:Nat):Int)≤36:=by omega
 go_enter func260,ntmps260;go_wp2_with fail;go_ret;exact⟨_,rfl,by rw[Zft];show min (n+1) 36-n=1;omega,rfl⟩
def Znr(n:Nat)(w:World)(e:Ending)(w':World):Prop:=∃ s:ByteArray,e=.returned (.string s)∧s.size≤n+1∧Ext w w'
theorem Zm4(n:Nat)(h:n≤1000000000)(b:Int)(w:World):Calls prog 244 #[.int .i64 (n:Int),.int .i64 b] w (Znr n w):=by
 go_enter func244,ntmps244;go_wp2_with fail;go_loopw [0,5,6] (fun v s j wr=>∃ (m:Nat) (u:ByteArray) (z:Int),v=.int .i64 (m:Int)∧m≤1000000000∧u.size+m≤n∧s=.string u∧j=.int .i64 z∧Ext w wr) (fun v _ _ _=>(intOf v).toNat);case atStart=>exact⟨n,⟨#[]⟩,0,rfl,h,by show 0+n≤n;omega,rfl,rfl,Yk _⟩
 obtain⟨m,u,z,rfl,hm,hu,rfl,rfl,hx⟩:=hrel;have Hx:=Y8 hx;clear hx;have A1:=fun(w1:World)=>Zor z b w1
 have hum:u.size≤maxLen:=by unfold maxLen;omega
 go_wp2_with fail;refine(A1 _).mono ?_;rintro e w1 ⟨t,rfl,ht1,ht2,rfl⟩;by_cases hlt:m<t
 ·have d1:=LTd m t;go_wp2_with fail;refine(Zwx m (by omega) _).mono ?_;rintro e w1 ⟨s,rfl,hs,rfl⟩;have hus:(u++s).size≤maxLen:=by simp;unfold maxLen;omega
  go_wp2_with fail;go_ret;exact⟨_,rfl,by simp;omega,Hx.o⟩
 have d1:=GEl m t;have q1:IntKind.i64.wrap ((m:Int)-(t:Int))=((m-t:Nat):Int):=by rw[Yp _ (by omega)];omega
 have q2:IntKind.i64.wrap (36-(t:Int))=((36-t:Nat):Int):=by rw[Yp _ (by omega)];omega
 have q3:(((36-t:Nat):Int)==0)=false:=by simp;omega
 have q4:((m-t:Nat):Int).tmod ((36-t:Nat):Int)=(((m-t)%(36-t):Nat):Int):=rfl;have hmod:(m-t)%(36-t)<36-t:=Zca _ (by omega);obtain⟨r,hr⟩:=gnX ((m-t)%(36-t));rw[hr]at q4 hmod;clear hr;have q5:IntKind.i64.wrap ((t:Int)+(r:Int))=((t+r:Nat):Int):=by rw[Yp _ (by omega)];omega
 have q6:((m-t:Nat):Int).tdiv ((36-t:Nat):Int)=(((m-t)/(36-t):Nat):Int):=rfl;have hdiv:(m-t)/(36-t)≤m-t:=Zd9 _ _;obtain⟨q,hq⟩:=gnX ((m-t)/(36-t));rw[hq]at q6 hdiv;clear hq;have q7:IntKind.i64.wrap (q:Int)=(q:Int):=Yp _ (by omega);have q8:(36-t:Nat)≠0:=by omega
 go_wp2_with fail;refine(Zwx (t+r) (by omega) _).mono ?_;rintro e w1 ⟨s,rfl,hs,rfl⟩;have hus:(u++s).size≤maxLen:=by simp;unfold maxLen;omega
 go_wp2_with fail;go_roundw;case rel=>exact⟨q,_,_,rfl,by omega,by simp;omega,rfl,rfl,Hx.o⟩
 (simp[intOf];omega)
theorem Te(d n:Nat)(hd:d≤100000000000)(hn:1≤n)(hn2:n≤4096)(b:Bool)(w:World):Calls prog 245 #[.int .i64 (d:Int),.int .i64 (n:Int),.bool b] w (Et w):=by
 have d1:decide ((d:Int)<0)=false:=Yf;have d2:decide ((1099511627776:Int)<(d:Int))=false:=Yf;have d3:decide ((n:Int)<1)=false:=Yf;have d4:decide ((4096:Int)<(n:Int))=false:=Yf;have d5:((n:Int)==0)=false:=by simp;omega
 have d6:n≠0:=by omega
 cases b
 ·have p2:(d:Int).tdiv 2=((d/2:Nat):Int):=rfl;obtain⟨m,hm⟩:=gnX (d/2);rw[hm]at p2;have hmd:m≤100000000000:=by omega
  clear hm;have p4:IntKind.i64.wrap (m:Int)=(m:Int):=Yp _ (by omega);have p5:(m:Int).tdiv (n:Int)=((m/n:Nat):Int):=rfl;have hq:=Zd9 m n;obtain⟨q,hqe⟩:=gnX (m/n);rw[hqe]at p5 hq;clear hqe;have p6:IntKind.i64.wrap (q:Int)=(q:Int):=Yp _ (by omega);have p7:IntKind.i64.wrap ((m:Int)+(q:Int))=((m+q:Nat):Int):=by rw[Yp _ (by omega)];omega
  go_enter func245,ntmps245;go_wp2_with fail;go_loopw [0,7] (fun v k wr=>∃ (a:Nat) (z:Int),v=.int .i64 (a:Int)∧a≤200000000000∧k=.int .i64 z∧Ext w wr) (fun v _ _=>(intOf v).toNat);case atStart=>exact⟨m+q,0,rfl,by omega,rfl,Yk _⟩
  obtain⟨a,z,rfl,ha,rfl,hx⟩:=hrel;by_cases hlt:455<a
  ·have e1:decide ((455:Int)<(a:Int))=true:=Ye;have e2:(a:Int).tdiv 35=((a/35:Nat):Int):=rfl;have e3:IntKind.i64.wrap ((a/35:Nat):Int)=((a/35:Nat):Int):=Yp _ (by omega);go_wp2_with fail;go_roundw;case rel=>exact⟨a/35,_,rfl,by omega,rfl,hx⟩
   (simp only[intOf];omega)
  have e1:decide ((455:Int)<(a:Int))=false:=Yf;have e2:IntKind.i64.wrap ((a:Int)+38)=((a+38:Nat):Int):=by rw[Yp _ (by omega)];omega
  have e3:(((a+38:Nat):Int)==0)=false:=by simp;omega
  have e4:a+38≠0:=by omega
  go_wp2_with fail;go_ret;exact⟨_,rfl,hx⟩
 have p2:(d:Int).tdiv 700=((d/700:Nat):Int):=rfl;obtain⟨m,hm⟩:=gnX (d/700);rw[hm]at p2;have hmd:m≤100000000000:=by omega
 clear hm;have p4:IntKind.i64.wrap (m:Int)=(m:Int):=Yp _ (by omega);have p5:(m:Int).tdiv (n:Int)=((m/n:Nat):Int):=rfl;have hq:=Zd9 m n;obtain⟨q,hqe⟩:=gnX (m/n);rw[hqe]at p5 hq;clear hqe;have p6:IntKind.i64.wrap (q:Int)=(q:Int):=Yp _ (by omega);have p7:IntKind.i64.wrap ((m:Int)+(q:Int))=((m+q:Nat):Int):=by rw[Yp _ (by omega)];omega
 go_enter func245,ntmps245;go_wp2_with fail;go_loopw [0,7] (fun v k wr=>∃ (a:Nat) (z:Int),v=.int .i64 (a:Int)∧a≤200000000000∧k=.int .i64 z∧Ext w wr) (fun v _ _=>(intOf v).toNat);case atStart=>exact⟨m+q,0,rfl,by omega,rfl,Yk _⟩
 obtain⟨a,z,rfl,ha,rfl,hx⟩:=hrel;by_cases hlt:455<a
 ·have e1:decide ((455:Int)<(a:Int))=true:=Ye;have e2:(a:Int).tdiv 35=((a/35:Nat):Int):=rfl;have e3:IntKind.i64.wrap ((a/35:Nat):Int)=((a/35:Nat):Int):=Yp _ (by omega);go_wp2_with fail;go_roundw;case rel=>exact⟨a/35,_,rfl,by omega,rfl,hx⟩
  (simp only[intOf];omega)
 have e1:decide ((455:Int)<(a:Int))=false:=Yf;have e2:IntKind.i64.wrap ((a:Int)+38)=((a+38:Nat):Int):=by rw[Yp _ (by omega)];omega
 have e3:(((a+38:Nat):Int)==0)=false:=by simp;omega
 have e4:a+38≠0:=by omega
 go_wp2_with fail;go_ret;exact⟨_,rfl,hx⟩
