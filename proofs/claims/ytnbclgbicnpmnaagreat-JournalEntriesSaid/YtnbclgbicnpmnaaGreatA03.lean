/- Lemmas of this claim: RA, RB, RC, RD, Pack, PutInt, RM, RRp, RN. Conditions: as named. -/
import Derived.Deep.RegionHeld3
import Derived.Laws.BitsAllLaws
import Derived.Laws.DeepNot64
import Derived.Laws.IdiomCopy
import Derived.WalkSmall
import Derived.Test.YtnbclgbicnpmnaaGreatA02
namespace Go.Proofs.YtnbclgbicnpmnaaGreat
open Go.RowKit Go.Sort
open List renaming getElem?_eq_getElem → Zz, mem_of_getElem? → Zy, getElem?_cons_zero → Zx, length_append → Zs, getElem?_eq_some_iff → Zr, length_map → Zq, length_take → Zp, nil_append → Zo, getElem?_map → Zn, take_of_length_le → Zm, length_cons → Zl, length_nil → Zk, not_mem_nil → Zh, mem_cons → Zg, getElem?_append_left → Ze, getElem?_append_right → Zd, take_add_one → Za, getElem?_toArray → Z3, getElem?_take → Yy
open Lib renaming hid → Yw
open Go renaming wpQuiet_step → Yv, wpQuiet_nil → Yu
open IntWalk renaming i64_in → Yq
open Nat renaming le_refl → Yo
open Ext renaming refl → Yl, alloc → Yk, drewN → Yj, drew → Yi, trans → Yh
set_option maxHeartbeats 40000000
set_option maxRecDepth 100000
set_option linter.all false
section
def Xz (w:World) (S:Nat→Prop) (v:Value) (l:List Int):Prop:=Rd w S 1 v l.length (l.map (Value.int .i64))
section
variable {w w':World} {S T:Nat→Prop} {v:Value} {l:List Int}
theorem Xz.ext (h:Xz w S v l) (x:Ext w w'):Xz w' S v l:=Rd.ext h x
theorem Xz.chg (h:Xz w S v l) (c:Chg T w w') (hd:∀ k,S k→¬ T k):Xz w' S v l:=Rd.chg h c hd
theorem Xz.shape (h:Xz w S v l):∃ A c,v=.slice A l.length c∧l.length≤c∧c≤maxLen:=by
 obtain ⟨_,A,c,h,h1,h2,_⟩:=h
 exact ⟨A,c,h,h1,h2⟩
theorem Xz.get (h:Xz w S v l) {j:Nat} {x:Int} (hj:l[j]?=some x) :
 ∃ g o c,v=.slice (some ⟨g,o,none⟩) l.length c∧l.length≤c∧c≤maxLen∧S g∧g < w.heap.size∧w.cell? ⟨g,o+j,none⟩=some (.int .i64 x):=by
 obtain ⟨g,o,c,h1,h2,h3,h4,h5,h6⟩:=Rd.at_ h (Zr.1 hj).1
 exact ⟨g,o,c,h1,h2,h3,h4,h5,h6 j _ (by rw [Zn,hj];rfl)⟩
theorem Xz.nil (w:World) (S:Nat→Prop):Xz w S (.slice none 0 0) []:=Rd.nil w S 1
end
structure Sp where
 fr:Int
 to_:Int
 val:Int
def Fc (s:Sp):List Value:=[.int .i64 s.fr,.int .i64 s.to_,.int .i64 s.val]
def Wi:List Sp→List Value
 | []=>[]
 | s::r=>Fc s++Wi r
theorem Ek:∀ l:List Sp,(Wi l).length=l.length * 3
 | []=>rfl
 | n::r=>by rw [Wi,Zs,Ek r];simp [Fc];omega
theorem J6:∀ a b:List Sp,Wi (a++b)=Wi a++Wi b
 | [],_=>rfl
 | n::r,b=>by simp [Wi,J6 r b]
theorem Ay:∀ {l:List Sp} {j:Nat} {s:Sp},l[j]?=some s→(Wi l)[j * 3]?=some (.int .i64 s.fr)∧(Wi l)[j * 3+1]?=some (.int .i64 s.to_)∧(Wi l)[j * 3+2]?=some (.int .i64 s.val)
 | m::r,0,n,h=>by
  simp only [Zx,Yd] at h
  subst h
  simp [Wi,Fc]
 | m::r,j+1,n,h=>by
  obtain ⟨h1,h2,h3⟩:=Ay (l:=r) (j:=j) (s:=n) (by simpa using h)
  have hm:(Fc m).length=3:=rfl
  have e:∀ k,(Wi (m::r))[(j+1) * 3+k]?=(Wi r)[j * 3+k]?:=fun k=>by
   rw [Wi,Zd (by omega),hm]
   congr 1;omega
  refine ⟨?_,?_,?_⟩
  ·have:=e 0;simp only [Nat.add_zero] at this;rw [this,h1]
  ·rw [e 1,h2]
  rw [e 2,h3]
def Vz (w:World) (S:Nat→Prop) (v:Value) (l:List Sp):Prop:=Rd w S 3 v l.length (Wi l)
section
variable {w w':World} {S T:Nat→Prop} {v:Value} {l:List Sp}
theorem Vz.ext (h:Vz w S v l) (x:Ext w w'):Vz w' S v l:=Rd.ext h x
theorem Vz.chg (h:Vz w S v l) (c:Chg T w w') (hd:∀ k,S k→¬ T k):Vz w' S v l:=Rd.chg h c hd
theorem Vz.shape (h:Vz w S v l):∃ A c,v=.slice A l.length c∧l.length≤c∧c≤maxLen:=by
 obtain ⟨_,A,c,h,h1,h2,_⟩:=h
 exact ⟨A,c,h,h1,h2⟩
theorem Vz.get (h:Vz w S v l) {j:Nat} {s:Sp} (hj:l[j]?=some s) :
 ∃ g o c,v=.slice (some ⟨g,o,none⟩) l.length c∧l.length≤c∧c≤maxLen∧S g∧g < w.heap.size∧w.cell? ⟨g,o+j * 3,none⟩=some (.int .i64 s.fr)∧w.cell? ⟨g,o+j * 3+1,none⟩=some (.int .i64 s.to_)∧w.cell? ⟨g,o+j * 3+2,none⟩=some (.int .i64 s.val):=by
 obtain ⟨g,o,c,h1,h2,h3,h4,h5,h6⟩:=Rd.at_ h (Zr.1 hj).1
 obtain ⟨q1,q2,q3⟩:=Ay hj
 exact ⟨g,o,c,h1,h2,h3,h4,h5,h6 _ _ q1,by rw [Nat.add_assoc];exact h6 _ _ q2,by rw [Nat.add_assoc];exact h6 _ _ q3⟩
end
structure Mp where
 fr:Int
 tv:Value
 to_:List Int
def F7 (s:Mp):List Value:=[.int .i64 s.fr,s.tv]
def Wh:List Mp→List Value
 | []=>[]
 | s::r=>F7 s++Wh r
theorem Ej:∀ l:List Mp,(Wh l).length=l.length * 2
 | []=>rfl
 | n::r=>by rw [Wh,Zs,Ej r];simp [F7];omega
theorem J5:∀ a b:List Mp,Wh (a++b)=Wh a++Wh b
 | [],_=>rfl
 | n::r,b=>by simp [Wh,J5 r b]
theorem Jc:∀ {l:List Mp} {j:Nat} {s:Mp},l[j]?=some s→(Wh l)[j * 2]?=some (.int .i64 s.fr)∧(Wh l)[j * 2+1]?=some s.tv
 | m::r,0,n,h=>by
  simp only [Zx,Yd] at h
  subst h
  simp [Wh,F7]
 | m::r,j+1,n,h=>by
  obtain ⟨h1,h2⟩:=Jc (l:=r) (j:=j) (s:=n) (by simpa using h)
  have hm:(F7 m).length=2:=rfl
  have e:∀ k,(Wh (m::r))[(j+1) * 2+k]?=(Wh r)[j * 2+k]?:=fun k=>by
   rw [Wh,Zd (by omega),hm]
   congr 1;omega
  refine ⟨?_,?_⟩
  ·have:=e 0;simp only [Nat.add_zero] at this;rw [this,h1]
  rw [e 1,h2]
def K2 (w:World) (S:Nat→Prop) (v:Value) (l:List Mp):Prop:=Rd w S 2 v l.length (Wh l)∧∀ m∈l,Xz w S m.tv m.to_
section
variable {w w':World} {S T:Nat→Prop} {v:Value} {l:List Mp}
theorem K2.ext (h:K2 w S v l) (x:Ext w w'):K2 w' S v l:=⟨Rd.ext h.1 x,fun m hm=>(h.2 m hm).ext x⟩
theorem K2.chg (h:K2 w S v l) (c:Chg T w w') (hd:∀ k,S k→¬ T k):K2 w' S v l:=⟨Rd.chg h.1 c hd,fun m hm=>(h.2 m hm).chg c hd⟩
theorem K2.shape (h:K2 w S v l):∃ A c,v=.slice A l.length c∧l.length≤c∧c≤maxLen:=by
 obtain ⟨⟨_,A,c,h,h1,h2,_⟩,_⟩:=h
 exact ⟨A,c,h,h1,h2⟩
theorem K2.get (h:K2 w S v l) {j:Nat} {s:Mp} (hj:l[j]?=some s) :
 ∃ g o c,v=.slice (some ⟨g,o,none⟩) l.length c∧l.length≤c∧c≤maxLen∧S g∧g < w.heap.size∧w.cell? ⟨g,o+j * 2,none⟩=some (.int .i64 s.fr)∧w.cell? ⟨g,o+j * 2+1,none⟩=some s.tv∧Xz w S s.tv s.to_:=by
 obtain ⟨g,o,c,h1,h2,h3,h4,h5,h6⟩:=Rd.at_ h.1 (Zr.1 hj).1
 obtain ⟨q1,q2⟩:=Jc hj
 exact ⟨g,o,c,h1,h2,h3,h4,h5,h6 _ _ q1,by rw [Nat.add_assoc];exact h6 _ _ q2,h.2 s (Zy hj)⟩
end
structure Tbl where
 catV:Value
 clsV:Value
 joiV:Value
 bidV:Value
 scrV:Value
 staV:Value
 ignV:Value
 extV:Value
 mapV:Value
 decV:Value
 excV:Value
 proV:Value
 cat:List Sp
 cls:List Sp
 joi:List Sp
 bid:List Sp
 scr:List Sp
 sta:List Sp
 ign:List Sp
 ext:List Mp
 map:List Mp
 dec:List Mp
 exc:List Int
 pro:List Mp
def Wc (t:Tbl):Value:=.agg #[t.catV,t.clsV,t.joiV,t.bidV,t.scrV,t.staV,t.ignV,t.extV,t.mapV,t.decV,t.excV,t.proV]
structure Xm (w:World) (S:Nat→Prop) (t:Tbl):Prop where
 cat:Vz w S t.catV t.cat
 cls:Vz w S t.clsV t.cls
 joi:Vz w S t.joiV t.joi
 bid:Vz w S t.bidV t.bid
 scr:Vz w S t.scrV t.scr
 sta:Vz w S t.staV t.sta
 ign:Vz w S t.ignV t.ign
 ext:K2 w S t.extV t.ext
 map:K2 w S t.mapV t.map
 dec:K2 w S t.decV t.dec
 exc:Xz w S t.excV t.exc
 pro:K2 w S t.proV t.pro
theorem Xm.up {w w':World} {S:Nat→Prop} {t:Tbl} (h:Xm w S t) (x:Ext w w'):Xm w' S t :=
 ⟨h.cat.ext x,h.cls.ext x,h.joi.ext x,h.bid.ext x,h.scr.ext x,h.sta.ext x,h.ign.ext x,h.ext.ext x,h.map.ext x,h.dec.ext x,h.exc.ext x,h.pro.ext x⟩
theorem Xm.chg {w w':World} {S T:Nat→Prop} {t:Tbl} (h:Xm w S t) (c:Chg T w w') (hd:∀ k,S k→¬ T k):Xm w' S t :=
 ⟨h.cat.chg c hd,h.cls.chg c hd,h.joi.chg c hd,h.bid.chg c hd,h.scr.chg c hd,h.sta.chg c hd,h.ign.chg c hd,h.ext.chg c hd,h.map.chg c hd,h.dec.chg c hd,h.exc.chg c hd,h.pro.chg c hd⟩
def Wv:List Sp→Int→Int
 | [],_=>0
 | s::r,c=>if s.fr≤c∧c≤s.to_ then s.val else Wv r c
theorem drop_at {α:Type} {l:List α} {i:Nat} {x:α} (h:l[i]?=some x):l.drop i=x::l.drop (i+1):=by
 obtain ⟨h1,h2⟩:=Zr.1 h
 rw [List.drop_eq_getElem_cons h1,h2]
theorem Vh {S:Nat→Prop} (v:Value) (l:List Sp) (c:Int) (w:World) (h:Vz w S v l) :
 Calls Tryz.prog 125 #[v,.int .i64 c] w fun e w'=>e=.returned (.int .i64 (Wv l c))∧Ext w w':=by
 obtain ⟨A,C,rfl,hlC,hC⟩:=h.shape
 obtain ⟨n,hn⟩:∃ n,l.length=n:=⟨_,rfl⟩
 have Hn:=Yw hn
 have H:=Yw h
 unfold maxLen at hC
 rw [hn] at hlC ⊢
 clear h hn
 go_enter Tryz.func125,Tryz.ntmps125
 go_wp2_with fail
 go_loopw [9] (fun o wr=>∃ i:Nat,i≤n∧o=.int .i64 (i:Int)∧Wv l c=Wv (l.drop i) c∧Ext w wr) (fun o _=>n - (intOf o).toNat)
 case atStart=>exact ⟨0,by omega,rfl,rfl,Yl _⟩
 obtain ⟨i,hi,rfl,hv,hx⟩:=hrel
 have Hv:=Yw hv
 have Hx:=Yw hx
 clear hv hx
 by_cases hlt:i < n
 ·have hd:decide ((i:Int) < (n:Int))=true:=by simpa using hlt
  obtain ⟨s,hs⟩:∃ s,l[i]?=some s:=⟨l[i]'(by rw [Hn.out];exact hlt),Zz _⟩
  obtain ⟨g,o,c',hvv,_,_,_,_,c0,c1,c2⟩:=(H.out.ext Hx.out).get hs
  simp only [Ye] at hvv
  obtain ⟨rfl,_,rfl⟩:=hvv
  have i0:(0:Int)≤(i:Int):=by omega
  have i1:(i:Int) < (n:Int):=by omega
  have Hs:=Yw hs
  clear hs
  cases h1:decide (s.fr≤c)<;>cases h2:decide (c≤s.to_)
  case true.true =>
   go_wp2_with fail
   go_ret
   refine ⟨?_,Hx.out.alloc _⟩
   rw [Hv.out,drop_at Hs.out,Wv,if_pos ⟨by simpa using h1,by simpa using h2⟩];rfl
  all_goals
   have Hno:=Yw (show Wv l c=Wv (l.drop (i+1)) c by
    rw [Hv.out,drop_at Hs.out,Wv,if_neg]
    simp at h1 h2;omega)
   go_wp2_with fail
   go_roundw
   case rel=>exact ⟨i+1,by omega,by go_num,Hno.out,Hx.out.alloc _⟩
   case measure=>simp [intOf];omega
 have hd:decide ((i:Int) < (n:Int))=false:=by simp;omega
 have Hend:=Yw (show Wv l c=0 by rw [Hv.out,List.drop_of_length_le (by rw [Hn.out];omega)];rfl)
 go_wp2_with fail
 go_ret
 exact ⟨by rw [Hend.out];rfl,Hx.out⟩
def Ey:List Mp→Int→Value
 | [],_=>.slice none 0 0
 | s::r,c=>if s.fr=c then s.tv else Ey r c
def Xg:List Mp→Int→List Int
 | [],_=>[]
 | s::r,c=>if s.fr=c then s.to_ else Xg r c
theorem Vd {w:World} {S:Nat→Prop}:∀ {l:List Mp} {c:Int},(∀ m∈l,Xz w S m.tv m.to_)→Xz w S (Ey l c) (Xg l c)
 | [],_,_=>Xz.nil w S
 | s::r,c,h=>by
  unfold Ey Xg
  by_cases hc:s.fr=c
  ·rw [if_pos hc,if_pos hc];exact h s (by simp)
  rw [if_neg hc,if_neg hc];exact Vd fun m hm=>h m (by simp [hm])
theorem Xc {S:Nat→Prop} (v:Value) (l:List Mp) (c:Int) (w:World) (h:K2 w S v l) :
 Calls Tryz.prog 111 #[v,.int .i64 c] w fun e w'=>e=.returned (Ey l c)∧Ext w w':=by
 obtain ⟨A,C,rfl,hlC,hC⟩:=h.shape
 obtain ⟨n,hn⟩:∃ n,l.length=n:=⟨_,rfl⟩
 have Hn:=Yw hn
 have H:=Yw h
 unfold maxLen at hC
 rw [hn] at hlC ⊢
 clear h hn
 go_enter Tryz.func111,Tryz.ntmps111
 go_wp2_with fail
 go_loopw [9] (fun o wr=>∃ i:Nat,i≤n∧o=.int .i64 (i:Int)∧Ey l c=Ey (l.drop i) c∧Ext w wr) (fun o _=>n - (intOf o).toNat)
 case atStart=>exact ⟨0,by omega,rfl,rfl,Yl _⟩
 obtain ⟨i,hi,rfl,hv,hx⟩:=hrel
 have Hv:=Yw hv
 have Hx:=Yw hx
 clear hv hx
 by_cases hlt:i < n
 ·have hd:decide ((i:Int) < (n:Int))=true:=by simpa using hlt
  obtain ⟨s,hs⟩:∃ s,l[i]?=some s:=⟨l[i]'(by rw [Hn.out];exact hlt),Zz _⟩
  obtain ⟨g,o,c',hvv,_,_,_,_,c0,c1,hti⟩:=(H.out.ext Hx.out).get hs
  simp only [Ye] at hvv
  obtain ⟨rfl,_,rfl⟩:=hvv
  obtain ⟨tA,tC,htv,_,_⟩:=hti.shape
  rw [htv] at c1
  have i0:(0:Int)≤(i:Int):=by omega
  have i1:(i:Int) < (n:Int):=by omega
  have Hs:=Yw hs
  have Htv:=Yw htv
  clear hs hti htv
  cases h1:(s.fr == c)
  case true =>
   go_wp2_with fail
   go_ret
   refine ⟨?_,Hx.out.alloc _⟩
   rw [Hv.out,drop_at Hs.out,Ey,if_pos (by simpa using h1),Htv.out];rfl
  case false =>
   have Hno:=Yw (show Ey l c=Ey (l.drop (i+1)) c by
    rw [Hv.out,drop_at Hs.out,Ey,if_neg (by simpa using h1)])
   go_wp2_with fail
   go_roundw
   case rel=>exact ⟨i+1,by omega,by go_num,Hno.out,Hx.out.alloc _⟩
   case measure=>simp [intOf];omega
 have hd:decide ((i:Int) < (n:Int))=false:=by simp;omega
 have Hend:=Yw (show Ey l c=.slice none 0 0 by rw [Hv.out,List.drop_of_length_le (by rw [Hn.out];omega)];rfl)
 go_wp2_with fail
 go_ret
 exact ⟨by rw [Hend.out];rfl,Hx.out⟩
end
theorem Nz {a b:Int} (h:a=b):Ending.returned (.int .i64 a)=.returned (.int .i64 b):=by rw [h]
def Gs (c:Int):Bool:=decide (44032≤c) && decide (c≤55203)
def Zrf (c:Int):Bool:=(decide (97≤c) && decide (c≤122)) || (decide (48≤c) && decide (c≤57)) || c == 45
def P7 (c:Int):Bool:=(decide (4352≤c) && decide (c≤4370)) || (decide (4449≤c) && decide (c≤4469)) || (decide (4520≤c) && decide (c≤4546))
def Rp (c:Int):Bool:=decide (0≤c) && decide (c≤1114111) && (decide (c < 55296) || decide (57343 < c))
theorem Ql (c:Int) (w:World):Calls Tryz.prog 113 #[.int .i64 c] w fun e w'=>e=.returned (.bool (Gs c))∧w=w':=by
 go_enter Tryz.func113,Tryz.ntmps113
 go_wp2_with fail
 all_goals
  go_ret
  refine ⟨Gk ?_,rfl⟩
  rw [Bool.eq_iff_iff]
  simp [Gs]
  try omega
theorem Gu (c:Int) (w:World):Calls Tryz.prog 142 #[.int .i64 c] w fun e w'=>e=.returned (.bool (Zrf c))∧w=w':=by
 go_enter Tryz.func142,Tryz.ntmps142
 go_wp2_with fail
 all_goals
  go_ret
  refine ⟨Gk ?_,rfl⟩
  rw [Bool.eq_iff_iff]
  simp [Zrf]
  try omega
theorem Ez (c:Int) (w:World):Calls Tryz.prog 145 #[.int .i64 c] w fun e w'=>e=.returned (.bool (P7 c))∧w=w':=by
 go_enter Tryz.func145,Tryz.ntmps145
 go_wp2_with fail
 all_goals
  go_ret
  refine ⟨Gk ?_,rfl⟩
  rw [Bool.eq_iff_iff]
  simp [P7]
  try omega
theorem Qv (c:Int) (w:World):Calls Tryz.prog 143 #[.int .i64 c] w fun e w'=>e=.returned (.bool (Rp c))∧w=w':=by
 go_enter Tryz.func143,Tryz.ntmps143
 go_wp2_with fail
 all_goals
  go_ret
  refine ⟨Gk ?_,rfl⟩
  rw [Bool.eq_iff_iff]
  simp [Rp]
  try omega
def Ca (c:Int):Int:=if Rp c=false then 0 else if c≤127 then 1 else if c≤2047 then 2 else if c≤65535 then 3 else 4
theorem len_any (c:Int) (w:World):Calls Tryz.prog 186 #[.int .i64 c] w fun e w'=>e=.returned (.int .i64 (Ca c))∧w=w':=by
 go_enter Tryz.func186,Tryz.ntmps186
 cases hb:Rp c
 all_goals
  have Hb:=Yw hb
  go_wp2_with (go_at_call 143;refine (Qv _ _).mono ?_;rintro e w' ⟨rfl,rfl⟩;rw [hb])
 all_goals
  go_ret
  refine ⟨Nz ?_,rfl⟩
  unfold Ca
  rw [Hb.out]
  simp
  try (repeat' split)
  all_goals (simp at *;try omega)
def P9 (c:Int):Bool:=(decide (0≤c) && decide (c≤127)) || (decide (55296≤c) && decide (c≤57343)) || Gs c || P7 c
theorem Kv (c:Int) (w:World):Calls Tryz.prog 141 #[.int .i64 c] w fun e w'=>e=.returned (.bool (P9 c))∧w=w':=by
 go_enter Tryz.func141,Tryz.ntmps141
 cases hb:Gs c<;>cases hj:P7 c
 all_goals
  have Hb:=Yw hb
  have Hj:=Yw hj
  go_wp2_with (first|(go_at_call 113;refine (Ql _ _).mono ?_;rintro e w' ⟨rfl,rfl⟩;rw [hb])|(go_at_call 145;refine (Ez _ _).mono ?_;rintro e w' ⟨rfl,rfl⟩;rw [hj]))
 all_goals
  go_ret
  refine ⟨Gk ?_,rfl⟩
  unfold P9
  rw [Hb.out,Hj.out]
  rw [Bool.eq_iff_iff]
  simp
  try omega
def Ka (w:World) (e:Ending) (w':World):Prop:=∃ v:Int,e=.returned (.int .i64 v)∧Ext w w'
def Vi (w:World) (e:Ending) (w':World):Prop:=∃ v:Bool,e=.returned (.bool v)∧Ext w w'
theorem Xr {S:Nat→Prop} (T:Tbl) (c:Int) (w:World) (h:Xm w S T):Calls Tryz.prog 148 #[Wc T,.int .i64 c] w fun e w'=>e=.returned (.int .i64 (Wv T.cls c))∧Ext w w':=by
 unfold Wc
 have H:=Yw h
 clear h
 go_enter Tryz.func148,Tryz.ntmps148
 go_wp2_with (go_at_call 125;refine (Vh _ T.cls _ _ (H.out.cls.ext ((by repeat' first|exact Yl _|assumption|apply Yk|apply Yj|apply Yi|(refine Yh ?_ (by assumption)))))).mono ?_;rintro e w1 ⟨rfl,hx1⟩)
 go_ret
 exact ⟨rfl,(by repeat' first|exact Yl _|assumption|apply Yk|apply Yj|apply Yi|(refine Yh ?_ (by assumption)))⟩
theorem Vp {S:Nat→Prop} (T:Tbl) (c:Int) (w:World) (h:Xm w S T):Calls Tryz.prog 266 #[Wc T,.int .i64 c] w fun e w'=>e=.returned (.int .i64 (Wv T.joi c))∧Ext w w':=by
 unfold Wc
 have H:=Yw h
 clear h
 go_enter Tryz.func266,Tryz.ntmps266
 go_wp2_with (go_at_call 125;refine (Vh _ T.joi _ _ (H.out.joi.ext ((by repeat' first|exact Yl _|assumption|apply Yk|apply Yj|apply Yi|(refine Yh ?_ (by assumption)))))).mono ?_;rintro e w1 ⟨rfl,hx1⟩)
 go_ret
 exact ⟨rfl,(by repeat' first|exact Yl _|assumption|apply Yk|apply Yj|apply Yi|(refine Yh ?_ (by assumption)))⟩
theorem Vk {S:Nat→Prop} (T:Tbl) (c:Int) (w:World) (h:Xm w S T):Calls Tryz.prog 87 #[Wc T,.int .i64 c] w fun e w'=>e=.returned (.bool (Wv T.ign c == 1))∧Ext w w':=by
 unfold Wc
 have H:=Yw h
 clear h
 go_enter Tryz.func87,Tryz.ntmps87
 go_wp2_with (go_at_call 125;refine (Vh _ T.ign _ _ (H.out.ign.ext ((by repeat' first|exact Yl _|assumption|apply Yk|apply Yj|apply Yi|(refine Yh ?_ (by assumption)))))).mono ?_;rintro e w1 ⟨rfl,hx1⟩)
 go_ret
 exact ⟨rfl,(by repeat' first|exact Yl _|assumption|apply Yk|apply Yj|apply Yi|(refine Yh ?_ (by assumption)))⟩
def Ztx (T:Tbl) (c:Int):Int:=if Zrf c=true∨c=46∨Gs c=true then 1 else if 65≤c∧c≤90 then 3 else Wv T.sta c
theorem Vb {S:Nat→Prop} (T:Tbl) (c:Int) (w:World) (h:Xm w S T):Calls Tryz.prog 144 #[Wc T,.int .i64 c] w fun e w'=>e=.returned (.int .i64 (Ztx T c))∧Ext w w':=by
 unfold Wc
 have H:=Yw h
 clear h
 go_enter Tryz.func144,Tryz.ntmps144
 cases hl:Zrf c<;>cases hd:(c == 46)<;>cases hs:Gs c<;>cases h1:decide (65≤c)<;>cases h2:decide (c≤90)
 all_goals
  have Hl:=Yw hl
  have Hs:=Yw hs
  have Hd:=Yw hd
  have H1:=Yw h1
  have H2:=Yw h2
  go_wp2_with (first|(go_at_call 125;refine (Vh _ T.sta _ _ (H.out.sta.ext ((by repeat' first|exact Yl _|assumption|apply Yk|apply Yj|apply Yi|(refine Yh ?_ (by assumption)))))).mono ?_;rintro e w1 ⟨rfl,hx1⟩)|(go_at_call 113;refine (Ql _ _).mono ?_;rintro e w' ⟨rfl,rfl⟩;rw [hs])|(go_at_call 142;refine (Gu _ _).mono ?_;rintro e w' ⟨rfl,rfl⟩;rw [hl]))
  go_ret
  refine ⟨Nz ?_,(by repeat' first|exact Yl _|assumption|apply Yk|apply Yj|apply Yi|(refine Yh ?_ (by assumption)))⟩
  have g1:=Hd.out
  have g2:=H1.out
  have g3:=H2.out
  simp at g1 g2 g3
  unfold Ztx
  rw [Hl.out,Hs.out]
  simp [g1]
  try omega
theorem Oo {S:Nat→Prop} (T:Tbl) (c:Int) (w:World) (h:Xm w S T):Calls Tryz.prog 232 #[Wc T,.int .i64 c] w (Ka w):=by
 unfold Wc
 have H:=Yw h
 clear h
 go_enter Tryz.func232,Tryz.ntmps232
 go_wp2_with (first|(go_at_call 125;refine (Vh _ T.cat _ _ (H.out.cat.ext ((by repeat' first|exact Yl _|assumption|apply Yk|apply Yj|apply Yi|(refine Yh ?_ (by assumption)))))).mono ?_;rintro e w1 ⟨rfl,hx1⟩)|(go_at_call 113;refine (Ql _ _).mono ?_;rintro e w' ⟨rfl,rfl⟩)|(go_at_call 145;refine (Ez _ _).mono ?_;rintro e w' ⟨rfl,rfl⟩))
 all_goals (go_ret;exact ⟨_,rfl,(by repeat' first|exact Yl _|assumption|apply Yk|apply Yj|apply Yi|(refine Yh ?_ (by assumption)))⟩)
theorem Nx {S:Nat→Prop} (T:Tbl) (c:Int) (w:World) (h:Xm w S T):Calls Tryz.prog 257 #[Wc T,.int .i64 c] w (Ka w):=by
 unfold Wc
 have H:=Yw h
 clear h
 go_enter Tryz.func257,Tryz.ntmps257
 go_wp2_with (go_at_call 125;refine (Vh _ T.bid _ _ (H.out.bid.ext ((by repeat' first|exact Yl _|assumption|apply Yk|apply Yj|apply Yi|(refine Yh ?_ (by assumption)))))).mono ?_;rintro e w1 ⟨rfl,hx1⟩)
 all_goals (go_ret;exact ⟨_,rfl,(by repeat' first|exact Yl _|assumption|apply Yk|apply Yj|apply Yi|(refine Yh ?_ (by assumption)))⟩)
theorem Mm {S:Nat→Prop} (T:Tbl) (c:Int) (w:World) (h:Xm w S T):Calls Tryz.prog 239 #[Wc T,.int .i64 c] w (Ka w):=by
 unfold Wc
 have H:=Yw h
 clear h
 go_enter Tryz.func239,Tryz.ntmps239
 go_wp2_with (first|(go_at_call 125;refine (Vh _ T.scr _ _ (H.out.scr.ext ((by repeat' first|exact Yl _|assumption|apply Yk|apply Yj|apply Yi|(refine Yh ?_ (by assumption)))))).mono ?_;rintro e w1 ⟨rfl,hx1⟩)|(go_at_call 113;refine (Ql _ _).mono ?_;rintro e w' ⟨rfl,rfl⟩)|(go_at_call 145;refine (Ez _ _).mono ?_;rintro e w' ⟨rfl,rfl⟩))
 all_goals (go_ret;exact ⟨_,rfl,(by repeat' first|exact Yl _|assumption|apply Yk|apply Yj|apply Yi|(refine Yh ?_ (by assumption)))⟩)
theorem Th {S:Nat→Prop} (T:Tbl) (c:Int) (w:World) (h:Xm w S T):Calls Tryz.prog 238 #[Wc T,.int .i64 c] w fun e w'=>e=.returned (Ey T.ext c)∧Ext w w':=by
 unfold Wc
 have H:=Yw h
 clear h
 go_enter Tryz.func238,Tryz.ntmps238
 go_wp2_with (go_at_call 111;refine (Xc _ T.ext _ _ (H.out.ext.ext ((by repeat' first|exact Yl _|assumption|apply Yk|apply Yj|apply Yi|(refine Yh ?_ (by assumption)))))).mono ?_;rintro e w1 ⟨rfl,hx1⟩)
 go_ret
 exact ⟨rfl,(by repeat' first|exact Yl _|assumption|apply Yk|apply Yj|apply Yi|(refine Yh ?_ (by assumption)))⟩
theorem Zux {S:Nat→Prop} (T:Tbl) (c:Int) (w:World) (h:Xm w S T):Calls Tryz.prog 258 #[Wc T,.int .i64 c] w fun e w'=>e=.returned (Ey T.pro c)∧Ext w w':=by
 unfold Wc
 have H:=Yw h
 clear h
 go_enter Tryz.func258,Tryz.ntmps258
 go_wp2_with (go_at_call 111;refine (Xc _ T.pro _ _ (H.out.pro.ext ((by repeat' first|exact Yl _|assumption|apply Yk|apply Yj|apply Yi|(refine Yh ?_ (by assumption)))))).mono ?_;rintro e w1 ⟨rfl,hx1⟩)
 go_ret
 exact ⟨rfl,(by repeat' first|exact Yl _|assumption|apply Yk|apply Yj|apply Yi|(refine Yh ?_ (by assumption)))⟩
def Ok (T:Tbl) (c:Int):List Int:=if 65≤c∧c≤90 then [c+32] else Xg T.map c
theorem X9 (w:World) (z:Int) (t:TypeId) (g:Nat) (hg:w.heap.size=g):Xz (w.alloc (.cells #[.int .i64 z] t)) (fun _=>True) (.slice (some ⟨g,0,none⟩) 1 1) [z]:=by
 subst hg
 have h1:(w.alloc (.cells #[.int .i64 z] t)).heap[w.heap.size]?=some (.cells #[.int .i64 z] t):=heap_alloc_new w _
 refine ⟨by simp,_,_,rfl,Yo _,by unfold maxLen;omega,fun _=>⟨_,_,rfl,trivial,(Array.getElem?_eq_some_iff.1 h1).1,fun j u hu=>?_⟩⟩
 simp only [World.cell?,h1]
 rw [Nat.zero_add,← hu]
 simp
theorem Xz.any {w:World} {S:Nat→Prop} {v:Value} {l:List Int} (h:Xz w S v l):Xz w (fun _=>True) v l:=Rd.mono h fun _ _ _=>trivial
theorem Ztf {S:Nat→Prop} (T:Tbl) (c:Int) (w:World) (h:Xm w S T):Calls Tryz.prog 225 #[Wc T,.int .i64 c] w fun e w'=>∃ v,e=.returned v∧Xz w' (fun _=>True) v (Ok T c)∧Ext w w':=by
 unfold Wc
 have H:=Yw h
 clear h
 go_enter Tryz.func225,Tryz.ntmps225
 by_cases hc:65≤c∧c≤90
 ·have e1:Ok T c=[c+32]:=if_pos hc
  have Hc:=Yw e1
  have q1:IntKind.i64.wrap (c+32)=c+32:=Yq _ (by omega)
  obtain ⟨d1,d2⟩:=hc
  clear e1
  go_wp2_with fail
  go_ret
  refine ⟨.slice (some ⟨_,0,none⟩) 1 1,rfl,?_,(by repeat' first|exact Yl _|assumption|apply Yk|apply Yj|apply Yi|(refine Yh ?_ (by assumption)))⟩
  rw [Hc.out]
  exact X9 _ _ _ _ (by simp)
 have e1:Ok T c=Xg T.map c:=if_neg hc
 have Hc:=Yw e1
 have hcc:¬ (65≤c)∨¬ (c≤90):=by omega
 have Hcc:=Yw hcc
 clear e1 hc hcc
 cases h1:decide (65≤c)<;>cases h2:decide (c≤90)
 case true.true=>exact absurd Hcc.out (by simp at h1 h2;omega)
 all_goals
  go_wp2_with (go_at_call 111;refine (Xc _ T.map _ _ (H.out.map.ext ((by repeat' first|exact Yl _|assumption|apply Yk|apply Yj|apply Yi|(refine Yh ?_ (by assumption)))))).mono ?_;rintro e w1 ⟨rfl,hx1⟩)
  go_ret
  refine ⟨_,rfl,?_,(by repeat' first|exact Yl _|assumption|apply Yk|apply Yj|apply Yi|(refine Yh ?_ (by assumption)))⟩
  rw [Hc.out]
  exact (Vd (H.out.map.ext ((by repeat' first|exact Yl _|assumption|apply Yk|apply Yj|apply Yi|(refine Yh ?_ (by assumption))))).2).any
def Zyc (l:List Int) (c:Int):Bool:=l.any (· == c)
theorem Wu {S:Nat→Prop} (T:Tbl) (c:Int) (w:World) (h:Xm w S T):Calls Tryz.prog 147 #[Wc T,.int .i64 c] w fun e w'=>e=.returned (.bool (Zyc T.exc c))∧Ext w w':=by
 have he:=h.exc
 clear h
 obtain ⟨A,C,hsv,hlC,hC⟩:=he.shape
 unfold Wc
 rw [hsv] at he ⊢
 obtain ⟨n,hn⟩:∃ n,T.exc.length=n:=⟨_,rfl⟩
 have Hnn:=Yw hn
 have He:=Yw he
 unfold maxLen at hC
 rw [hn] at hlC ⊢
 clear he hn hsv
 go_enter Tryz.func147,Tryz.ntmps147
 go_wp2_with fail
 go_loopw [10] (fun o wr=>∃ i:Nat,i≤n∧o=.int .i64 (i:Int)∧Zyc (T.exc.take i) c=false∧Ext w wr) (fun o _=>n - (intOf o).toNat)
 case atStart=>exact ⟨0,by omega,rfl,rfl,(by repeat' first|exact Yl _|assumption|apply Yk|apply Yj|apply Yi|(refine Yh ?_ (by assumption)))⟩
 obtain ⟨i,hi,rfl,hno,hx⟩:=hrel
 have Hno:=Yw hno
 have Hx:=Yw hx
 clear hno hx
 by_cases hlt:i < n
 ·have hd:decide ((i:Int) < (n:Int))=true:=Yf (by omega)
  have i0:(0:Int)≤(i:Int):=by omega
  have i1:(i:Int) < (n:Int):=by omega
  obtain ⟨x,hs⟩:∃ s,(T.exc)[i]?=some s:=⟨(T.exc)[i]'(by first|(rw [Hnn.out];exact hlt)|(have:=Hnn.out;omega)),Zz _⟩
  obtain ⟨g,o,c',hvv,_,_,_,hgl,c0⟩:=(He.out.ext Hx.out).get hs
  simp only [Ye] at hvv
  obtain ⟨rfl,-,rfl⟩:=hvv
  have Hs:=Yw hs
  clear hs
  cases h1:(x == c)
  ·have Hnx:=Yw (show Zyc (T.exc.take (i+1)) c=false by
    have:=Hno.out
    unfold Zyc at this ⊢
    rw [Za,Hs.out,List.any_append,this]
    simpa using h1)
   go_wp2_with fail
   go_roundw
   case rel=>exact ⟨i+1,by omega,by go_num,Hnx.out,(have hx:=Hx.out;(by repeat' first|exact Yl _|assumption|apply Yk|apply Yj|apply Yi|(refine Yh ?_ (by assumption))))⟩
   case measure=>simp [intOf];omega
  have Hyes:=Yw (show Zyc T.exc c=true by
   unfold Zyc
   rw [List.any_eq_true]
   exact ⟨x,Zy Hs.out,h1⟩)
  go_wp2_with fail
  go_ret
  exact ⟨by rw [Hyes.out];rfl,(have hx:=Hx.out;(by repeat' first|exact Yl _|assumption|apply Yk|apply Yj|apply Yi|(refine Yh ?_ (by assumption))))⟩
 have hd:decide ((i:Int) < (n:Int))=false:=Yg (by omega)
 have Hend:=Yw (show Zyc T.exc c=false by
  have:=Hno.out
  rwa [Zm (by rw [Hnn.out];omega)] at this)
 go_wp2_with fail
 go_ret
 exact ⟨by rw [Hend.out];rfl,(have hx:=Hx.out;(by repeat' first|exact Yl _|assumption|apply Yk|apply Yj|apply Yi|(refine Yh ?_ (by assumption))))⟩
section
structure Gw (w:World) (g:Nat) (vs:List Value):Prop where
 lt:g < w.heap.size
 at_:∀ i v,vs[i]?=some v→w.cell? ⟨g,i,none⟩=some v
theorem Gw.ext {w w':World} {g:Nat} {vs:List Value} (h:Gw w g vs) (x:Ext w w'):Gw w' g vs :=
 ⟨Nat.lt_of_lt_of_le h.lt x.size,fun i v hv=>(x.cell (p:=⟨g,i,none⟩) h.lt).trans (h.at_ i v hv)⟩
theorem Q4 (w:World) (cs:Array Value) (t:TypeId) (g:Nat) (hg:w.heap.size=g):Gw (w.alloc (.cells cs t)) g cs.toList:=by
 subst hg
 have h1:(w.alloc (.cells cs t)).heap[w.heap.size]?=some (.cells cs t):=heap_alloc_new w _
 refine ⟨(Array.getElem?_eq_some_iff.1 h1).1,fun i v hv=>?_⟩
 simp only [World.cell?,h1]
 rw [← hv];simp
def Su (T:Tbl):List (Value×List Sp):=[(T.catV,T.cat),(T.clsV,T.cls),(T.joiV,T.joi),(T.bidV,T.bid),(T.scrV,T.scr),(T.staV,T.sta),(T.ignV,T.ign)]
def Sj (T:Tbl):List (Value×List Mp):=[(T.extV,T.ext),(T.mapV,T.map),(T.decV,T.dec),(T.proV,T.pro)]
theorem Zuv {w:World} {S:Nat→Prop} {T:Tbl} (h:Xm w S T):∀ p∈Su T,Vz w S p.1 p.2:=by
 intro p hp
 simp only [Su,Zg,Zh,or_false] at hp
 rcases hp with rfl|rfl|rfl|rfl|rfl|rfl|rfl
 ·exact h.cat
 ·exact h.cls
 ·exact h.joi
 ·exact h.bid
 ·exact h.scr
 ·exact h.sta
 exact h.ign
theorem Zxf {w:World} {S:Nat→Prop} {T:Tbl} (h:Xm w S T):∀ p∈Sj T,K2 w S p.1 p.2:=by
 intro p hp
 simp only [Sj,Zg,Zh,or_false] at hp
 rcases hp with rfl|rfl|rfl|rfl
 ·exact h.ext
 ·exact h.map
 ·exact h.dec
 exact h.pro
def Zug (T:Tbl) (w:World) (e:Ending) (w':World):Prop :=
 ∃ g1 g2:Nat,e=.returned (.tuple #[.slice (some ⟨g1,0,none⟩) 7 7,.slice (some ⟨g2,0,none⟩) 7 7])∧Gw w' g1 ((Su T).map (·.1))∧Gw w' g2 ([8,254,5,11,60,4,1].map (Value.int .i64))∧Ext w w'
theorem F8 {S:Nat→Prop} (T:Tbl) (w:World) (h:Xm w S T):Calls Tryz.prog 137 #[Wc T] w (Zug T w):=by
 obtain ⟨A0,C0,e0,_,_⟩:=h.cat.shape
 obtain ⟨A1,C1,e1,_,_⟩:=h.cls.shape
 obtain ⟨A2,C2,e2,_,_⟩:=h.joi.shape
 obtain ⟨A3,C3,e3,_,_⟩:=h.bid.shape
 obtain ⟨A4,C4,e4,_,_⟩:=h.scr.shape
 obtain ⟨A5,C5,e5,_,_⟩:=h.sta.shape
 obtain ⟨A6,C6,e6,_,_⟩:=h.ign.shape
 clear h
 unfold Wc
 go_enter Tryz.func137,Tryz.ntmps137
 go_wp2_with fail
 go_ret2
 refine ⟨w.heap.size+1,w.heap.size+2,?_,?_,?_,(by repeat' first|exact Yl _|assumption|apply Yk|apply Yj|apply Yi|(refine Yh ?_ (by assumption)))⟩
 ·simp
 ·simp only [Su,List.map_cons,List.map_nil,e0,e1,e2,e3,e4,e5,e6]
  exact (Q4 _ _ _ _ (by simp)).ext ((Yl _).alloc _)
 exact Q4 _ _ _ _ (by simp)
def Zsd (T:Tbl) (w:World) (e:Ending) (w':World):Prop :=
 ∃ g1:Nat,e=.returned (.slice (some ⟨g1,0,none⟩) 4 4)∧Gw w' g1 ((Sj T).map (·.1))∧Ext w w'
theorem Kf {S:Nat→Prop} (T:Tbl) (w:World) (h:Xm w S T):Calls Tryz.prog 138 #[Wc T] w (Zsd T w):=by
 obtain ⟨A0,C0,e0,_,_⟩:=h.ext.shape
 obtain ⟨A1,C1,e1,_,_⟩:=h.map.shape
 obtain ⟨A2,C2,e2,_,_⟩:=h.dec.shape
 obtain ⟨A3,C3,e3,_,_⟩:=h.pro.shape
 clear h
 unfold Wc
 go_enter Tryz.func138,Tryz.ntmps138
 go_wp2_with fail
 go_ret
 refine ⟨w.heap.size+1,?_,?_,(by repeat' first|exact Yl _|assumption|apply Yk|apply Yj|apply Yi|(refine Yh ?_ (by assumption)))⟩
 ·simp
 simp only [Sj,List.map_cons,List.map_nil,e0,e1,e2,e3]
 exact Q4 _ _ _ _ (by simp)
def Ve (T:Tbl):List Value:=[T.catV,T.clsV,T.joiV,T.bidV,T.scrV,T.staV,T.ignV,T.extV,T.mapV,T.decV,T.excV,T.proV]
def Xf (T:Tbl):Obj:=.cells (Ve T).toArray 34
structure Q9 (w:World) (b:Nat) (T:Tbl):Prop where
 lt:b < w.heap.size
 at_:∀ k,k < 12→w.cell? ⟨b,k,none⟩=(Ve T)[k]?
theorem Q9.ext {w w':World} {b:Nat} {T:Tbl} (h:Q9 w b T) (x:Ext w w'):Q9 w' b T :=
 ⟨Nat.lt_of_lt_of_le h.lt x.size,fun k hk=>(x.cell (p:=⟨b,k,none⟩) h.lt).trans (h.at_ k hk)⟩
theorem Xq (w:World) (T:Tbl):Q9 (w.alloc (Xf T)) w.heap.size T:=by
 refine ⟨by simp,fun k hk=>?_⟩
 unfold Xf
 rw [cell_of_row _ _ k (Ve T).toArray 34 (0,0) (heap_alloc_new w _)]
 simp
theorem Df:(Tryz.prog.underlying 34).map TypeDesc.isRow=some true:=by kernel_rfl
theorem Ux:(Tryz.prog.info? 34).map (·.size)=some 12:=by kernel_rfl
theorem Q9.range {w:World} {b:Nat} {T:Tbl} (h:Q9 w b T):w.rangeAt b 0 (Ve T):=fun j v hv=>by
 rw [Nat.zero_add,h.at_ j (Zr.1 hv).1,hv]
section
variable {ops:Array Oper} {rest:List Oper} {dst:Option Nat} {x:Operand} {t:TypeId} {pos:String} {af:Array Edge} {a:Act} {w:World} {Q:Exit→Act→World→Prop} {b:Nat} {T:Tbl}
theorem Xy (hx:a.eval x=Wc T) (hK:wpList Tryz.prog ops Q rest (a.put dst (.pointer (some ⟨w.heap.size,0,none⟩))) (w.alloc (Xf T))) :
 wpList Tryz.prog ops Q ({dst:=dst,op:=.box 34 x,type:=t,pos:=pos,after:=af,guard:=none}::rest) a w:=by
 refine wpList_plain rfl fun K hK'=>?_
 unfold Oper.wp execOp
 have hc:(a.eval x).cells=(Ve T).toArray:=by rw [hx];rfl
 simp only [Sem.run_bind,Instr.box,newVar,newRow,run_newObj_alloc,Sem.run_pure,Result.andThen_ok,hc]
 exact hK' _ _ hK
theorem Y4 (h:Q9 w b T) (hx:a.eval x=.pointer (some ⟨b,0,none⟩)) (hK:wpList Tryz.prog ops Q rest (a.put dst (Wc T)) w) :
 wpList Tryz.prog ops Q ({dst:=dst,op:=.load 34 x,type:=t,pos:=pos,after:=af,guard:=none}::rest) a w:=by
 have hu:=Df
 rw [Option.map_eq_some_iff] at hu
 obtain ⟨d,hu,hd⟩:=hu
 exact wpList_load_mid rfl _ x rfl b 0 hx (Ve T) d h.range hu hd (by rw [Ux];rfl) hK
end
theorem lat {W:World} {b o:Nat} {v:Value} (h:W.cell? ⟨b,o,none⟩=some v):∀ k os,(later W k os).cell? ⟨b,o,none⟩=some v:=fun k os=>(Qe W k os b o (lt_of_cell h)).trans h
theorem Vx (i:Nat) (h0:0 < i) (h1:i≤9223372036854775807):IntKind.i64.wrap ((i:Int) - 1)=((i - 1:Nat):Int):=by
 rw [Yq _ (by omega)];omega
end
theorem Zpu:(Tryz.prog.info? 5).map (fun i=>(i.zero,i.size,i.bytes))=some (some (.int .u8 0),1,1):=by kernel_rfl
def Zwl (w:World) (base:Nat) (v:Value) (l:List UInt8):Prop :=
 ∃ g cap,v=.slice (some ⟨g,0,none⟩) l.length cap∧base≤g∧g < w.heap.size∧l.length≤cap∧(∀ o,o < cap→(w.cell? ⟨g,o,none⟩).isSome=true∧w.frozen? ⟨g,o,none⟩=false)∧∀ j b,l[j]?=some b→w.cell? ⟨g,j,none⟩=some (.int .u8 (b.toNat:Int))
theorem Zwl.keep {w w':World} {base:Nat} {v:Value} {l:List UInt8} (h:Zwl w base v l) (x:Ext w w'):Zwl w' base v l:=by
 obtain ⟨g,cap,h1,h2,h3,h4,h5,h6⟩:=h
 exact ⟨g,cap,h1,h2,Nat.lt_of_lt_of_le h3 x.size,h4,fun o ho=>⟨by rw [x.cell (p:=⟨g,o,none⟩) h3];exact (h5 o ho).1,by rw [x.frozen (p:=⟨g,o,none⟩) h3];exact (h5 o ho).2⟩,fun j b hj=>by rw [x.cell (p:=⟨g,j,none⟩) h3];exact h6 j b hj⟩
theorem St (s:ByteArray) {j:Nat} {b:UInt8} (h:s.data.toList[j]?=some b):byteAt s j=(b.toNat:Int):=by
 obtain ⟨hj,he⟩:=Zr.1 h
 have hj':j < s.size:=by simpa using hj
 unfold byteAt
 rw [dif_pos hj']
 have:s[j]=b:=by rw [← he];simp [ByteArray.getElem_eq_getElem_data]
 rw [this]
theorem Lr (w:World) (s:ByteArray) :
 Zwl (w.alloc (.cells (bytesRow s (grownCap w s.size 0 5)) 5 ((bytesRow s (grownCap w s.size 0 5)).size,(bytesRow s (grownCap w s.size 0 5)).size+1))).drew w.heap.size (.slice (some ⟨w.heap.size,0,none⟩) s.size (grownCap w s.size 0 5)) s.data.toList:=by
 obtain ⟨c,hc⟩:∃ c,grownCap w s.size 0 5=c:=⟨_,rfl⟩
 have hge:s.size≤c:=hc ▸ grownCap_ge w s.size 0 5
 rw [hc]
 have hsz:(bytesRow s c).size=c:=by
  unfold bytesRow
  simp only [Array.size_append,Array.size_map,Array.size_replicate]
  have:s.data.size=s.size:=rfl
  omega
 have h1:(w.alloc (.cells (bytesRow s c) 5 ((bytesRow s c).size,(bytesRow s c).size+1))).drew.heap[w.heap.size]?=some (.cells (bytesRow s c) 5 ((bytesRow s c).size,(bytesRow s c).size+1)):=heap_alloc_new w _
 refine ⟨w.heap.size,c,rfl,Yo _,(Array.getElem?_eq_some_iff.1 h1).1,hge,fun o ho=>⟨?_,?_⟩,fun j b hj=>?_⟩
 ·simp only [World.cell?,h1]
  rw [Array.getElem?_eq_getElem (by omega)];rfl
 ·simp only [World.frozen?,h1]
  have hno:¬ (bytesRow s c).size≤o:=by omega
  simp [hno]
 have hjl:=(Zr.1 hj).1
 rw [L8 w s c 5 _ (k:=j) hjl,St s hj]
theorem Fi {w:World} {base:Nat} {v:Value} {l:List UInt8} (h:Zwl w base v l):(convert 224 9 v).run Tryz.prog w=.ok (.string (bs l)) w:=by
 obtain ⟨g,cap,rfl,_,_,_,_,h6⟩:=h
 exact run_convert_bytes_back w 224 9 5 ⟨g,0,none⟩ cap l Jk E6 N2 fun j hj=>by rw [K4];exact h6 j l[j] (by simp [hj])
theorem Fe {w:World} {base:Nat} {v:Value} {l:List UInt8} (h:Zwl w base v l) (ty:TypeId) {x:UInt8} {ad c:Nat} (hx:w.cell? ⟨ad,0,none⟩=some (.int .u8 (x.toNat:Int))) (hl:l.length+1≤140737488355328) (hb:base≤w.heap.size) :
 ∃ v' w',(Builtin.append_ #[224,224] ty #[v,.slice (some ⟨ad,0,none⟩) 1 c]).run Tryz.prog w=.ok v' w'∧Zwl w' base v' (l++[x])∧Chg (fun i=>base≤i) w w':=by
 obtain ⟨i0,hi,hz0,hz1,hz2⟩:=info_parts Zpu
 obtain ⟨g,cap,rfl,h2,h3,h4,h5,h6⟩:=h
 have hnews:∀ j u,([Value.int .u8 (x.toNat:Int)]:List Value)[j]?=some u→w.cell? ((⟨ad,0,none⟩:Addr).add j)=some u:=fun j u hj=>by
  obtain rfl:j=0:=by
   have:=(Zr.1 hj).1
   simpa using this
  simp only [Zx,Yd] at hj
  subst hj
  rw [K4];exact hx
 by_cases hroom:l.length+1≤cap
 ·have hf:=run_firstCells_some (P:=Tryz.prog) w 1 1 ⟨ad,0,none⟩ 1 c [.int .u8 (x.toNat:Int)] (by simp) hnews
  have hcell:=h5 l.length (by omega)
  have hone:∀ j,j < ([Value.int .u8 (x.toNat:Int)]:List Value).length→j=0:=fun j hj=>by simpa using hj
  have hst:=run_storeCells_cells (P:=Tryz.prog) g l.length [.int .u8 (x.toNat:Int)] 0 w (fun j hj=>by rw [hone j hj];exact hcell.1) (fun j hj=>by rw [hone j hj];exact hcell.2) (by simp [Value.oneCell'])
  simp only [Nat.add_zero,World.setCells] at hst
  obtain ⟨u,hu⟩:=Option.isSome_iff_exists.1 hcell.1
  refine ⟨.slice (some ⟨g,0,none⟩) (l.length+1) cap,w.setCell ⟨g,l.length,none⟩ (.int .u8 (x.toNat:Int)),?_,⟨g,cap,by simp,h2,by simpa [World.setCell] using h3,by simpa using hroom,fun o ho=>⟨?_,?_⟩,fun j b hj=>?_⟩,(Chg.refl _ w).setCell (.inl h2) _⟩
  ·simp [Builtin.append_,run_underlying Jk,sizeOf,typeInfo,hi,hz1,Builtin.lenOf,hroom,hf,Addr.add_lit,hst]
  ·by_cases ho':o=l.length
   ·subst ho'
    rw [World.cell?_setCell_same _ _ _ hu];rfl
   rw [World.cell?_setCell_other _ _ _ _ (by intro e;simp at e<;>omega)]
   exact (h5 o ho).1
  ·rw [World.frozen?_setCell];exact (h5 o ho).2
  by_cases hj':j=l.length
  ·subst hj'
   rw [World.cell?_setCell_same _ _ _ hu]
   simp at hj
   rw [hj]
  have hjl:=(Zr.1 hj).1
  rw [World.cell?_setCell_other _ _ _ _ (by intro e;simp at e<;>omega)]
  exact h6 j b (by rw [Ze (by simp at hjl;omega)] at hj;exact hj)
 have holds:∀ j u,(l.map fun b=>Value.int .u8 (b.toNat:Int))[j]?=some u→w.cell? ((⟨g,0,none⟩:Addr).add j)=some u:=fun j u hj=>by
  rw [Zn,Option.map_eq_some_iff] at hj
  obtain ⟨b,hb,rfl⟩:=hj
  rw [K4];exact h6 j b hb
 have hr:=run_append_grow (P:=Tryz.prog) w 224 ty 5 i0 _ Jk hi hz0 ⟨g,0,none⟩ l.length cap (l.map fun b=>Value.int .u8 (b.toNat:Int)) (by simp [hz1]) holds ⟨ad,0,none⟩ 1 c [.int .u8 (x.toNat:Int)] (by simp [hz1]) hnews (by omega) (by omega) (by rw [hz2];exact growslice_fits (by omega) (by omega))
 obtain ⟨c2,hc2⟩:∃ c2,grownCap w (l.length+1) cap 5=c2:=⟨_,rfl⟩
 have hge:l.length+1≤c2:=hc2 ▸ grownCap_ge w (l.length+1) cap 5
 rw [hc2] at hr
 obtain ⟨A,hA⟩:∃ A,(l.map fun b=>Value.int .u8 (b.toNat:Int)).toArray++[Value.int .u8 (x.toNat:Int)].toArray++Builtin.zeroCells (Value.int .u8 0).cells (c2 - (l.length+1))=A:=⟨_,rfl⟩
 have hAs:A.size=c2:=by
  rw [← hA]
  simp only [Array.size_append,List.size_toArray,Zq,Zl,Zk,size_zeroCells]
  show l.length+(0+1)+(c2 - (l.length+1)) * 1=c2
  omega
 rw [hA] at hr
 have h1:(w.drew.alloc (.cells A 5)).heap[w.heap.size]?=some (.cells A 5):=heap_alloc_new w.drew _
 refine ⟨_,_,hr,⟨w.heap.size,c2,by simp,hb,(Array.getElem?_eq_some_iff.1 h1).1,by simpa using hge,fun o ho=>⟨?_,?_⟩,fun j b hj=>?_⟩,((Chg.refl _ w).drew).alloc _⟩
 ·simp only [World.cell?,h1]
  rw [Array.getElem?_eq_getElem (by omega)];rfl
 ·simp only [World.frozen?,h1];simp
 simp only [World.cell?,h1]
 have hjl:=(Zr.1 hj).1
 have hl2:(l.map fun b=>Value.int .u8 (b.toNat:Int)).toArray++[Value.int .u8 (x.toNat:Int)].toArray=((l++[x]).map fun b=>Value.int .u8 (b.toNat:Int)).toArray:=by simp
 rw [← hA,Array.getElem?_append_left (by simp at hjl ⊢;omega),hl2,Z3,Zn,hj];rfl
theorem wpList_append_byte {ops:Array Oper} {rest:List Oper} {o:Oper} {a:Act} {Q:Exit→Act→World→Prop} {w:World} (hgd:o.guard=none) (s x:Operand) (ho:o.op=.call {callee:=.builtin .append,args:=#[s,x],argTypes:=#[224,224]})
 (base:Nat) (v:Value) (l:List UInt8) (hs:a.eval s=v) (h:Zwl w base v l) (b:UInt8) (ad c:Nat) (hx:a.eval x=.slice (some ⟨ad,0,none⟩) 1 c) (hc:w.cell? ⟨ad,0,none⟩=some (.int .u8 (b.toNat:Int))) (hl:l.length+1≤140737488355328) (hb:base≤w.heap.size)
 (hK:∀ v' w',Zwl w' base v' (l++[b])→Chg (fun i=>base≤i) w w'→wpList Tryz.prog ops Q rest (a.put o.dst v') w'):wpList Tryz.prog ops Q (o::rest) a w:=by
 refine wpList_plain hgd fun K' hK'=>?_
 obtain ⟨v',w',hrun,r1,r2⟩:=Fe (c:=c) h o.type hc hl hb
 unfold Oper.wp
 simp [execOp,ho,resolve,invoke,builtin,hs,hx,hrun,Result.andThen]
 exact hK' _ _ (hK v' w' r1 r2)
theorem Zrt (x:Nat) (hx:x < 18446744073709551616):bits .xor .u64 (x:Int) 18446744073709551615=18446744073709551615 - (x:Int):=by
 show IntKind.u64.wrap ((BitVec.ofInt 64 (x:Int) ^^^ BitVec.ofInt 64 18446744073709551615).toNat:Int)=_
 have h1:BitVec.ofInt 64 18446744073709551615=BitVec.allOnes 64:=by decide
 rw [h1,BitVec.xor_allOnes,BitVec.toNat_not,ofInt_u64 x (by omega)]
 simp [IntKind.wrap,IntKind.bits,IntKind.signed]
 omega
theorem Zrv (x:Nat) (hx:x < 18446744073709551616):bits .xor .u64 (x:Int) 0=(x:Int):=by
 have:=u64_xor_nat x 0 hx (by omega)
 simpa using this
theorem Zpj {v:Int} (h1 : -9223372036854775808≤v) (h2:v≤9223372036854775807) :
 bits BinOp.xor IntKind.u64 (IntKind.u64.wrap (IntKind.u64.wrap v * 2)) (IntKind.u64.wrap (v / 9223372036854775808))=((zz v:Nat):Int):=by
 simp only [IntKind.wrap_u64]
 by_cases h0:0≤v
 ·have e1:v / 9223372036854775808 % 18446744073709551616=0:=by omega
  have e2:v % 18446744073709551616 * 2 % 18446744073709551616=((zz v:Nat):Int):=by unfold zz;rw [if_pos h0];omega
  rw [e1,e2,Zrv _ (Zzi h1 h2)]
 have e1:v / 9223372036854775808 % 18446744073709551616=18446744073709551615:=by omega
 have e2:v % 18446744073709551616 * 2 % 18446744073709551616=((18446744073709551615 - zz v:Nat):Int):=by
  have:=Zzi h1 h2
  unfold zz at this ⊢;rw [if_neg h0] at this ⊢;omega
 have:=Zzi h1 h2
 rw [e1,e2,Zrt _ (by omega)]
 omega
theorem Zo3 (z:Nat):bits .or .u8 ((z:Int) % 256) 128=((UInt8.ofNat (z % 128+128)).toNat:Int):=by
 rw [Zxh (by omega)]
 have e:((z:Int) % 256)=((z % 256:Nat):Int):=by omega
 rw [e]
 have h:=u8_or_nat (z % 256) 128 (by omega) (by omega)
 rw [show ((128:Nat):Int)=128 from rfl] at h
 rw [h]
 have:∀ y,y < 256→y ||| 128=y % 128+128:=by decide
 rw [this _ (by omega)]
 omega
def Zwb (w:World) (s:ByteArray) (v:Int) (z:Nat) (o:Value) (wr:World):Prop :=
 ∃ done g c,done++leb z=code v∧o=.slice (some ⟨g,0,none⟩) (s.size+done.length) c∧Zwl wr w.heap.size o (s.data.toList++done)∧Ext w wr
theorem Ev (s:ByteArray) (v:Int) (hv:I64 v) (hs:s.size+10≤140737488355328) (w:World) :
 Calls Tryz.prog 118 #[.string s,.int .i64 v] w fun e w'=>e=.returned (.string (s++bs (code v)))∧Ext w w':=by
 obtain ⟨h1,h2⟩:=hv
 have hcv:=fun w s=>run_bytes_of_string (P:=Tryz.prog) w 9 224 5 s N2 Jk E6
 have hrow:=Lr w s
 have hx0:Ext w (w.alloc (.cells (bytesRow s (grownCap w s.size 0 5)) 5 ((bytesRow s (grownCap w s.size 0 5)).size,(bytesRow s (grownCap w s.size 0 5)).size+1))).drew:=((Yl w).alloc _).drew
 have HP:=Yw (show Zwb w s v (zz v) _ _ from ⟨[],_,_,rfl,rfl,by simpa using hrow,hx0⟩)
 have Hz:=Yw (Zpj h1 h2)
 have Hc10:=Yw (Vs h1 h2)
 clear hrow hx0
 go_enter Tryz.func118,Tryz.ntmps118
 go_wp2_with fail
 go_loopw [5,6] (fun x o wr=>∃ z:Nat,z < 18446744073709551616∧x=.int .u64 (z:Int)∧Zwb w s v z o wr) (fun x _ _=>(intOf x).toNat)
 case atStart=>exact ⟨zz v,Zzi h1 h2,by rw [Hz.out],HP.out⟩
 clear HP hcv
 obtain ⟨z,hz,rfl,done,g,c,hd,rfl,hrow,hx⟩:=hrel
 have hlen:done.length+(leb z).length≤10:=by have:=Hc10.out;rw [← hd,Zs] at this;exact this
 have hlp:=Zue z
 have hsl:(s.data.toList++done).length=s.size+done.length:=by rw [Zs];rfl
 have Hrow:=Yw hrow
 have Hx:=Yw hx
 have Hd:=Yw hd
 have Hsl:=Yw hsl
 clear hrow hx hd hsl
 by_cases hz1:128≤z
 ·have hd1:decide (128≤z)=true:=by simpa using hz1
  have hxa:Ext wr (wr.alloc (.cells #[.int .u8 (bits .or .u8 ((z:Int) % 256) 128)] 5)):=(Yl wr).alloc _
  have hcell:(wr.alloc (.cells #[.int .u8 (bits .or .u8 ((z:Int) % 256) 128)] 5)).cell? ⟨wr.heap.size,0,none⟩=some (.int .u8 ((UInt8.ofNat (z % 128+128)).toNat:Int)):=by
   rw [← Zo3 z];go_simp
  have hb:=N0 (u:=z) (by omega)
  have hbl:(leb z).length=(leb (z / 128)).length+1:=by rw [hb];simp
  have hsz:=Hx.out.size
  have Hb:=Yw hb
  clear hb
  go_wp2_with (at_builtin;refine wpList_append_byte rfl _ _ rfl w.heap.size _ _ rfl (Hrow.out.keep hxa) _ _ _ rfl hcell (by rw [Hsl.out];omega) (by have:=hxa.size;omega) ?_;intro v' w1 hrow1 hgrow1;have hcs:=Fi hrow1)
  have hx1:Ext w w1:=(Hx.out.trans hxa).chg_new hgrow1 (fun i hi=>hi)
  have hd2:(done++[UInt8.ofNat (z % 128+128)])++leb (z / 128)=code v:=by rw [List.append_assoc,List.singleton_append,← Hb.out];exact Hd.out
  have hrow2:Zwl w1 w.heap.size v' (s.data.toList++(done++[UInt8.ofNat (z % 128+128)])):=by rw [← List.append_assoc];exact hrow1
  obtain ⟨g2,c2,hv2,_⟩:=id hrow2
  have hl2:(s.data.toList++(done++[UInt8.ofNat (z % 128+128)])).length=s.size+(done++[UInt8.ofNat (z % 128+128)]).length:=by rw [Zs];rfl
  rw [hl2] at hv2
  subst hv2
  have Hend:=Yw (show Zwb w s v (z / 128) _ w1 from ⟨_,_,_,hd2,rfl,hrow2,hx1⟩)
  have hq:(z:Int) / 128=((z / 128:Nat):Int):=by omega
  clear hx1 hd2 hrow2 hrow1 hgrow1 hxa hcell hl2 hcs
  go_wp2_with fail
  go_roundw
  case rel=>exact ⟨z / 128,by omega,by rw [hq],Hend.out⟩
  case measure=>simp [intOf];omega
 have hd1:decide (128≤z)=false:=by simpa using hz1
 have hxa:Ext wr (wr.alloc (.cells #[.int .u8 (z:Int)] 5)):=(Yl wr).alloc _
 have hcell:(wr.alloc (.cells #[.int .u8 (z:Int)] 5)).cell? ⟨wr.heap.size,0,none⟩=some (.int .u8 ((UInt8.ofNat z).toNat:Int)):=by
  rw [Zxh (show z < 256 by omega)];go_simp
 have hb:=Kn (u:=z) (by omega)
 have hsz:=Hx.out.size
 have Hb:=Yw hb
 clear hb
 go_wp2_with (at_builtin;refine wpList_append_byte rfl _ _ rfl w.heap.size _ _ rfl (Hrow.out.keep hxa) _ _ _ rfl hcell (by rw [Hsl.out];omega) (by have:=hxa.size;omega) ?_;intro v' w1 hrow1 hgrow1;have hcs:=Fi hrow1)
 have hx1:Ext w w1:=(Hx.out.trans hxa).chg_new hgrow1 (fun i hi=>hi)
 have hfin:bs (s.data.toList++(done++[UInt8.ofNat z]))=s++bs (code v):=by rw [← Hb.out,Hd.out,Jl,Sx]
 rw [hfin]
 go_ret
 exact ⟨rfl,hx1⟩
def u8L (zs:List Int):List UInt8:=zs.map fun z=>UInt8.ofNat (z % 256).toNat
theorem V1 {w:World} (zs:List Int) (n:Nat) (hn:zs.length=n) (cs:Array Value) (hcs:cs=(zs.map fun z=>Value.int .u8 (z % 256)).toArray) :
 (convert 224 9 (.slice (some ⟨w.heap.size,0,none⟩) n n)).run Tryz.prog (w.alloc (.cells cs 5))=.ok (.string (bs (u8L zs))) (w.alloc (.cells cs 5)):=by
 subst hn hcs
 have hl:zs.length=(u8L zs).length:=by simp [u8L]
 rw [hl]
 refine run_convert_bytes_back _ 224 9 5 ⟨w.heap.size,0,none⟩ _ (u8L zs) Jk E6 N2 fun j hj=>?_
 rw [K4]
 have h1:(w.alloc (.cells (zs.map fun z=>Value.int .u8 (z % 256)).toArray 5)).heap[w.heap.size]?=some (.cells (zs.map fun z=>Value.int .u8 (z % 256)).toArray 5):=heap_alloc_new w _
 have hj':j < zs.length:=by rw [hl];exact hj
 simp only [World.cell?,h1]
 simp only [u8L,List.getElem_map]
 rw [Zxh (by omega)]
 simp [hj']
 omega
def Ly (c:Int):List Int :=
 if Ca c=1 then [c]
 else if Ca c=2 then [wrap64 (192+wrap64 (c.tdiv 64)),wrap64 (128+c.tmod 64)]
 else if Ca c=3 then [wrap64 (224+wrap64 (c.tdiv 4096)),wrap64 (128+(wrap64 (c.tdiv 64)).tmod 64),wrap64 (128+c.tmod 64)]
 else [wrap64 (240+wrap64 (c.tdiv 262144)),wrap64 (128+(wrap64 (c.tdiv 4096)).tmod 64),wrap64 (128+(wrap64 (c.tdiv 64)).tmod 64),wrap64 (128+c.tmod 64)]
theorem Ztp (c:Int):(Ly c).length≤4:=by
 unfold Ly
 split
 ·simp
 split
 ·simp
 split<;>simp
theorem one_any (c:Int) (w:World):Calls Tryz.prog 166 #[.int .i64 c] w fun e w'=>e=.returned (.string (bs (u8L (Ly c))))∧Ext w w':=by
 go_enter Tryz.func166,Tryz.ntmps166
 cases h1:(Ca c == 1)
 ·cases h2:(Ca c == 2)
  ·cases h3:(Ca c == 3)
   ·have e1:Ly c=[wrap64 (240+wrap64 (c.tdiv 262144)),wrap64 (128+(wrap64 (c.tdiv 4096)).tmod 64),wrap64 (128+(wrap64 (c.tdiv 64)).tmod 64),wrap64 (128+c.tmod 64)]:=by
     simp at h1 h2 h3;unfold Ly;rw [if_neg h1,if_neg h2,if_neg h3]
    have E1:=Yw e1
    have hcv:=fun w:World=>V1 (w:=w) (Ly c) 4 (by rw [e1];rfl) _ rfl
    rw [e1] at hcv
    simp only [List.map_cons,List.map_nil] at hcv
    clear e1
    go_wp2_with (go_at_call 186;refine (len_any _ _).mono ?_;rintro e w' ⟨rfl,rfl⟩)
    go_ret
    exact ⟨by rw [E1.out];rfl,(Yl w).alloc _⟩
   have e1:Ly c=[wrap64 (224+wrap64 (c.tdiv 4096)),wrap64 (128+(wrap64 (c.tdiv 64)).tmod 64),wrap64 (128+c.tmod 64)]:=by
    simp at h1 h2 h3;unfold Ly;rw [if_neg h1,if_neg h2,if_pos h3]
   have E1:=Yw e1
   have hcv:=fun w:World=>V1 (w:=w) (Ly c) 3 (by rw [e1];rfl) _ rfl
   rw [e1] at hcv
   simp only [List.map_cons,List.map_nil] at hcv
   clear e1
   go_wp2_with (go_at_call 186;refine (len_any _ _).mono ?_;rintro e w' ⟨rfl,rfl⟩)
   go_ret
   exact ⟨by rw [E1.out];rfl,(Yl w).alloc _⟩
  have e1:Ly c=[wrap64 (192+wrap64 (c.tdiv 64)),wrap64 (128+c.tmod 64)]:=by
   simp at h1 h2;unfold Ly;rw [if_neg h1,if_pos h2]
  have E1:=Yw e1
  have hcv:=fun w:World=>V1 (w:=w) (Ly c) 2 (by rw [e1];rfl) _ rfl
  rw [e1] at hcv
  simp only [List.map_cons,List.map_nil] at hcv
  clear e1
  go_wp2_with (go_at_call 186;refine (len_any _ _).mono ?_;rintro e w' ⟨rfl,rfl⟩)
  go_ret
  exact ⟨by rw [E1.out];rfl,(Yl w).alloc _⟩
 have e1:Ly c=[c]:=by simp at h1;unfold Ly;rw [if_pos h1]
 have E1:=Yw e1
 have hcv:=fun w:World=>V1 (w:=w) (Ly c) 1 (by rw [e1];rfl) _ rfl
 rw [e1] at hcv
 simp only [List.map_cons,List.map_nil] at hcv
 clear e1
 go_wp2_with (go_at_call 186;refine (len_any _ _).mono ?_;rintro e w' ⟨rfl,rfl⟩)
 go_ret
 exact ⟨by rw [E1.out];rfl,(Yl w).alloc _⟩
def swp (f:Int→Int) (l:List Int) (i:Nat):List Int :=
 match l[i - 1]?,l[i]? with
 | some x,some y=>if 0 < f y∧f y < f x then (l.set (i - 1) y).set i x else l
 | _,_=>l
def Nj (f:Int→Int):List Int→Nat
 | []=>0
 | x::r=>r.countP (fun y=>decide (f y < f x))+Nj f r
theorem Pk (f:Int→Int) {x y:Int} (h:f y < f x) (b:List Int):∀ a:List Int,Nj f (a++y::x::b) < Nj f (a++x::y::b)
 | []=>by
  simp only [Zo,Nj,List.countP_cons]
  have h1:decide (f y < f x)=true:=Yf h
  have h2:decide (f x < f y)=false:=Yg (by omega)
  rw [h1,h2]
  simp only [if_true,Bool.false_eq_true,if_false]
  omega
 | z::a=>by
  have:=Pk f h b a
  simp only [List.cons_append,Nj,List.countP_append,List.countP_cons]
  omega
theorem Zqh (f:Int→Int) (l:List Int) (i:Nat):(swp f l i).length=l.length:=by
 unfold swp
 split
 ·split<;>simp
 rfl
theorem Zoj {f:Int→Int} {l:List Int} {i:Nat} {x y:Int} (hx:l[i - 1]?=some x) (hy:l[i]?=some y) (h:¬ (0 < f y∧f y < f x)):swp f l i=l:=by
 unfold swp;rw [hx,hy];simp only;rw [if_neg h]
theorem Zx4 {f:Int→Int} {l:List Int} {i:Nat} {x y:Int} (hx:l[i - 1]?=some x) (hy:l[i]?=some y) (h:0 < f y∧f y < f x):swp f l i=(l.set (i - 1) y).set i x:=by
 unfold swp;rw [hx,hy];simp only;rw [if_pos h]
theorem Zo6 {f:Int→Int} {l:List Int} {k:Nat} {x y:Int} (hx:l[k]?=some x) (hy:l[k+1]?=some y) (h:0 < f y∧f y < f x):Nj f (swp f l (k+1)) < Nj f l:=by
 rw [Zx4 (by simpa using hx) hy h]
 have hk:=(Zr.1 hy).1
 have e0:l=l.take k++x::y::l.drop (k+2):=by
  apply List.ext_getElem?
  intro j
  rw [List.getElem?_append,Zp,Nat.min_eq_left (by omega)]
  split
  ·rw [Yy,if_pos (by assumption)]
  rename_i hj
  rcases Nat.lt_or_ge j (k+1) with h1|h1
  ·have:j=k:=by omega
   subst this;simp [hx]
  rcases Nat.lt_or_ge j (k+2) with h2|h2
  ·have:j=k+1:=by omega
   subst this;simp [hy]
  obtain ⟨m,rfl⟩:∃ m,j=k+2+m:=⟨j - (k+2),by omega⟩
  rw [show k+2+m - k=m+1+1 by omega]
  simp
 obtain ⟨a,b,e,ha⟩:∃ a b,l=a++x::y::b∧a.length=k:=⟨l.take k,l.drop (k+2),e0,by rw [Zp];omega⟩
 clear e0 hx hy hk
 subst e ha
 rw [show ((a++x::y::b).set (a.length+1 - 1) y).set (a.length+1) x=a++y::x::b by simp [List.set_append]]
 exact Pk f h.2 _ _
def Ip (f:Int→Int) (l:List Int):Nat→List Int
 | 0=>l
 | k+1=>swp f (Ip f l k) (k+1)
theorem Nv (f:Int→Int) (l:List Int):∀ k,(Ip f l k).length=l.length
 | 0=>rfl
 | k+1=>by rw [Ip,Zqh,Nv f l k]
def Zz4 (f:Int→Int) (l:List Int):List Int:=Ip f l (l.length - 1)
def Uc (f:Int→Int) (l:List Int):List Int:=if _h:Nj f (Zz4 f l) < Nj f l then Uc f (Zz4 f l) else l
termination_by Nj f l
theorem Zuy (f:Int→Int) (l:List Int):(Uc f l).length=l.length:=by
 induction l using Uc.induct f with
 | case1 l h ih =>
  rw [Uc,dif_pos h,ih];exact Nv _ _ _
 | case2 l h=>rw [Uc,dif_neg h]
theorem Zt6 {f:Int→Int} {l:List Int} (h:Nj f (Zz4 f l) < Nj f l):Uc f l=Uc f (Zz4 f l):=by
 rw [Uc,dif_pos h]
theorem Zxo {f:Int→Int} {l:List Int} (h:Zz4 f l=l):Uc f l=l:=by
 rw [Uc,dif_neg (by rw [h];omega)]
def Fa (s:ByteArray):Nat→Int
 | 1=>if _h:0 < s.size then wrap64 (s[0].toNat:Int) else 0
 | 2=>if _h:1 < s.size then IntKind.i64.wrap (IntKind.i64.wrap (IntKind.i64.wrap (IntKind.i64.wrap (IntKind.i64.wrap (s[0].toNat:Int) - 192) * 64)+IntKind.i64.wrap (s[1].toNat:Int)) - 128) else 0
 | 3=>if _h:2 < s.size then IntKind.i64.wrap (IntKind.i64.wrap (IntKind.i64.wrap (IntKind.i64.wrap (IntKind.i64.wrap (IntKind.i64.wrap (s[0].toNat:Int) - 224) * 4096)+IntKind.i64.wrap (IntKind.i64.wrap (IntKind.i64.wrap (s[1].toNat:Int) - 128) * 64))+IntKind.i64.wrap (s[2].toNat:Int)) - 128) else 0
 | 4=>if _h:3 < s.size then IntKind.i64.wrap (IntKind.i64.wrap (IntKind.i64.wrap (IntKind.i64.wrap (IntKind.i64.wrap (IntKind.i64.wrap (IntKind.i64.wrap (s[0].toNat:Int) - 240) * 262144)+IntKind.i64.wrap (IntKind.i64.wrap (IntKind.i64.wrap (s[1].toNat:Int) - 128) * 4096))+IntKind.i64.wrap (IntKind.i64.wrap (IntKind.i64.wrap (s[2].toNat:Int) - 128) * 64))+IntKind.i64.wrap (s[3].toNat:Int)) - 128) else 0
 | _=>0
def Ut (s:ByteArray) (k:Nat):Bool:=(Ca (Fa s k) == (k:Int)) && ((bs (u8L (Ly (Fa s k)))).toList == (s.extract 0 k).toList)
def Kc (s:ByteArray):Nat :=
 if 1≤s.size∧Ut s 1=true then 1 else if 2≤s.size∧Ut s 2=true then 2 else if 3≤s.size∧Ut s 3=true then 3 else if 4≤s.size∧Ut s 4=true then 4 else 0
theorem Uu (s:ByteArray) (k:Nat) (h1:1≤k) (h4:k≤4) (hs:k≤s.size) (hy:Ut s k=true) (hall:∀ j,1≤j→j < k→j≤s.size→Ut s j=false):Kc s=k:=by
 have hn:∀ j,1≤j→j < k→¬ (j≤s.size∧Ut s j=true):=fun j a b c=>by rw [hall j a b c.1] at c;exact absurd c.2 (by simp)
 unfold Kc
 rcases (show k=1∨k=2∨k=3∨k=4 by omega) with rfl|rfl|rfl|rfl
 ·rw [if_pos ⟨hs,hy⟩]
 ·rw [if_neg (hn 1 (by omega) (by omega)),if_pos ⟨hs,hy⟩]
 ·rw [if_neg (hn 1 (by omega) (by omega)),if_neg (hn 2 (by omega) (by omega)),if_pos ⟨hs,hy⟩]
 rw [if_neg (hn 1 (by omega) (by omega)),if_neg (hn 2 (by omega) (by omega)),if_neg (hn 3 (by omega) (by omega)),if_pos ⟨hs,hy⟩]
theorem Zvw (s:ByteArray) (k:Nat) (h1:1≤k) (h5:k≤5) (hs:¬ (k≤4∧k≤s.size)) (hall:∀ j,1≤j→j < k→j≤s.size→Ut s j=false):Kc s=0:=by
 have hn:∀ j,1≤j→j≤4→¬ (j≤s.size∧Ut s j=true):=fun j a b c=>by
  by_cases hj:j < k
  ·rw [hall j a hj c.1] at c;exact absurd c.2 (by simp)
  omega
 unfold Kc
 rw [if_neg (hn 1 (by omega) (by omega)),if_neg (hn 2 (by omega) (by omega)),if_neg (hn 3 (by omega) (by omega)),if_neg (hn 4 (by omega) (by omega))]
theorem Zv6 (s:ByteArray):Kc s≤s.size:=by
 unfold Kc
 split
 ·omega
 split
 ·omega
 split
 ·omega
 split<;>omega
def Lf (s:ByteArray):Int:=Fa s (Kc s)
theorem first_any (s:ByteArray) (hs:s.size≤maxLen) (w:World):Calls Tryz.prog 246 #[.string s] w fun e w'=>e=.returned (.tuple #[.int .i64 (Lf s),.int .i64 (Kc s:Int)])∧Ext w w':=by
 unfold Lf
 unfold maxLen at hs
 go_enter Tryz.func246,Tryz.ntmps246
 go_wp2_with fail
 go_loopw [4] (fun o wr=>∃ k:Nat,1≤k∧k≤5∧o=.int .i64 (k:Int)∧Aside (∀ j,1≤j→j < k→j≤s.size→Ut s j=false)∧Ext w wr) (fun o _=>5 - (intOf o).toNat)
 case atStart=>exact ⟨1,by omega,by omega,rfl,fun j h1 h2 _=>by omega,Yl _⟩
 obtain ⟨k,hk1,hk5,rfl,hall,hx⟩:=hrel
 have Hall:=Yw hall.out
 have Hx:=Yw hx
 clear hx hall
 by_cases hlt:k≤4∧k≤s.size
 ·obtain ⟨h4,hsz⟩:=hlt
  have d1:decide ((k:Int)≤(4:Int))=true:=Yf (by omega)
  have d2:decide ((k:Int)≤(s.size:Int))=true:=Yf (by omega)
  rcases (show k=1∨k=2∨k=3∨k=4 by omega) with rfl|rfl|rfl|rfl
  ·have p0:0 < s.size:=by omega
   go_wp2_with fail
   obtain ⟨V,hV⟩:∃ V:Int,Fa s 1=V:=⟨_,rfl⟩
   rw [show wrap64 (s[0].toNat:Int)=V from by rw [← hV];simp only [Fa];rw [dif_pos p0]]
   have HV:=Yw hV
   clear hV
   cases q1:(Ca V == (1:Int))
   ·have Hno:=Yw (show Ut s 1=false by unfold Ut;rw [HV.out,show ((1:Nat):Int)=(1:Int) from rfl,q1];rfl)
    have hun:=Yb
    refine Y0 (by kernel_rfl) (by kernel_rfl) ?_
    repeat ((with_reducible refine Yv ?_);intro K hK;go_simp;first|((with_reducible refine hK _ ?_);clear hK K)|(apply Exists.intro;refine ⟨fun _=>?_,hK _ ?_⟩;(first|(go_at_call 186;exact Xv (len_any _ _))|(go_at_call 166;exact Y8 (one_any _ _)));clear hK K))
    (with_reducible refine Yu ?_)
    intro w3 hy3
    clear hun
    try simp only [Yc]
    have hx:=Hx.out
    go_wp2_with fail
    refine ⟨⟨1+1,by omega,by omega,rfl,fun j h1 h2 h3=>?_,(by repeat' first|exact Yl _|assumption|apply Yk|apply Yj|apply Yi|(refine Yh ?_ (by assumption)))⟩,by simp [intOf]⟩
    rcases (show j < 1∨j=1 by omega) with h|rfl
    ·exact Hall.out j h1 h h3
    exact Hno.out
   cases q2:((bs (u8L (Ly V))).toList == (s.extract 0 1).toList)
   ·have Hno:=Yw (show Ut s 1=false by unfold Ut;rw [HV.out,q2];simp)
    have hun:=Yb
    refine Y0 (by kernel_rfl) (by kernel_rfl) ?_
    repeat ((with_reducible refine Yv ?_);intro K hK;go_simp;first|((with_reducible refine hK _ ?_);clear hK K)|(apply Exists.intro;refine ⟨fun _=>?_,hK _ ?_⟩;(first|(go_at_call 186;exact Xv (len_any _ _))|(go_at_call 166;exact Y8 (one_any _ _)));clear hK K))
    (with_reducible refine Yu ?_)
    intro w3 hy3
    clear hun
    try simp only [Yc]
    have hx:=Hx.out
    go_wp2_with fail
    refine ⟨⟨1+1,by omega,by omega,rfl,fun j h1 h2 h3=>?_,(by repeat' first|exact Yl _|assumption|apply Yk|apply Yj|apply Yi|(refine Yh ?_ (by assumption)))⟩,by simp [intOf]⟩
    rcases (show j < 1∨j=1 by omega) with h|rfl
    ·exact Hall.out j h1 h h3
    exact Hno.out
   have Hyes:=Yw (show Ut s 1=true by unfold Ut;rw [HV.out,q2];simp at q1 ⊢;exact q1)
   have hun:=Yb
   refine Y0 (by kernel_rfl) (by kernel_rfl) ?_
   repeat ((with_reducible refine Yv ?_);intro K hK;go_simp;first|((with_reducible refine hK _ ?_);clear hK K)|(apply Exists.intro;refine ⟨fun _=>?_,hK _ ?_⟩;(first|(go_at_call 186;exact Xv (len_any _ _))|(go_at_call 166;exact Y8 (one_any _ _)));clear hK K))
   (with_reducible refine Yu ?_)
   intro w3 hy3
   clear hun
   try simp only [Yc]
   have hx:=Hx.out
   go_wp2_with fail
   go_ret2
   exact ⟨by rw [Uu s 1 (by omega) (by omega) hsz Hyes.out Hall.out,HV.out];rfl,(by repeat' first|exact Yl _|assumption|apply Yk|apply Yj|apply Yi|(refine Yh ?_ (by assumption)))⟩
  ·have p0:0 < s.size:=by omega
   have p1:1 < s.size:=by omega
   have r1:(1:Int) < (s.size:Int):=by omega
   have hun:=Yb
   go_wp2_with fail
   refine Y0 (by kernel_rfl) (by kernel_rfl) ?_
   repeat ((with_reducible refine Yv ?_);intro K hK;go_simp;first|((with_reducible refine hK _ ?_);clear hK K)|(apply Exists.intro;refine ⟨fun _=>?_,hK _ ?_⟩;(first|(go_at_call 186;exact Xv (len_any _ _))|(go_at_call 166;exact Y8 (one_any _ _)));clear hK K))
   (with_reducible refine Yu ?_)
   intro w2 hy
   clear hun
   try simp only [Yc]
   go_wp2_with fail
   obtain ⟨V,hV⟩:∃ V:Int,Fa s 2=V:=⟨_,rfl⟩
   rw [show IntKind.i64.wrap (IntKind.i64.wrap (IntKind.i64.wrap (IntKind.i64.wrap (IntKind.i64.wrap (s[0].toNat:Int) - 192) * 64)+IntKind.i64.wrap (s[1].toNat:Int)) - 128)=V from by rw [← hV];simp only [Fa];rw [dif_pos p1]]
   have HV:=Yw hV
   clear hV
   cases q1:(Ca V == (2:Int))
   ·have Hno:=Yw (show Ut s 2=false by unfold Ut;rw [HV.out,show ((2:Nat):Int)=(2:Int) from rfl,q1];rfl)
    have hun:=Yb
    refine Y0 (by kernel_rfl) (by kernel_rfl) ?_
    repeat ((with_reducible refine Yv ?_);intro K hK;go_simp;first|((with_reducible refine hK _ ?_);clear hK K)|(apply Exists.intro;refine ⟨fun _=>?_,hK _ ?_⟩;(first|(go_at_call 186;exact Xv (len_any _ _))|(go_at_call 166;exact Y8 (one_any _ _)));clear hK K))
    (with_reducible refine Yu ?_)
    intro w3 hy3
    clear hun
    try simp only [Yc]
    have hx:=Hx.out
    go_wp2_with fail
    refine ⟨⟨2+1,by omega,by omega,rfl,fun j h1 h2 h3=>?_,(by repeat' first|exact Yl _|assumption|apply Yk|apply Yj|apply Yi|(refine Yh ?_ (by assumption)))⟩,by simp [intOf]⟩
    rcases (show j < 2∨j=2 by omega) with h|rfl
    ·exact Hall.out j h1 h h3
    exact Hno.out
   cases q2:((bs (u8L (Ly V))).toList == (s.extract 0 2).toList)
   ·have Hno:=Yw (show Ut s 2=false by unfold Ut;rw [HV.out,q2];simp)
    have hun:=Yb
    refine Y0 (by kernel_rfl) (by kernel_rfl) ?_
    repeat ((with_reducible refine Yv ?_);intro K hK;go_simp;first|((with_reducible refine hK _ ?_);clear hK K)|(apply Exists.intro;refine ⟨fun _=>?_,hK _ ?_⟩;(first|(go_at_call 186;exact Xv (len_any _ _))|(go_at_call 166;exact Y8 (one_any _ _)));clear hK K))
    (with_reducible refine Yu ?_)
    intro w3 hy3
    clear hun
    try simp only [Yc]
    have hx:=Hx.out
    go_wp2_with fail
    refine ⟨⟨2+1,by omega,by omega,rfl,fun j h1 h2 h3=>?_,(by repeat' first|exact Yl _|assumption|apply Yk|apply Yj|apply Yi|(refine Yh ?_ (by assumption)))⟩,by simp [intOf]⟩
    rcases (show j < 2∨j=2 by omega) with h|rfl
    ·exact Hall.out j h1 h h3
    exact Hno.out
   have Hyes:=Yw (show Ut s 2=true by unfold Ut;rw [HV.out,q2];simp at q1 ⊢;exact q1)
   have hun:=Yb
   refine Y0 (by kernel_rfl) (by kernel_rfl) ?_
   repeat ((with_reducible refine Yv ?_);intro K hK;go_simp;first|((with_reducible refine hK _ ?_);clear hK K)|(apply Exists.intro;refine ⟨fun _=>?_,hK _ ?_⟩;(first|(go_at_call 186;exact Xv (len_any _ _))|(go_at_call 166;exact Y8 (one_any _ _)));clear hK K))
   (with_reducible refine Yu ?_)
   intro w3 hy3
   clear hun
   try simp only [Yc]
   have hx:=Hx.out
   go_wp2_with fail
   go_ret2
   exact ⟨by rw [Uu s 2 (by omega) (by omega) hsz Hyes.out Hall.out,HV.out];rfl,(by repeat' first|exact Yl _|assumption|apply Yk|apply Yj|apply Yi|(refine Yh ?_ (by assumption)))⟩
  ·have p0:0 < s.size:=by omega
   have p1:1 < s.size:=by omega
   have r1:(1:Int) < (s.size:Int):=by omega
   have p2:2 < s.size:=by omega
   have r2:(2:Int) < (s.size:Int):=by omega
   have hun:=Yb
   go_wp2_with fail
   refine Y0 (by kernel_rfl) (by kernel_rfl) ?_
   repeat ((with_reducible refine Yv ?_);intro K hK;go_simp;first|((with_reducible refine hK _ ?_);clear hK K)|(apply Exists.intro;refine ⟨fun _=>?_,hK _ ?_⟩;(first|(go_at_call 186;exact Xv (len_any _ _))|(go_at_call 166;exact Y8 (one_any _ _)));clear hK K))
   (with_reducible refine Yu ?_)
   intro w2 hy
   clear hun
   try simp only [Yc]
   go_wp2_with fail
   obtain ⟨V,hV⟩:∃ V:Int,Fa s 3=V:=⟨_,rfl⟩
   rw [show IntKind.i64.wrap (IntKind.i64.wrap (IntKind.i64.wrap (IntKind.i64.wrap (IntKind.i64.wrap (IntKind.i64.wrap (s[0].toNat:Int) - 224) * 4096)+IntKind.i64.wrap (IntKind.i64.wrap (IntKind.i64.wrap (s[1].toNat:Int) - 128) * 64))+IntKind.i64.wrap (s[2].toNat:Int)) - 128)=V from by rw [← hV];simp only [Fa];rw [dif_pos p2]]
   have HV:=Yw hV
   clear hV
   cases q1:(Ca V == (3:Int))
   ·have Hno:=Yw (show Ut s 3=false by unfold Ut;rw [HV.out,show ((3:Nat):Int)=(3:Int) from rfl,q1];rfl)
    have hun:=Yb
    refine Y0 (by kernel_rfl) (by kernel_rfl) ?_
    repeat ((with_reducible refine Yv ?_);intro K hK;go_simp;first|((with_reducible refine hK _ ?_);clear hK K)|(apply Exists.intro;refine ⟨fun _=>?_,hK _ ?_⟩;(first|(go_at_call 186;exact Xv (len_any _ _))|(go_at_call 166;exact Y8 (one_any _ _)));clear hK K))
    (with_reducible refine Yu ?_)
    intro w3 hy3
    clear hun
    try simp only [Yc]
    have hx:=Hx.out
    go_wp2_with fail
    refine ⟨⟨3+1,by omega,by omega,rfl,fun j h1 h2 h3=>?_,(by repeat' first|exact Yl _|assumption|apply Yk|apply Yj|apply Yi|(refine Yh ?_ (by assumption)))⟩,by simp [intOf]⟩
    rcases (show j < 3∨j=3 by omega) with h|rfl
    ·exact Hall.out j h1 h h3
    exact Hno.out
   cases q2:((bs (u8L (Ly V))).toList == (s.extract 0 3).toList)
   ·have Hno:=Yw (show Ut s 3=false by unfold Ut;rw [HV.out,q2];simp)
    have hun:=Yb
    refine Y0 (by kernel_rfl) (by kernel_rfl) ?_
    repeat ((with_reducible refine Yv ?_);intro K hK;go_simp;first|((with_reducible refine hK _ ?_);clear hK K)|(apply Exists.intro;refine ⟨fun _=>?_,hK _ ?_⟩;(first|(go_at_call 186;exact Xv (len_any _ _))|(go_at_call 166;exact Y8 (one_any _ _)));clear hK K))
    (with_reducible refine Yu ?_)
    intro w3 hy3
    clear hun
    try simp only [Yc]
    have hx:=Hx.out
    go_wp2_with fail
    refine ⟨⟨3+1,by omega,by omega,rfl,fun j h1 h2 h3=>?_,(by repeat' first|exact Yl _|assumption|apply Yk|apply Yj|apply Yi|(refine Yh ?_ (by assumption)))⟩,by simp [intOf]⟩
    rcases (show j < 3∨j=3 by omega) with h|rfl
    ·exact Hall.out j h1 h h3
    exact Hno.out
   have Hyes:=Yw (show Ut s 3=true by unfold Ut;rw [HV.out,q2];simp at q1 ⊢;exact q1)
   have hun:=Yb
   refine Y0 (by kernel_rfl) (by kernel_rfl) ?_
   repeat ((with_reducible refine Yv ?_);intro K hK;go_simp;first|((with_reducible refine hK _ ?_);clear hK K)|(apply Exists.intro;refine ⟨fun _=>?_,hK _ ?_⟩;(first|(go_at_call 186;exact Xv (len_any _ _))|(go_at_call 166;exact Y8 (one_any _ _)));clear hK K))
   (with_reducible refine Yu ?_)
   intro w3 hy3
   clear hun
   try simp only [Yc]
   have hx:=Hx.out
   go_wp2_with fail
   go_ret2
   exact ⟨by rw [Uu s 3 (by omega) (by omega) hsz Hyes.out Hall.out,HV.out];rfl,(by repeat' first|exact Yl _|assumption|apply Yk|apply Yj|apply Yi|(refine Yh ?_ (by assumption)))⟩
  have p0:0 < s.size:=by omega
  have p1:1 < s.size:=by omega
  have r1:(1:Int) < (s.size:Int):=by omega
  have p2:2 < s.size:=by omega
  have r2:(2:Int) < (s.size:Int):=by omega
  have p3:3 < s.size:=by omega
  have r3:(3:Int) < (s.size:Int):=by omega
  have hun:=Yb
  go_wp2_with fail
  refine Y0 (by kernel_rfl) (by kernel_rfl) ?_
  repeat ((with_reducible refine Yv ?_);intro K hK;go_simp;first|((with_reducible refine hK _ ?_);clear hK K)|(apply Exists.intro;refine ⟨fun _=>?_,hK _ ?_⟩;(first|(go_at_call 186;exact Xv (len_any _ _))|(go_at_call 166;exact Y8 (one_any _ _)));clear hK K))
  (with_reducible refine Yu ?_)
  intro w2 hy
  clear hun
  try simp only [Yc]
  go_wp2_with fail
  obtain ⟨V,hV⟩:∃ V:Int,Fa s 4=V:=⟨_,rfl⟩
  rw [show IntKind.i64.wrap (IntKind.i64.wrap (IntKind.i64.wrap (IntKind.i64.wrap (IntKind.i64.wrap (IntKind.i64.wrap (IntKind.i64.wrap (s[0].toNat:Int) - 240) * 262144)+IntKind.i64.wrap (IntKind.i64.wrap (IntKind.i64.wrap (s[1].toNat:Int) - 128) * 4096))+IntKind.i64.wrap (IntKind.i64.wrap (IntKind.i64.wrap (s[2].toNat:Int) - 128) * 64))+IntKind.i64.wrap (s[3].toNat:Int)) - 128)=V from by rw [← hV];simp only [Fa];rw [dif_pos p3]]
  have HV:=Yw hV
  clear hV
  cases q1:(Ca V == (4:Int))
  ·have Hno:=Yw (show Ut s 4=false by unfold Ut;rw [HV.out,show ((4:Nat):Int)=(4:Int) from rfl,q1];rfl)
   have hun:=Yb
   refine Y0 (by kernel_rfl) (by kernel_rfl) ?_
   repeat ((with_reducible refine Yv ?_);intro K hK;go_simp;first|((with_reducible refine hK _ ?_);clear hK K)|(apply Exists.intro;refine ⟨fun _=>?_,hK _ ?_⟩;(first|(go_at_call 186;exact Xv (len_any _ _))|(go_at_call 166;exact Y8 (one_any _ _)));clear hK K))
   (with_reducible refine Yu ?_)
   intro w3 hy3
   clear hun
   try simp only [Yc]
   have hx:=Hx.out
   go_wp2_with fail
   refine ⟨⟨4+1,by omega,by omega,rfl,fun j h1 h2 h3=>?_,(by repeat' first|exact Yl _|assumption|apply Yk|apply Yj|apply Yi|(refine Yh ?_ (by assumption)))⟩,by simp [intOf]⟩
   rcases (show j < 4∨j=4 by omega) with h|rfl
   ·exact Hall.out j h1 h h3
   exact Hno.out
  cases q2:((bs (u8L (Ly V))).toList == (s.extract 0 4).toList)
  ·have Hno:=Yw (show Ut s 4=false by unfold Ut;rw [HV.out,q2];simp)
   have hun:=Yb
   refine Y0 (by kernel_rfl) (by kernel_rfl) ?_
   repeat ((with_reducible refine Yv ?_);intro K hK;go_simp;first|((with_reducible refine hK _ ?_);clear hK K)|(apply Exists.intro;refine ⟨fun _=>?_,hK _ ?_⟩;(first|(go_at_call 186;exact Xv (len_any _ _))|(go_at_call 166;exact Y8 (one_any _ _)));clear hK K))
   (with_reducible refine Yu ?_)
   intro w3 hy3
   clear hun
   try simp only [Yc]
   have hx:=Hx.out
   go_wp2_with fail
   refine ⟨⟨4+1,by omega,by omega,rfl,fun j h1 h2 h3=>?_,(by repeat' first|exact Yl _|assumption|apply Yk|apply Yj|apply Yi|(refine Yh ?_ (by assumption)))⟩,by simp [intOf]⟩
   rcases (show j < 4∨j=4 by omega) with h|rfl
   ·exact Hall.out j h1 h h3
   exact Hno.out
  have Hyes:=Yw (show Ut s 4=true by unfold Ut;rw [HV.out,q2];simp at q1 ⊢;exact q1)
  have hun:=Yb
  refine Y0 (by kernel_rfl) (by kernel_rfl) ?_
  repeat ((with_reducible refine Yv ?_);intro K hK;go_simp;first|((with_reducible refine hK _ ?_);clear hK K)|(apply Exists.intro;refine ⟨fun _=>?_,hK _ ?_⟩;(first|(go_at_call 186;exact Xv (len_any _ _))|(go_at_call 166;exact Y8 (one_any _ _)));clear hK K))
  (with_reducible refine Yu ?_)
  intro w3 hy3
  clear hun
  try simp only [Yc]
  have hx:=Hx.out
  go_wp2_with fail
  go_ret2
  exact ⟨by rw [Uu s 4 (by omega) (by omega) hsz Hyes.out Hall.out,HV.out];rfl,(by repeat' first|exact Yl _|assumption|apply Yk|apply Yj|apply Yi|(refine Yh ?_ (by assumption)))⟩
 have hfin:=Yw (Zvw s k hk1 hk5 hlt Hall.out)
 by_cases h4:k≤4
 ·have d1:decide ((k:Int)≤(4:Int))=true:=Yf (by omega)
  have d2:decide ((k:Int)≤(s.size:Int))=false:=Yg (by omega)
  have hx:=Hx.out
  go_wp2_with fail
  go_ret2
  exact ⟨by rw [hfin.out];rfl,(by repeat' first|exact Yl _|assumption|apply Yk|apply Yj|apply Yi|(refine Yh ?_ (by assumption)))⟩
 have d1:decide ((k:Int)≤(4:Int))=false:=Yg (by omega)
 have hx:=Hx.out
 go_wp2_with fail
 go_ret2
 exact ⟨by rw [hfin.out];rfl,(by repeat' first|exact Yl _|assumption|apply Yk|apply Yj|apply Yi|(refine Yh ?_ (by assumption)))⟩
end Go.Proofs.YtnbclgbicnpmnaaGreat
