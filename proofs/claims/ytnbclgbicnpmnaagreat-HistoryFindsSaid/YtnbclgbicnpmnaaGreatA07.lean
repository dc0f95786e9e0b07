/- Lemmas of this claim: Enc, EncS, RG, RO. Conditions: as named. -/
import Derived.Test.YtnbclgbicnpmnaaGreatA03
import Derived.Test.YtnbclgbicnpmnaaGreatA06
namespace Go.Proofs.YtnbclgbicnpmnaaGreat
open Go.RowKit Go.Sort Tryz
set_option maxHeartbeats 0
set_option maxRecDepth 100000
set_option linter.all false
section
structure Enc(α:Type) where
 ty:TypeId
 sl:TypeId
 z:Nat
 bytes:Nat
 cells:List α→List Value
 app:∀ a b,cells (a++b)=cells a++cells b
 len:∀ l,(cells l).length=l.length*z
 one:∀ l,∀ u∈cells l,u.oneCell'=true
 und:prog.underlying sl=some (.slice ty)
 i:TypeInfo
 zero:Value
 info:prog.info? ty=some i
 hz:i.zero=some zero
 hs:i.size=z
 hb:i.bytes=bytes
 hc:zero.cells.size=z
 pos:0<z
def Own{α:Type}(E:Enc α)(w:World)(B:Nat)(v:Value)(l:List α):Prop:=w.ownsRow B E.ty E.z v l.length (E.cells l)
def RdE{α:Type}(E:Enc α)(w:World)(S:Nat→Prop)(v:Value)(l:List α):Prop:=Rd w S E.z v l.length (E.cells l)
section
variable {α:Type} {E:Enc α} {w w':World} {B:Nat} {S T:Nat→Prop} {v:Value} {l:List α}
theorem Own.nil(E:Enc α)(w:World)(B:Nat):Own E w B (.slice none 0 0) []:=by
 have h:E.cells []=[]:=Zjk (by rw[E.len];simp);unfold Own;rw[h];exact Zie _ _ _ _
theorem Own.ext(h:Own E w B v l)(x:Ext w w'):Own E w' B v l:=K6 h x
theorem Own.chg(h:Own E w B v l)(c:Chg T w w')(hS:∀ k,v.ownBlock=some k→¬ T k):Own E w' B v l:=by
 refine⟨h.1,?_⟩;rcases h.2 with hn | ⟨g,cap,cur,rfl,hb,hgg,rest⟩
 ·exact .inl hn
 refine .inr ⟨g,cap,cur,rfl,hb,?_,rest⟩;rw[c.block g (Zjz.1 hgg).1 (hS g rfl)];exact hgg
theorem Own.rd(h:Own E w B v l):RdE E w (fun k=>B≤k) v l:=Rd.of_own h fun k hk=>(h.lt k hk).1
theorem Own.shape(h:Own E w B v l):∃ A c,v=.slice A l.length c∧l.length≤c∧c≤maxLen:=by
 obtain⟨_,A,c,h,h1,h2,_⟩:=h.rd;exact⟨A,c,h,h1,h2⟩
theorem Own.base{C:Nat}(h:Own E w B v l)(hc:C≤B):Own E w C v l:=by
 refine⟨h.1,?_⟩;rcases h.2 with hn | ⟨g,cap,cur,rfl,hb,rest⟩
 ·exact .inl hn
 exact .inr ⟨g,cap,cur,rfl,Zjw hc hb,rest⟩
theorem RdE.ext(h:RdE E w S v l)(x:Ext w w'):RdE E w' S v l:=Rd.ext h x
theorem RdE.shape(h:RdE E w S v l):∃ A c,v=.slice A l.length c∧l.length≤c∧c≤maxLen:=by
 obtain⟨_,A,c,h,h1,h2,_⟩:=h;exact⟨A,c,h,h1,h2⟩
structure Grew(E:Enc α)(w:World)(B:Nat)(v:Value)(l:List α)(A:Option Addr)(n c:Nat)(w':World):Prop where
 own:Own E w' B (.slice A n c) l
 len:n=l.length
 cap:n≤c∧c≤maxLen
 ext:∀ W,Ext W w→W.heap.size≤B→Ext W w'
 chg:Chg (fun b=>v.ownBlock=some b) w w'
 at_:(Value.slice A n c).ownBlock=v.ownBlock∨(Value.slice A n c).ownBlock=some w.heap.size
theorem Ztt{m:List α}{v':Value}(hown:Own E w B v l)(h:Bg w B E.ty E.z v (l.length+m.length) (E.cells l++E.cells m) v' w'):∃ A n c,v'=.slice A n c∧Grew E w B v (l++m) A n c w':=by
 have ho:Own E w' B v' (l++m):=by
  have:=h.own;unfold Own;rw[Zs,E.app];exact this
 obtain⟨A,c,rfl,h1,h2⟩:=ho.shape;exact⟨A,_,c,rfl,ho,rfl,⟨h1,h2⟩,fun W hx hB=>hx.grown h.grown fun k hk=>Zjw hB (hown.lt k hk).1,(Chg.refl _ _).grown h.grown (fun k hk=>.inl hk),h.at_⟩
end
section
variable {α:Type} {ops:Array Oper} {rest:List Oper} {o:Oper} {a:Act} {w:World} {Q:Exit→Act→World→Prop} {K:Act→World→Prop} {B:Nat} {S:Nat→Prop} {v x:Value} {l m:List α}
theorem Zny(E:Enc α)(s y:Operand)(t:TypeId)(ho:o.op=.call {callee:=.builtin .append,args:=#[s,y],argTypes:=#[t,t]})(ht:t=E.sl)(hs:a.eval s=v)(hown:Own E w B v l)
 (hx:a.eval y=x) (hr:RdE E w S x m) (hn:l.length+m.length≤1000000000) (hby:E.bytes≤1000) (hB:B≤w.heap.size)
 (h:∀ A n c w',Grew E w B v (l++m) A n c w'→K (a.put o.dst (.slice A n c)) w'):o.wp prog a w K Q:=by
 subst ht;refine Ky w s y E.sl ho B E.ty E.i E.zero E.z E.bytes E.und E.info E.hz E.hs E.hb E.hc E.pos v l.length (E.cells l) hs hown S x m.length (E.cells m) hx hr (E.one m) (by unfold maxLen;omega) ?_ hB ?_
 ·calc (l.length+m.length)*E.bytes≤1000000000*1000:=Zfq hn hby
   _≤140737488355328:=by omega
 intro v' w' ha;obtain⟨A,n,c,rfl,hg⟩:=Ztt hown ha;exact h A n c w' hg
theorem Xt(E:Enc α)(s y:Operand)(t:TypeId)(hgd:o.guard=none)(ho:o.op=.call {callee:=.builtin .append,args:=#[s,y],argTypes:=#[t,t]})(ht:t=E.sl)(hs:a.eval s=v)(hown:Own E w B v l)
 (hx:a.eval y=x) (hr:RdE E w S x m) (hn:l.length+m.length≤1000000000) (hby:E.bytes≤1000) (hB:B≤w.heap.size)
 (h:∀ A n c w',Grew E w B v (l++m) A n c w'→wpList prog ops Q rest (a.put o.dst (.slice A n c)) w'):wpList prog ops Q (o::rest) a w :=
 Zgr hgd fun _ hK=>Zny E s y t ho ht hs hown hx hr hn hby hB fun A n c w' hg=>hK _ _ (h A n c w' hg)
theorem Vj(E:Enc α){F:Prop}(s y:Operand)(t:TypeId)(hgd:o.guard=none)(ho:o.op=.call {callee:=.builtin .append,args:=#[s,y],argTypes:=#[t,t]})(ht:t=E.sl)(hs:a.eval s=v)(hown:Own E w B v l)
 (hx:a.eval y=x) (hr:RdE E w S x m) (hn:l.length+m.length≤1000000000) (hby:E.bytes≤1000) (hB:B≤w.heap.size)
 (h:∀ A n c w',Grew E w B v (l++m) A n c w'→K (a.put o.dst (.slice A n c)) w') :
 if Region.wanted o (yielded ops a.tmps)=true then Oper.wp prog o a w K Q else F:=by
 have hw:Region.wanted o (yielded ops a.tmps)=true:=by simp[Region.wanted,hgd]
 rw[Zjx hw];exact Zny E s y t ho ht hs hown hx hr hn hby hB h
end
theorem Dh{α:Type}(f:α→Value)(hf:∀ a,(f a).oneCell'=true)(l:List α):∀ u∈l.map f,u.oneCell'=true:=fun u hu=>by
 obtain⟨y,_,rfl⟩:=Zjs.1 hu;exact hf y
theorem Ev:(prog.info? 3).map (fun i=>(i.zero,i.size,i.bytes))=some (some (.int .i64 0),1,8):=by kernel_rfl
theorem Zos:prog.underlying 22=some (.slice 3):=by kernel_rfl
noncomputable def Wb:Enc Int where
 ty:=3
 sl:=22
 z:=1
 bytes:=8
 cells l:=l.map (Value.int .i64)
 app a b:=Yy
 len l:=by simp
 one l:=Dh _ (fun _=>rfl) l
 und:=Zos
 i:=Classical.choose (Zju Ev)
 zero:=.int .i64 0
 info:=(Yo (Zju Ev)).1
 hz:=(Yo (Zju Ev)).2.1
 hs:=(Yo (Zju Ev)).2.2.1
 hb:=(Yo (Zju Ev)).2.2.2
 hc:=rfl
 pos:=by omega
noncomputable def Jr:Enc ByteArray where
 ty:=9
 sl:=24
 z:=1
 bytes:=16
 cells l:=l.map Value.string
 app a b:=Yy
 len l:=by simp
 one l:=Dh _ (fun _=>rfl) l
 und:=Zoq
 i:=Classical.choose (Zju Et)
 zero:=.string ⟨#[]⟩
 info:=(Yo (Zju Et)).1
 hz:=(Yo (Zju Et)).2.1
 hs:=(Yo (Zju Et)).2.2.1
 hb:=(Yo (Zju Et)).2.2.2
 hc:=rfl
 pos:=by omega
end
section
theorem Zse{α:Type}(E:Enc α)(hz:E.z=1)(l:List α){i:Nat}(hi:i<l.length)(x:α)(u:Value)(hu:E.cells [x]=[u]):E.cells (l.set i x)=(E.cells l).set i u:=by
 have e0:l=l.take i++([l[i]]++l.drop (i+1)):=by simp
 have e1:l.set i x=l.take i++([x]++l.drop (i+1)):=by
  rw[Zh8,Zjx hi];rfl
 have el:(E.cells (l.take i)).length=i:=by rw[E.len,hz,Zp];omega
 have ey:(E.cells [l[i]]).length=1:=by rw[E.len,hz];rfl
 obtain⟨y,hy⟩:∃ y,E.cells [l[i]]=[y]:=List.length_eq_one_iff.1 ey;have e2:E.cells l=E.cells (l.take i)++([y]++E.cells (l.drop (i+1))):=by
  rw[← hy,← E.app,← E.app,← e0]
 rw[e1,E.app,E.app,hu,e2,Zgl,Zk9 (by omega),el];simp
section
variable {α:Type} {E:Enc α} {w:World} {B g n c:Nat} {l:List α}
theorem Own.put(h:Own E w B (.slice (some ⟨g,0,none⟩) n c) l)(hz:E.z=1){i:Nat}(hi:i<l.length)(x:α){u:Value}(hu:E.cells [x]=[u]) :
 Own E (w.setCell ⟨g,i,none⟩ u) B (.slice (some ⟨g,0,none⟩) n c) (l.set i x):=by
 obtain⟨h1,h2⟩:=h;refine⟨by rw[E.len],?_⟩;rcases h2 with⟨h2,_⟩ | ⟨g',cap,cur,he,hb,hg,hn,hm,hs,ht⟩
 ·simp at h2
 simp only[Ye,Yd,Zjp,Zjj,Zj6]at he;obtain⟨rfl,he2,rfl⟩:=he;refine .inr ⟨g,c,cur.setIfInBounds i u,?_,hb,?_,?_,hm,by simpa using hs,?_⟩
 ·rw[Zf,← he2]
 ·simp[World.setCell,Zht,hg]
 ·rw[Zf];exact hn
 rw[Zse E hz l hi x u hu,← ht,Zf];simp[List.take_set]
theorem Own.some_{v:Value}(h:Own E w B v l)(hl:0<l.length):∃ g c,v=.slice (some ⟨g,0,none⟩) l.length c∧B≤g∧g<w.heap.size∧l.length≤c∧c≤maxLen:=by
 obtain⟨h1,h2⟩:=h;rcases h2 with⟨_,h2⟩ | ⟨g',cap,cur,he,hb,hg,hn,hm,hs,ht⟩
 ·omega
 exact⟨g',cap,he,hb,(Zjz.1 hg).1,hn,hm⟩
theorem Own.at_(h:Own E w B (.slice (some ⟨g,0,none⟩) n c) l){j:Nat}{u:Value}(hu:(E.cells l)[j]?=some u):w.cell? ⟨g,j,none⟩=some u:=by
 have:=h.cells (g:=g) rfl j u hu;rw[Ph]at this;exact this
theorem Own.blk(h:Own E w B (.slice (some ⟨g,0,none⟩) n c) l):B≤g∧g<w.heap.size:=h.lt g rfl
theorem Own.thaw(h:Own E w B (.slice (some ⟨g,0,none⟩) n c) l)(j:Nat):w.frozen? ⟨g,j,none⟩=false:=by
 rcases h.2 with⟨h2,_⟩ | ⟨g',cap,cur,he,hb,hg,hn,hm,hs,ht⟩
 ·simp at h2
 simp only[Ye,Yd,Zjp,Zjj,Zj6]at he;obtain⟨rfl,he2,rfl⟩:=he;simp[World.frozen?,hg]
theorem Zz1{w:World}{p q:Addr}(u:Value)(h:q.block≠p.block):(w.setCell p u).cell? q=w.cell? q:=Zia (Zh6 w p u q.block h)
end
theorem RdE.take{α:Type}{E:Enc α}{w:World}{S:Nat→Prop}{A:Option Addr}{n c:Nat}{l:List α}(h:RdE E w S (.slice A n c) l)(hz:E.z=1){i:Nat}(hi:i≤l.length):RdE E w S (.slice A i c) (l.take i):=by
 have ecl:E.cells (l.take i)=(E.cells l).take i:=by
  have e:E.cells l=E.cells (l.take i)++E.cells (l.drop i):=by rw[← E.app,List.take_append_drop]
  have el:(E.cells (l.take i)).length=i:=by rw[E.len,hz,Zp];omega
  conv=>rhs;rw[e]
  exact(List.take_left' el).symm
 have hl:(l.take i).length=i:=by rw[Zp];omega
 unfold RdE at h⊢;rw[ecl,hl];obtain⟨h1,A',c',hv,h2,h3,h4⟩:=h;cases hv
 rw[hz]at h1;refine⟨by rw[Zp,h1,hz];omega,A,c,rfl,by omega,h3,fun h0=>?_⟩;obtain⟨g,o,e,hS,hg,hc⟩:=h4 (by omega);refine⟨g,o,e,hS,hg,fun j u hu=>hc j u ?_⟩;rw[Yw]at hu;split at hu
 ·exact hu
 simp at hu
theorem RdE.drop{α:Type}{E:Enc α}{w:World}{S:Nat→Prop}{g o n c:Nat}{l:List α}(h:RdE E w S (.slice (some ⟨g,o,none⟩) n c) l)(hz:E.z=1){i m:Nat}(hi:i≤l.length)(hm:m=l.length-i){A2:Option Addr}{c2:Nat}(hA:0<m→A2=some ⟨g,o+i,none⟩)(hc1:m≤c2)(hc2:c2≤maxLen):RdE E w S (.slice A2 m c2) (l.drop i):=by
 have ecl:E.cells (l.drop i)=(E.cells l).drop i:=by
  have e:E.cells l=E.cells (l.take i)++E.cells (l.drop i):=by rw[← E.app,List.take_append_drop]
  have el:(E.cells (l.take i)).length=i:=by rw[E.len,hz,Zp];omega
  conv=>rhs;rw[e]
  exact(List.drop_left' el).symm
 have hl:(l.drop i).length=m:=by rw[Yz,hm]
 unfold RdE at h⊢;rw[ecl,hl];obtain⟨h1,A',c',hv,h2,h3,h4⟩:=h;cases hv
 rw[hz]at h1;refine⟨by rw[Yz,h1,hm,Zgk,hz,Zgk],A2,c2,rfl,hc1,hc2,fun h0=>?_⟩;obtain rfl:=hA h0;have h00:0<l.length:=by omega
 obtain⟨g',o',e,hS,hg,hc⟩:=h4 h00;cases e
 refine⟨g,o+i,rfl,hS,hg,fun j u hu=>?_⟩;rw[Yx]at hu;have:=hc (i+j) u hu
 rwa [← Zid]at this
theorem ints_at{l:List Int}{j:Nat}{x:Int}(h:l[j]?=some x):(Wb.cells l)[j]?=some (.int .i64 x):=by
 show(l.map (Value.int .i64))[j]?=_;rw[Zn,h];rfl
end
def nextL(d:List Mp)(l:List Int):List Int:=l.flatMap fun x=>if(Xf d x).isEmpty then[x]else Xf d x
def Fp(d:List Mp)(l:List Int):Bool:=l.any fun x=>!(Xf d x).isEmpty
def Q4(d:List Mp):Nat→List Int→Option (List Int)
 | 0,_=>none
 | k+1,l=>if Fp d l=false then some l else if 18<(nextL d l).length then none else Q4 d k (nextL d l)
theorem Pw(d:List Mp)(l:List Int)(x:Int):nextL d (l++[x])=nextL d l++(if(Xf d x).isEmpty then[x]else Xf d x):=by simp[nextL]
theorem Px(d:List Mp)(l:List Int)(x:Int):Fp d (l++[x])=(Fp d l||!(Xf d x).isEmpty):=by simp[Fp]
theorem Wp{α:Type}{l:List α}{i:Nat}{x:α}(h:l[i]?=some x):l.take (i+1)=l.take i++[x]:=by
 rw[Za,h];rfl
structure Few(T:Tbl):Prop where
 dec:∀ m∈T.dec,m.to_.length≤18
 map:∀ m∈T.map,m.to_.length≤18
 pro:∀ m∈T.pro,m.to_.length≤18
 ext:∀ m∈T.ext,m.to_.length≤18
 rows:T.dec.length≤256∧T.map.length≤256∧T.pro.length≤256∧T.ext.length≤256
theorem Um{l:List Mp}{N:Nat}(h:∀ m∈l,m.to_.length≤N):∀ c,(Xf l c).length≤N:=by
 intro c
 induction l with
 | nil=>simp[Xf]
 | cons m r ih =>
  unfold Xf;split
  ·exact h m (by simp)
  exact ih fun m hm=>h m (by simp[hm])
theorem Zt8{d:List Mp}(h:∀ m∈d,m.to_.length≤18)(l:List Int):(nextL d l).length≤18*l.length:=by
 induction l with
 | nil=>simp[nextL]
 | cons x r ih =>
  have e:nextL d (x::r)=(if(Xf d x).isEmpty then[x]else Xf d x)++nextL d r:=by simp[nextL]
  rw[e,Zs,Zl];have:=Um h x;split<;>simp<;>omega
theorem Zq6(w:World)(z:Int)(t:TypeId)(g:Nat)(hg:w.heap.size=g):Xx (w.alloc (.cells #[.int .i64 z] t)) (fun k=>k=g) (.slice (some ⟨g,0,none⟩) 1 1) [z]:=by
 subst hg;have h1:(w.alloc (.cells #[.int .i64 z] t)).heap[w.heap.size]?=some (.cells #[.int .i64 z] t):=Zjc w _;refine⟨by simp,_,_,rfl,Yn _,by unfold maxLen;omega,fun _=>⟨_,_,rfl,rfl,(Zjz.1 h1).1,fun j u hu=>?_⟩⟩;simp only[World.cell?,h1];rw[Zjd,← hu];simp
def Jj(T:Tbl)(c:Int)(w:World)(e:Ending)(w':World):Prop :=
 match Q4 T.dec 257 [c]with
 | some l=>∃ v,e=.returned (.tuple #[v,.bool true])∧Xx w' (fun k=>w.heap.size≤k) v l∧Ext w w'
 | none=>e=.returned (.tuple #[.slice none 0 0,.bool false])∧Ext w w'
theorem Ey{S:Nat→Prop}(T:Tbl)(c:Int)(w:World)(h:Xk w S T)(hf:Few T):Calls prog 146 #[Vn T,.int .i64 c] w (Jj T c w):=by
 obtain⟨A9,C9,e9,hl9,hc9⟩:=h.dec.shape;have h9:=h.dec.ext ((Yl w).alloc (Wx T));obtain⟨n9,hn9⟩:=gnX (T.dec.length);rw[hn9]at e9 hl9;rw[e9]at h9;have Hn9:=Y4 hn9;have E9:=Y4 e9;have H9:=Y4 h9;unfold maxLen at hc9;clear hn9 e9 h9;have X0:=Y4 ((Yl w).alloc (Wx T));have H:=Y4 (h.up X0.o);have Hb0:=Y4 (Xm w T);clear h;have Hf:=Y4 hf;clear hf;go_enter func146,ntmps146;go_wp2_with (refine Xw rfl ?_);go_loopw [7,6] (fun o v wr=>∃ (k:Nat) (l:List Int),k≤257∧o=.int .i64 (k:Int)∧Q4 T.dec 257 [c]=Q4 T.dec (257-k) l∧l.length≤18∧Xx wr (fun k=>w.heap.size≤k) v l∧Ext (w.alloc (Wx T)) wr) (fun o _ _=>257-(intOf o).toNat);case atStart =>
  exact⟨0,[c],by omega,rfl,rfl,by simp,Rd.mono (Zq6 (w.alloc (Wx T)) c 3 (w.heap.size+1) (by simp)) (fun k hk _=>by omega),(Yl _).alloc _⟩
 obtain⟨k,l,hk,rfl,he,hl,hv,hx⟩:=hrel;obtain⟨VA,VC,rfl,hvl,hvc⟩:=hv.shape;obtain⟨n,hn⟩:=gnX (l.length);rw[hn]at hvl hl⊢;have Hn:=Y4 hn;have Hv:=Y4 hv;have He:=Y4 he;have Hx:=Y4 hx;clear hn hv he hx;by_cases hlt:k≤256
 ·have hd:decide ((k:Int)≤(256:Int))=true:=Yf;go_wp2_with fail;rename World=>wo
  have hB:w.heap.size≤wo.heap.size:=Zjw X0.o.size Hx.o.size;obtain⟨B,hBe⟩:=gnX (wo.heap.size);go_loopw [21,8,9] (fun o u b wr=>∃ j:Nat,j≤n∧o=.int .i64 (j:Int)∧Own Wb wr B u (nextL T.dec (l.take j))∧b=.bool (Fp T.dec (l.take j))∧Ext wo wr) (fun o _ _ _=>n-(intOf o).toNat);case atStart=>exact⟨0,by omega,rfl,Own.nil _ _ _,rfl,Yl _⟩
  obtain⟨j,hj,rfl,ho,rfl,hxj⟩:=hrel;obtain⟨OA,OC,rfl,hol,hoc⟩:=ho.shape;have hq18:(nextL T.dec (l.take j)).length≤324:=Zjw (Zt8 Hf.o.dec _) (by rw[Zp];omega);obtain⟨q,hq⟩:=gnX ((nextL T.dec (l.take j)).length);have Hq:=Y4 hq;have Ho:=Y4 ho;rw[hq]at hol hq18⊢;have Hxj:=Y4 hxj;have HxA:=Y4 (Hx.o.trans hxj);have hBj:B≤wr.heap.size:=by rw[← hBe];exact hxj.size
  have HBj:=Y4 hBj;unfold maxLen at hoc;clear hq ho hxj hBj;by_cases hlj:j<n
  ·obtain⟨hd_j,i0_j,i1_j⟩:=LTl j n;obtain⟨x,hs_x⟩:=geX (l:=(l)) (i:=j) (by have:=Hn.o;omega);obtain⟨g_x,o_x,c_x,hvv,_,_,_,hgl_x,a0_x⟩:=(Hv.o.ext Hxj.o).get hs_x;simp only[Ye]at hvv;obtain⟨rfl,-,rfl⟩:=hvv;have Hs_x:=Y4 hs_x;clear hs_x;have b9:=(Hb0.o.ext HxA.o).at_ 9 (by omega);rw[show(Qj T)[9]?=some T.decV from rfl,E9.o]at b9;have hfa:=Qh (S:=S) (c:=x) H9.o.2;obtain⟨FA,FC,ef,fl,fc⟩:=hfa.shape;obtain⟨d,hd⟩:=gnX ((Xf T.dec x).length);have hd18:=Um Hf.o.dec x;rw[ef]at hfa;rw[hd]at ef fl hd18;have Hd:=Y4 hd;have Hfa:=Y4 hfa;clear hd hfa;unfold maxLen at fc;by_cases h0:0<d
   ·have h1:decide ((0:Int)<(d:Int))=true:=Yf;have h2:decide (0<d)=true:=Yf h0;go_wp2_with (first|(go_at_call 111;refine(Ww _ T.dec x _ (H9.o.ext HxA.o)).mono ?_;rintro e w1 ⟨rfl,hx1⟩)|(at_builtin;refine Xt Wb _ _ _ rfl rfl rfl rfl (by rw[← Hq.o];exact Ho.o.ext hx1) rfl (by have:=Hfa.o.ext (HxA.o.trans hx1);rw[Hd.o]at this;exact this) (by rw[Hq.o,Hd.o];omega) (by show 8≤1000;omega) (Zjw HBj.o hx1.size) ?_;intro A3 n3 c3 w3 hg));have Hg:=Y4 hg;have Hx1:=Y4 hx1;have h3:(Xf T.dec x).isEmpty=false:=by cases hh:Xf T.dec x with
     | nil=>have:=Hd.o;rw[hh]at this;simp at this;omega
     | cons _ _=>rfl
    have Hfin:=Y4 h3;clear hg hx1 h3;go_wp2_with fail;go_roundw;case rel =>
     refine⟨j+1,by omega,by go_num,?_,?_,?_⟩
     ·rw[Wp Hs_x.o,Pw,Hfin.o];exact Hg.o.own
     ·rw[Wp Hs_x.o,Px,Hfin.o];simp
     exact Hg.o.ext wo (Hxj.o.trans Hx1.o) (by rw[hBe];exact Yn _)
    case measure=>simp[intOf];omega
   have h1:decide ((0:Int)<(d:Int))=false:=Yg;have h2:decide (0<d)=false:=Yg h0;go_wp2_with (first|(go_at_call 111;refine(Ww _ T.dec x _ (H9.o.ext HxA.o)).mono ?_;rintro e w1 ⟨rfl,hx1⟩)|(at_builtin;refine Xt Wb _ _ _ rfl rfl rfl rfl (by rw[← Hq.o];exact(Ho.o.ext hx1).ext ((Yl _).alloc _)) rfl (Wr w1 x _ _ rfl) (by rw[Hq.o];simp;omega) (by show 8≤1000;omega) (by have:=Zjw HBj.o hx1.size;simp;omega) ?_;intro A3 n3 c3 w3 hg));have Hg:=Y4 hg;have Hx1:=Y4 hx1;have h3:(Xf T.dec x).isEmpty=true:=by cases hh:Xf T.dec x with
    | nil=>rfl
    | cons _ _=>have:=Hd.o;rw[hh]at this;simp at this;omega
   have Hfin:=Y4 h3;clear hg hx1 h3;go_wp2_with fail;go_roundw;case rel =>
    refine⟨j+1,by omega,by go_num,?_,?_,?_⟩
    ·rw[Wp Hs_x.o,Pw,Hfin.o];exact Hg.o.own
    ·rw[Wp Hs_x.o,Px,Hfin.o];simp
    exact Hg.o.ext wo ((Hxj.o.trans Hx1.o).alloc _) (by rw[hBe];exact Yn _)
   case measure=>simp[intOf];omega
  have hd_j:=GEl j n;have ej:l.take j=l:=Zm (by rw[Hn.o];omega);rw[ej]at Hq Ho⊢;cases hmo:Fp T.dec l
  ·have Hmo:=Y4 hmo;go_wp2_with fail;go_ret2;unfold Jj;rw[He.o,show 257-k=(256-k)+1 by omega,Q4,Zjx Hmo.o];exact⟨.slice VA n VC,rfl,by rw[← Hn.o];exact Hv.o.ext Hxj.o,X0.o.trans HxA.o⟩
  have Hmo:=Y4 hmo;by_cases h18:18<q
  ·have h1:decide ((18:Int)<(q:Int))=true:=Yf;go_wp2_with fail;go_ret2;unfold Jj;rw[He.o,show 257-k=(256-k)+1 by omega,Q4,Zk9 (by rw[Hmo.o];simp),Zjx (by rw[Hq.o];exact h18)];exact⟨rfl,X0.o.trans HxA.o⟩
  have h1:decide ((18:Int)<(q:Int))=false:=Yg;go_wp2_with fail;go_roundw;case rel =>
   refine⟨k+1,nextL T.dec l,by omega,by go_num,?_,?_,?_,HxA.o⟩
   ·rw[He.o,show 257-k=(256-k)+1 by omega,Q4,Zk9 (by rw[Hmo.o];simp),Zk9 (by rw[Hq.o];exact h18)];rw[show 257-(k+1)=256-k by omega]
   ·rw[Hq.o];omega
   rw[← Hq.o];exact Rd.mono Ho.o.rd fun b hb _=>by omega
  case measure=>simp[intOf];omega
 have hd:decide ((k:Int)≤(256:Int))=false:=Yg;have Hnone:=Y4 (show Q4 T.dec 257 [c]=none by rw[He.o,show 257-k=0 by omega];rfl);go_wp2_with fail;go_ret2;unfold Jj;rw[Hnone.o];exact⟨rfl,X0.o.trans Hx.o⟩
def Zmz(s:ByteArray):Nat→List Int→Nat→List Int×Nat
 | 0,acc,p=>(acc,p)
 | f+1,acc,p=>if p<s.size∧0<Ul (s.extract p s.size)then Zmz s f (acc++[Ob (s.extract p s.size)]) (p+Ul (s.extract p s.size))else(acc,p)
def dec(s:ByteArray):List Int×Nat:=Zmz s (s.size+1) [] 0
theorem ext_size(s:ByteArray){p:Nat}(_:p≤s.size):(s.extract p s.size).size=s.size-p:=by simp
def Znp(s:ByteArray)(w:World)(e:Ending)(w':World):Prop:=∃ v,e=.returned (.tuple #[v,.int .i64 ((dec s).2:Int)])∧RdE Wb w' (fun k=>w.heap.size≤k) v (dec s).1∧(dec s).1.length≤4096∧(dec s).2≤s.size∧Ext w w'
theorem decode_any(s:ByteArray)(hs:s.size≤4096)(w:World):Calls prog 224 #[.string s] w (Znp s w):=by
 go_enter func224,ntmps224;go_wp2_with fail;go_loopw [5,4] (fun o v wr=>∃ (f p:Nat) (l:List Int),o=.int .i64 (p:Int)∧Aside (dec s=Zmz s f l p)∧s.size+1≤f+p∧p≤s.size∧l.length≤p∧Own Wb wr w.heap.size v l∧Ext w wr) (fun o _ _=>s.size-(intOf o).toNat);case atStart=>exact⟨s.size+1,0,[],rfl,rfl,by omega,by omega,by simp,Own.nil _ _ _,Yl _⟩
 obtain⟨f,p,l,rfl,he,hf,hp,hl,ho,hx⟩:=hrel;have He:=Zj7 he.out;have Ho:=Zj7 ho;have Hx:=Zj7 hx;obtain⟨A,C,rfl,hlc,hC⟩:=ho.shape;obtain⟨n,hn⟩:=gnX (l.length);rw[hn]at hl hlc⊢;have Hn:=Zj7 hn;unfold maxLen at hC;clear he ho hx hn;obtain⟨f',rfl⟩:∃ g,f=g+1:=⟨f-1,by omega⟩;by_cases hlt:p<s.size
 ·have d1:decide ((p:Int)<(s.size:Int))=true:=Yf;have d2:decide (p<s.size)=true:=Yf hlt;have i0:(0:Int)≤(p:Int):=by omega
  have i1:(p:Int)≤(s.size:Int):=by omega
  have hle:=Zu9 (s.extract p s.size);rw[ext_size s hp]at hle;obtain⟨N,hN⟩:=gnX (Ul (s.extract p s.size));rw[hN]at hle;have HN:=Zj7 hN;have hes:=ext_size s hp;have Hes:=Zj7 hes;clear hN hes;by_cases h0:N=0
  ·have Hd:=Zj7 (show dec s=(l,p) by rw[He.out,Zmz,Zk9 (by rw[HN.out,h0];simp)]);have q1:((N:Int)==0)=true:=by simp;omega
   have q2:(N==0)=true:=by simp;omega
   have q3:decide (N=0)=true:=Yf h0;clear h0;go_wp2_with (go_at_call 246;refine(first_any _ (by rw[Hes.out];unfold maxLen;omega) _).mono ?_;rintro e w1 ⟨rfl,hx1⟩;rw[HN.out]);go_ret2;refine⟨.slice A n C,?_,?_,?_,?_,Hx.out.trans hx1⟩
   ·rw[Hd.out];rfl
   ·rw[Hd.out,← Hn.out];exact(Ho.out.ext hx1).rd
   ·rw[Hd.out];show l.length≤4096;rw[Hn.out];omega
   rw[Hd.out];exact hp
  have q1:((N:Int)==0)=false:=by simp;omega
  have q2:(N==0)=false:=by simp;omega
  have q3:decide (N=0)=false:=Yg h0;go_wp2_with (first|(go_at_call 246;refine(first_any _ (by rw[Hes.out];unfold maxLen;omega) _).mono ?_;rintro e w1 ⟨rfl,hx1⟩;rw[HN.out])|(at_builtin;refine Xt Wb _ _ _ rfl rfl rfl rfl (by rw[← Hn.out];exact(Ho.out.ext hx1).ext ((Yl _).alloc _)) rfl (Wr w1 (Ob (s.extract p s.size)) _ _ rfl) (by rw[Hn.out];simp;omega) (by show 8≤1000;omega) (by have:=Zjw Hx.out.size hx1.size;simp;omega) ?_;intro A3 n3 c3 w3 hg));have Hd:=Zj7 (show dec s=Zmz s f' (l++[Ob (s.extract p s.size)]) (p+N) by rw[He.out,Zmz,Zjx ⟨hlt,by rw[HN.out];omega⟩,HN.out]);have Hg:=Zj7 hg;have Hx3:=Zj7 (hg.ext w ((Hx.out.trans hx1).alloc _) (Yn _));clear hg;go_wp2_with fail;go_roundw;case rel =>
   refine⟨f',p+N,l++[Ob (s.extract p s.size)],by go_num,Hd.out,by omega,by omega,?_,Hg.out.own,Hx3.out⟩;rw[Zs,Hn.out];simp;omega
  case measure=>simp[intOf];omega
 have d1:decide ((p:Int)<(s.size:Int))=false:=Yg;have d2:decide (p<s.size)=false:=Yg hlt;have Hd:=Zj7 (show dec s=(l,p) by rw[He.out,Zmz,Zk9 (fun h=>hlt h.1)]);go_wp2_with fail;go_ret2;refine⟨.slice A n C,?_,?_,?_,?_,Hx.out⟩
 ·rw[Hd.out];rfl
 ·rw[Hd.out,← Hn.out];exact Ho.out.rd
 ·rw[Hd.out];show l.length≤4096;rw[Hn.out];omega
 rw[Hd.out];exact hp
def Zxh(s:ByteArray)(w:World)(e:Ending)(w':World):Prop :=
 ∃ v l,∃ p x:Int,e=.returned (.tuple #[v,.int .i64 p,.int .i64 x])∧RdE Wb w' (fun k=>w.heap.size≤k) v l∧l.length≤4096∧(x=0→l=(dec s).1)∧Ext w w'
theorem Zo3{w:World}{S:Nat→Prop}:RdE Wb w S (.slice none 0 0) []:=Xx.nil w S
theorem Cj(s:ByteArray)(w:World):Calls prog 208 #[.string s] w (Zxh s w):=by
 go_enter func208,ntmps208;by_cases hbig:4096<s.size
 ·have d1:decide ((4096:Int)<(s.size:Int))=true:=Yf;go_wp2_with fail;go_ret3;exact⟨_,[],_,_,rfl,Zo3,by simp,fun h=>absurd h (by decide),Yl _⟩
 have d1:decide ((4096:Int)<(s.size:Int))=false:=Yg;by_cases hp:(dec s).2<s.size
 ·have d2:decide (((dec s).2:Int)<(s.size:Int))=true:=Yf;have d3:decide ((dec s).2<s.size)=true:=Yf hp;go_wp2_with (go_at_call 224;refine(decode_any _ (by omega) _).mono ?_;rintro e w1 ⟨v,rfl,hv,hl,_,hx1⟩);go_ret3;exact⟨_,[],_,_,rfl,Zo3,by simp,fun h=>absurd h (by decide),hx1⟩
 have d2:decide (((dec s).2:Int)<(s.size:Int))=false:=Yg;have d3:decide ((dec s).2<s.size)=false:=Yg hp;go_wp2_with (go_at_call 224;refine(decode_any _ (by omega) _).mono ?_;rintro e w1 ⟨v,rfl,hv,hl,_,hx1⟩);go_ret3;exact⟨_,_,_,_,rfl,hv,hl,fun _=>rfl,hx1⟩
def Zxg(n:Nat)(w:World)(e:Ending)(w':World):Prop:=∃ (t:ByteArray) (x:Int),e=.returned (.tuple #[.string t,.int .i64 x])∧t.size≤4*n∧Ext w w'
theorem Dt{S:Nat→Prop}(v:Value)(l:List Int)(w:World)(h:Xx w S v l):Calls prog 126 #[v] w (Zxg l.length w):=by
 obtain⟨A,C,rfl,hlCC,hCC⟩:=h.shape;obtain⟨n,hnn⟩:=gnX ((l).length);have Hnn:=Zj7 hnn;have Hh:=Zj7 h;unfold maxLen at hCC;rw[hnn]at hlCC⊢;clear h hnn;go_enter func126,ntmps126;by_cases hbig:4096<n
 ·have hb:decide ((4096:Int)<(n:Int))=true:=Yf;go_wp2_with fail;go_ret2;exact⟨⟨#[]⟩,_,rfl,Zjn _,Yl _⟩
 have hb:decide ((4096:Int)<(n:Int))=false:=Yg;go_wp2_with fail;go_loopw [12,4] (fun o y wr=>∃ (i:Nat) (t:ByteArray),i≤n∧o=.int .i64 (i:Int)∧y=.string t∧t.size≤4*i∧Ext w wr) (fun o _ _=>n-(intOf o).toNat);case atStart=>exact⟨0,⟨#[]⟩,by omega,rfl,rfl,Zjn _,Yl _⟩
 obtain⟨i,t,hi,rfl,rfl,ht,hx⟩:=hrel;have Hx:=Zj7 hx;clear hx;by_cases hlt:i<n
 ·obtain⟨hd_i,i0_i,i1_i⟩:=LTl i n;obtain⟨x,hs_x⟩:=geX (l:=(l)) (i:=i) (by have:=Hnn.out;omega);obtain⟨g_x,o_x,c_x,hvv,_,_,_,hgl_x,a0_x⟩:=(Hh.out.ext Hx.out).get hs_x;simp only[Ye]at hvv;obtain⟨rfl,-,rfl⟩:=hvv;have Hs_x:=Zj7 hs_x;clear hs_x;have h4:(bs (u8L (Nj x))).size≤4:=by rw[Zn6];simp only[u8L,Zq];exact Zpi x
  have hz:¬ 9223372036854775807<t.size+(bs (u8L (Nj x))).size:=by omega
  go_wp2_with (first|(go_at_call 143;refine(J2 _ _).mono ?_;rintro e w' ⟨rfl,rfl⟩)|(go_at_call 166;refine(one_any _ _).mono ?_;rintro e w1 ⟨rfl,hx1⟩));all_goals
   have hx:=Hx.out
   first
   | (go_roundw
      case rel =>
       refine⟨i+1,_,by omega,by go_num,rfl,?_,xE⟩;rw[Ym];omega
      case measure=>(simp[intOf];omega))
   | (go_ret2;exact⟨⟨#[]⟩,_,rfl,Zjn _,xE⟩)
 have hd_i:=GEl i n;have hx:=Hx.out;go_wp2_with fail;go_ret2;exact⟨t,_,rfl,by omega,xE⟩
