/- Lemmas of this claim. Conditions: as named. -/
import Derived.Deep.MidRow
import Derived.Test.YtnbclgbicnpmnaaGreatA03
import Derived.Test.YtnbclgbicnpmnaaGreatA07
import Derived.Test.YtnbclgbicnpmnaaGreatA08
namespace Go.Proofs.YtnbclgbicnpmnaaGreat
open Go.RowKit Go.Sort
set_option maxHeartbeats 0
set_option maxRecDepth 100000
set_option linter.all false
section
structure Enc(α:Type) where
 ty:TypeId
 sl:TypeId
 z:Nat
 bytes:Nat
 cells:List α→List Value
 app:∀ a b,cells (a++b)=cells a++cells b
 len:∀ l,(cells l).length=l.length*z
 one:∀ l,∀ u∈cells l,u.oneCell'=true
 und:Tryz.prog.underlying sl=some (.slice ty)
 i:TypeInfo
 zero:Value
 info:Tryz.prog.info? ty=some i
 hz:i.zero=some zero
 hs:i.size=z
 hb:i.bytes=bytes
 hc:zero.cells.size=z
 pos:0<z
def Own{α:Type}(E:Enc α)(w:World)(B:Nat)(v:Value)(l:List α):Prop:=w.ownsRow B E.ty E.z v l.length (E.cells l)
def RdE{α:Type}(E:Enc α)(w:World)(S:Nat→Prop)(v:Value)(l:List α):Prop:=Rd w S E.z v l.length (E.cells l)
section
variable {α:Type} {E:Enc α} {w w':World} {B:Nat} {S T:Nat→Prop} {v:Value} {l:List α}
theorem Own.nil(E:Enc α)(w:World)(B:Nat):Own E w B (.slice none 0 0) []:=by
 have h:E.cells []=[]:=Zkx (by rw[E.len];simp);unfold Own;rw[h];exact Zkb _ _ _ _
theorem Own.ext(h:Own E w B v l)(x:Ext w w'):Own E w' B v l:=Ka h x
theorem Own.chg(h:Own E w B v l)(c:Chg T w w')(hS:∀ k,v.ownBlock=some k→¬ T k):Own E w' B v l:=by
 refine⟨h.1,?_⟩;rcases h.2 with hn | ⟨g,cap,cur,rfl,hb,hgg,rest⟩
 ·exact .inl hn
 refine .inr ⟨g,cap,cur,rfl,hb,?_,rest⟩;rw[c.block g (Zlj.1 hgg).1 (hS g rfl)];exact hgg
theorem Own.rd(h:Own E w B v l):RdE E w (fun k=>B≤k) v l:=Rd.of_own h fun k hk=>(h.lt k hk).1
theorem Own.shape(h:Own E w B v l):∃ A c,v=.slice A l.length c∧l.length≤c∧c≤maxLen:=by
 obtain⟨_,A,c,h,h1,h2,_⟩:=h.rd;exact⟨A,c,h,h1,h2⟩
theorem Own.base{C:Nat}(h:Own E w B v l)(hc:C≤B):Own E w C v l:=by
 refine⟨h.1,?_⟩;rcases h.2 with hn | ⟨g,cap,cur,rfl,hb,rest⟩
 ·exact .inl hn
 exact .inr ⟨g,cap,cur,rfl,Zlh hc hb,rest⟩
theorem RdE.ext(h:RdE E w S v l)(x:Ext w w'):RdE E w' S v l:=Rd.ext h x
theorem RdE.shape(h:RdE E w S v l):∃ A c,v=.slice A l.length c∧l.length≤c∧c≤maxLen:=by
 obtain⟨_,A,c,h,h1,h2,_⟩:=h;exact⟨A,c,h,h1,h2⟩
structure Grew(E:Enc α)(w:World)(B:Nat)(v:Value)(l:List α)(A:Option Addr)(n c:Nat)(w':World):Prop where
 own:Own E w' B (.slice A n c) l
 len:n=l.length
 cap:n≤c∧c≤maxLen
 ext:∀ W,Ext W w→W.heap.size≤B→Ext W w'
 chg:Chg (fun b=>v.ownBlock=some b) w w'
 at_:(Value.slice A n c).ownBlock=v.ownBlock∨(Value.slice A n c).ownBlock=some w.heap.size
theorem Zui{m:List α}{v':Value}(hown:Own E w B v l)(h:Bj w B E.ty E.z v (l.length+m.length) (E.cells l++E.cells m) v' w'):∃ A n c,v'=.slice A n c∧Grew E w B v (l++m) A n c w':=by
 have ho:Own E w' B v' (l++m):=by
  have:=h.own;unfold Own;rw[Zs,E.app];exact this
 obtain⟨A,c,rfl,h1,h2⟩:=ho.shape;exact⟨A,_,c,rfl,ho,rfl,⟨h1,h2⟩,fun W hx hB=>hx.grown h.grown fun k hk=>Zlh hB (hown.lt k hk).1,(Chg.refl _ _).grown h.grown (fun k hk=>.inl hk),h.at_⟩
end
section
variable {α:Type} {ops:Array Oper} {rest:List Oper} {o:Oper} {a:Act} {w:World} {Q:Exit→Act→World→Prop} {K:Act→World→Prop} {B:Nat} {S:Nat→Prop} {v x:Value} {l m:List α}
theorem Zoz(E:Enc α)(s y:Operand)(t:TypeId)(ho:o.op=.call {callee:=.builtin .append,args:=#[s,y],argTypes:=#[t,t]})(ht:t=E.sl)(hs:a.eval s=v)(hown:Own E w B v l)
 (hx:a.eval y=x) (hr:RdE E w S x m) (hn:l.length+m.length≤1000000000) (hby:E.bytes≤1000) (hB:B≤w.heap.size)
 (h:∀ A n c w',Grew E w B v (l++m) A n c w'→K (a.put o.dst (.slice A n c)) w'):o.wp Tryz.prog a w K Q:=by
 subst ht;refine J8 w s y E.sl ho B E.ty E.i E.zero E.z E.bytes E.und E.info E.hz E.hs E.hb E.hc E.pos v l.length (E.cells l) hs hown S x m.length (E.cells m) hx hr (E.one m) (by unfold maxLen;omega) ?_ hB ?_
 ·calc (l.length+m.length)*E.bytes≤1000000000*1000:=Zhh hn hby
   _≤140737488355328:=by omega
 intro v' w' ha;obtain⟨A,n,c,rfl,hg⟩:=Zui hown ha;exact h A n c w' hg
theorem Xu(E:Enc α)(s y:Operand)(t:TypeId)(hgd:o.guard=none)(ho:o.op=.call {callee:=.builtin .append,args:=#[s,y],argTypes:=#[t,t]})(ht:t=E.sl)(hs:a.eval s=v)(hown:Own E w B v l)
 (hx:a.eval y=x) (hr:RdE E w S x m) (hn:l.length+m.length≤1000000000) (hby:E.bytes≤1000) (hB:B≤w.heap.size)
 (h:∀ A n c w',Grew E w B v (l++m) A n c w'→wpList Tryz.prog ops Q rest (a.put o.dst (.slice A n c)) w'):wpList Tryz.prog ops Q (o::rest) a w :=
 Zil hgd fun _ hK=>Zoz E s y t ho ht hs hown hx hr hn hby hB fun A n c w' hg=>hK _ _ (h A n c w' hg)
theorem Vm(E:Enc α){F:Prop}(s y:Operand)(t:TypeId)(hgd:o.guard=none)(ho:o.op=.call {callee:=.builtin .append,args:=#[s,y],argTypes:=#[t,t]})(ht:t=E.sl)(hs:a.eval s=v)(hown:Own E w B v l)
 (hx:a.eval y=x) (hr:RdE E w S x m) (hn:l.length+m.length≤1000000000) (hby:E.bytes≤1000) (hB:B≤w.heap.size)
 (h:∀ A n c w',Grew E w B v (l++m) A n c w'→K (a.put o.dst (.slice A n c)) w') :
 if Region.wanted o (yielded ops a.tmps)=true then Oper.wp Tryz.prog o a w K Q else F:=by
 have hw:Region.wanted o (yielded ops a.tmps)=true:=by simp[Region.wanted,hgd]
 rw[Zlg hw];exact Zoz E s y t ho ht hs hown hx hr hn hby hB h
end
theorem Bs{α:Type}(f:α→Value)(hf:∀ a,(f a).oneCell'=true)(l:List α):∀ u∈l.map f,u.oneCell'=true:=fun u hu=>by
 obtain⟨y,_,rfl⟩:=Zl3.1 hu;exact hf y
theorem Qa:(Tryz.prog.info? 3).map (fun i=>(i.zero,i.size,i.bytes))=some (some (.int .i64 0),1,8):=by kernel_rfl
theorem Zxs:Tryz.prog.underlying 22=some (.slice 3):=by kernel_rfl
noncomputable def Wh:Enc Int where
 ty:=3
 sl:=22
 z:=1
 bytes:=8
 cells l:=l.map (Value.int .i64)
 app a b:=Z9
 len l:=by simp
 one l:=Bs _ (fun _=>rfl) l
 und:=Zxs
 i:=Classical.choose (Zlf Qa)
 zero:=.int .i64 0
 info:=(Yq (Zlf Qa)).1
 hz:=(Yq (Zlf Qa)).2.1
 hs:=(Yq (Zlf Qa)).2.2.1
 hb:=(Yq (Zlf Qa)).2.2.2
 hc:=rfl
 pos:=by omega
noncomputable def Jw:Enc ByteArray where
 ty:=9
 sl:=24
 z:=1
 bytes:=16
 cells l:=l.map Value.string
 app a b:=Z9
 len l:=by simp
 one l:=Bs _ (fun _=>rfl) l
 und:=Zpm
 i:=Classical.choose (Zlf Ex)
 zero:=.string ⟨#[]⟩
 info:=(Yq (Zlf Ex)).1
 hz:=(Yq (Zlf Ex)).2.1
 hs:=(Yq (Zlf Ex)).2.2.1
 hb:=(Yq (Zlf Ex)).2.2.2
 hc:=rfl
 pos:=by omega
end
def nextL(d:List Mp)(l:List Int):List Int:=l.flatMap fun x=>if(Xe d x).isEmpty then[x]else Xe d x
def Fz(d:List Mp)(l:List Int):Bool:=l.any fun x=>!(Xe d x).isEmpty
def Qj(d:List Mp):Nat→List Int→Option (List Int)
 | 0,_=>none
 | k+1,l=>if Fz d l=false then some l else if 18<(nextL d l).length then none else Qj d k (nextL d l)
theorem On(d:List Mp)(l:List Int)(x:Int):nextL d (l++[x])=nextL d l++(if(Xe d x).isEmpty then[x]else Xe d x):=by simp[nextL]
theorem Oo(d:List Mp)(l:List Int)(x:Int):Fz d (l++[x])=(Fz d l||!(Xe d x).isEmpty):=by simp[Fz]
theorem Wp{α:Type}{l:List α}{i:Nat}{x:α}(h:l[i]?=some x):l.take (i+1)=l.take i++[x]:=by
 rw[Za,h];rfl
structure Few(T:Tbl):Prop where
 dec:∀ m∈T.dec,m.to_.length≤18
 map:∀ m∈T.map,m.to_.length≤18
 pro:∀ m∈T.pro,m.to_.length≤18
 ext:∀ m∈T.ext,m.to_.length≤18
 rows:T.dec.length≤256∧T.map.length≤256∧T.pro.length≤256∧T.ext.length≤256
theorem Uo{l:List Mp}{N:Nat}(h:∀ m∈l,m.to_.length≤N):∀ c,(Xe l c).length≤N:=by
 intro c
 induction l with
 | nil=>simp[Xe]
 | cons m r ih =>
  unfold Xe;split
  ·exact h m (by simp)
  exact ih fun m hm=>h m (by simp[hm])
theorem Ztr{d:List Mp}(h:∀ m∈d,m.to_.length≤18)(l:List Int):(nextL d l).length≤18*l.length:=by
 induction l with
 | nil=>simp[nextL]
 | cons x r ih =>
  have e:nextL d (x::r)=(if(Xe d x).isEmpty then[x]else Xe d x)++nextL d r:=by simp[nextL]
  rw[e,Zs,Zl];have:=Uo h x;split<;>simp<;>omega
theorem Zqx(w:World)(z:Int)(t:TypeId)(g:Nat)(hg:w.heap.size=g):Xz (w.alloc (.cells #[.int .i64 z] t)) (fun k=>k=g) (.slice (some ⟨g,0,none⟩) 1 1) [z]:=by
 subst hg;have h1:(w.alloc (.cells #[.int .i64 z] t)).heap[w.heap.size]?=some (.cells #[.int .i64 z] t):=Zl8 w _;refine⟨by simp,_,_,rfl,Yp _,by unfold maxLen;omega,fun _=>⟨_,_,rfl,rfl,(Zlj.1 h1).1,fun j u hu=>?_⟩⟩;simp only[World.cell?,h1];rw[Zl0,← hu];simp
def Jp(T:Tbl)(c:Int)(w:World)(e:Ending)(w':World):Prop :=
 match Qj T.dec 257 [c]with
 | some l=>∃ v,e=.returned (.tuple #[v,.bool true])∧Xz w' (fun k=>w.heap.size≤k) v l∧Ext w w'
 | none=>e=.returned (.tuple #[.slice none 0 0,.bool false])∧Ext w w'
theorem Bb{S:Nat→Prop}(T:Tbl)(c:Int)(w:World)(h:Xi w S T)(hf:Few T):Calls Tryz.prog 146 #[Vr T,.int .i64 c] w (Jp T c w):=by
 obtain⟨A9,C9,e9,hl9,hc9⟩:=h.dec.shape;have h9:=h.dec.ext ((Yn w).alloc (Wx T));obtain⟨n9,hn9⟩:=gnX (T.dec.length);rw[hn9]at e9 hl9;rw[e9]at h9;have Hn9:=Ya hn9;have E9:=Ya e9;have H9:=Ya h9;unfold maxLen at hc9;clear hn9 e9 h9;have X0:=Ya ((Yn w).alloc (Wx T));have H:=Ya (h.up X0.o);have Hb0:=Ya (Xn w T);clear h;have Hf:=Ya hf;clear hf;go_enter Tryz.func146,Tryz.ntmps146;go_wp2_with (refine Xx rfl ?_);go_loopw [7,6] (fun o v wr=>∃ (k:Nat) (l:List Int),k≤257∧o=.int .i64 (k:Int)∧Qj T.dec 257 [c]=Qj T.dec (257-k) l∧l.length≤18∧Xz wr (fun k=>w.heap.size≤k) v l∧Ext (w.alloc (Wx T)) wr) (fun o _ _=>257-(intOf o).toNat);case atStart =>
  exact⟨0,[c],by omega,rfl,rfl,by simp,Rd.mono (Zqx (w.alloc (Wx T)) c 3 (w.heap.size+1) (by simp)) (fun k hk _=>by omega),(Yn _).alloc _⟩
 obtain⟨k,l,hk,rfl,he,hl,hv,hx⟩:=hrel;obtain⟨VA,VC,rfl,hvl,hvc⟩:=hv.shape;obtain⟨n,hn⟩:=gnX (l.length);rw[hn]at hvl hl⊢;have Hn:=Ya hn;have Hv:=Ya hv;have He:=Ya he;have Hx:=Ya hx;clear hn hv he hx;by_cases hlt:k≤256
 ·have hd:decide ((k:Int)≤(256:Int))=true:=Yh (by omega);go_wp2_with fail;rename World=>wo
  have hB:w.heap.size≤wo.heap.size:=Zlh X0.o.size Hx.o.size;obtain⟨B,hBe⟩:=gnX (wo.heap.size);go_loopw [21,8,9] (fun o u b wr=>∃ j:Nat,j≤n∧o=.int .i64 (j:Int)∧Own Wh wr B u (nextL T.dec (l.take j))∧b=.bool (Fz T.dec (l.take j))∧Ext wo wr) (fun o _ _ _=>n-(intOf o).toNat);case atStart=>exact⟨0,by omega,rfl,Own.nil _ _ _,rfl,Yn _⟩
  obtain⟨j,hj,rfl,ho,rfl,hxj⟩:=hrel;obtain⟨OA,OC,rfl,hol,hoc⟩:=ho.shape;have hq18:(nextL T.dec (l.take j)).length≤324:=Zlh (Ztr Hf.o.dec _) (by rw[Zp];omega);obtain⟨q,hq⟩:=gnX ((nextL T.dec (l.take j)).length);have Hq:=Ya hq;have Ho:=Ya ho;rw[hq]at hol hq18⊢;have Hxj:=Ya hxj;have HxA:=Ya (Hx.o.trans hxj);have hBj:B≤wr.heap.size:=by rw[← hBe];exact hxj.size
  have HBj:=Ya hBj;unfold maxLen at hoc;clear hq ho hxj hBj;by_cases hlj:j<n
  ·obtain⟨hd_j,i0_j,i1_j⟩:=LTl j n (by omega);obtain⟨x,hs_x⟩:=geX (l:=(l)) (i:=j) (by have:=Hn.o;omega);obtain⟨g_x,o_x,c_x,hvv,_,_,_,hgl_x,a0_x⟩:=(Hv.o.ext Hxj.o).get hs_x;simp only[Yg]at hvv;obtain⟨rfl,-,rfl⟩:=hvv;have Hs_x:=Ya hs_x;clear hs_x;have b9:=(Hb0.o.ext HxA.o).at_ 9 (by omega);rw[show(Qs T)[9]?=some T.decV from rfl,E9.o]at b9;have hfa:=Qr (S:=S) (c:=x) H9.o.2;obtain⟨FA,FC,ef,fl,fc⟩:=hfa.shape;obtain⟨d,hd⟩:=gnX ((Xe T.dec x).length);have hd18:=Uo Hf.o.dec x;rw[ef]at hfa;rw[hd]at ef fl hd18;have Hd:=Ya hd;have Hfa:=Ya hfa;clear hd hfa;unfold maxLen at fc;by_cases h0:0<d
   ·have h1:decide ((0:Int)<(d:Int))=true:=Yh (by omega);have h2:decide (0<d)=true:=Yh h0;go_wp2_with (first|(go_at_call 111;refine(Ww _ T.dec x _ (H9.o.ext HxA.o)).mono ?_;rintro e w1 ⟨rfl,hx1⟩)|(at_builtin;refine Xu Wh _ _ _ rfl rfl rfl rfl (by rw[← Hq.o];exact Ho.o.ext hx1) rfl (by have:=Hfa.o.ext (HxA.o.trans hx1);rw[Hd.o]at this;exact this) (by rw[Hq.o,Hd.o];omega) (by show 8≤1000;omega) (Zlh HBj.o hx1.size) ?_;intro A3 n3 c3 w3 hg));have Hg:=Ya hg;have Hx1:=Ya hx1;have h3:(Xe T.dec x).isEmpty=false:=by cases hh:Xe T.dec x with
     | nil=>have:=Hd.o;rw[hh]at this;simp at this;omega
     | cons _ _=>rfl
    have Hfin:=Ya h3;clear hg hx1 h3;go_wp2_with fail;go_roundw;case rel =>
     refine⟨j+1,by omega,by go_num,?_,?_,?_⟩
     ·rw[Wp Hs_x.o,On,Hfin.o];exact Hg.o.own
     ·rw[Wp Hs_x.o,Oo,Hfin.o];simp
     exact Hg.o.ext wo (Hxj.o.trans Hx1.o) (by rw[hBe];exact Yp _)
    simp[intOf];omega
   have h1:decide ((0:Int)<(d:Int))=false:=Yi (by omega);have h2:decide (0<d)=false:=Yi h0;go_wp2_with (first|(go_at_call 111;refine(Ww _ T.dec x _ (H9.o.ext HxA.o)).mono ?_;rintro e w1 ⟨rfl,hx1⟩)|(at_builtin;refine Xu Wh _ _ _ rfl rfl rfl rfl (by rw[← Hq.o];exact(Ho.o.ext hx1).ext ((Yn _).alloc _)) rfl (Wr w1 x _ _ rfl) (by rw[Hq.o];simp;omega) (by show 8≤1000;omega) (by have:=Zlh HBj.o hx1.size;simp;omega) ?_;intro A3 n3 c3 w3 hg));have Hg:=Ya hg;have Hx1:=Ya hx1;have h3:(Xe T.dec x).isEmpty=true:=by cases hh:Xe T.dec x with
    | nil=>rfl
    | cons _ _=>have:=Hd.o;rw[hh]at this;simp at this;omega
   have Hfin:=Ya h3;clear hg hx1 h3;go_wp2_with fail;go_roundw;case rel =>
    refine⟨j+1,by omega,by go_num,?_,?_,?_⟩
    ·rw[Wp Hs_x.o,On,Hfin.o];exact Hg.o.own
    ·rw[Wp Hs_x.o,Oo,Hfin.o];simp
    exact Hg.o.ext wo ((Hxj.o.trans Hx1.o).alloc _) (by rw[hBe];exact Yp _)
   simp[intOf];omega
  have hd_j:=GEl j n (by omega);have ej:l.take j=l:=Zm (by rw[Hn.o];omega);rw[ej]at Hq Ho⊢;cases hmo:Fz T.dec l
  ·have Hmo:=Ya hmo;go_wp2_with fail;go_ret2;unfold Jp;rw[He.o,show 257-k=(256-k)+1 by omega,Qj,Zlg Hmo.o];exact⟨.slice VA n VC,rfl,by rw[← Hn.o];exact Hv.o.ext Hxj.o,X0.o.trans HxA.o⟩
  have Hmo:=Ya hmo;by_cases h18:18<q
  ·have h1:decide ((18:Int)<(q:Int))=true:=Yh (by omega);go_wp2_with fail;go_ret2;unfold Jp;rw[He.o,show 257-k=(256-k)+1 by omega,Qj,Zlk (by rw[Hmo.o];simp),Zlg (by rw[Hq.o];exact h18)];exact⟨rfl,X0.o.trans HxA.o⟩
  have h1:decide ((18:Int)<(q:Int))=false:=Yi (by omega);go_wp2_with fail;go_roundw;case rel =>
   refine⟨k+1,nextL T.dec l,by omega,by go_num,?_,?_,?_,HxA.o⟩
   ·rw[He.o,show 257-k=(256-k)+1 by omega,Qj,Zlk (by rw[Hmo.o];simp),Zlk (by rw[Hq.o];exact h18)];rw[show 257-(k+1)=256-k by omega]
   ·rw[Hq.o];omega
   rw[← Hq.o];exact Rd.mono Ho.o.rd fun b hb _=>by omega
  simp[intOf];omega
 have hd:decide ((k:Int)≤(256:Int))=false:=Yi (by omega);have Hnone:=Ya (show Qj T.dec 257 [c]=none by rw[He.o,show 257-k=0 by omega];rfl);go_wp2_with fail;go_ret2;unfold Jp;rw[Hnone.o];exact⟨rfl,X0.o.trans Hx.o⟩
theorem Ok{fn:Func}{t u v x:Tmp}(h:fn.results = #[.tmp t,.tmp u,.tmp v,.tmp x])(tmps:Array Value)(P:Program)(w:World) :
 (results fn tmps).run P w=.ok (.tuple #[tmps.getD t undef,tmps.getD u undef,tmps.getD v undef,tmps.getD x undef]) w:=by
 simp[results,h]
theorem Wm(w:World)(t:TypeId)(zs:List Int)(n:Nat)(hn:zs.length=n)(cs:Array Value)(hcs:cs=(zs.map (Value.int .i64)).toArray)(h18:n≤1000):RdE Wh (w.alloc (.cells cs t)) (fun k=>w.heap.size≤k) (.slice (some ⟨w.heap.size,0,none⟩) n n) zs:=by
 subst hn hcs;have h1:(w.alloc (.cells (zs.map (Value.int .i64)).toArray t)).heap[w.heap.size]?=some (.cells (zs.map (Value.int .i64)).toArray t):=Zl8 w _;show Rd _ _ 1 _ _ (zs.map (Value.int .i64));refine⟨by simp,_,_,rfl,Yp _,by unfold maxLen;omega,fun _=>⟨_,_,rfl,Yp _,(Zlj.1 h1).1,fun j u hu=>?_⟩⟩;simp only[World.cell?,h1];rw[Zl0,← hu];simp
theorem Rq(c:Int):Bk c=true↔44032≤c∧c≤55203:=by simp[Bk]
def Aa(c:Int):Int :=
 if 4352≤c∧c≤4370 then 1 else if 4449≤c∧c≤4469 then 2 else if 4520≤c∧c≤4546 then 3 else if Bk c=false then 0 else if(c-44032)%28=0 then 4 else 5
theorem Ev(c:Int)(w:World):Calls Tryz.prog 262 #[.int .i64 c] w fun e w'=>e=.returned (.int .i64 (Aa c))∧w=w':=by
 go_enter Tryz.func262,Tryz.ntmps262;cases hs:Bk c
 ·have Hs:=Zkr hs;go_wp2_with (go_at_call 113;refine(Js _ _).mono ?_;rintro e w' ⟨rfl,rfl⟩;rw[hs]);all_goals
   go_ret;refine⟨Ry ?_,rfl⟩;unfold Aa;rw[Hs.out];simp;try(repeat' split)
   all_goals(simp at *;try omega)
 obtain⟨hc1,hc2⟩:=(Rq c).1 hs;have Hs:=Zkr hs;go_wp2_with (go_at_call 113;refine(Js _ _).mono ?_;rintro e w' ⟨rfl,rfl⟩;rw[hs]);all_goals
  go_ret;refine⟨Ry ?_,rfl⟩;unfold Aa;rw[Hs.out];simp;try(repeat' split)
  all_goals(simp at *;try omega)
def L8(c:Int):Value:=if Bk c=true then .tuple #[.int .i64 ((c-44032)/588),.int .i64 ((c-44032)/28%21),.int .i64 ((c-44032)%28),.bool true]else .tuple #[.int .i64 0,.int .i64 0,.int .i64 0,.bool false]
theorem Zq2(c:Int)(w:World)(hs:Bk c=false):Calls Tryz.prog 270 #[.int .i64 c] w fun e w'=>e=.returned (L8 c)∧w=w':=by
 have Hv:=Zkr (show L8 c=.tuple #[.int .i64 0,.int .i64 0,.int .i64 0,.bool false] by unfold L8;rw[Zlk (by rw[hs];simp)]);go_enter Tryz.func270,Tryz.ntmps270;go_wp2_with fail;go_loopw [6] (fun o wr=>∃ i:Nat,i≤19∧o=.int .i64 (i:Int)∧w=wr) (fun o _=>19-(intOf o).toNat);case atStart=>exact⟨0,by omega,rfl,rfl⟩
 obtain⟨i,hi,rfl,rfl⟩:=hrel;by_cases hlt:i<19
 ·have hd_i:decide ((i:Int)<(19:Int))=true:=Yh (by omega);have i0_i:(0:Int)≤(i:Int):=(by omega);have i1_i:(i:Int)<(19:Int):=(by omega);go_wp2_with fail;go_loopw [7] (fun o wr=>∃ j:Nat,j≤21∧o=.int .i64 (j:Int)∧w=wr) (fun o _=>21-(intOf o).toNat);case atStart=>exact⟨0,by omega,rfl,rfl⟩
  obtain⟨j,hj,rfl,rfl⟩:=hrel;by_cases hlj:j<21
  ·have hd_j:decide ((j:Int)<(21:Int))=true:=Yh (by omega);have i0_j:(0:Int)≤(j:Int):=(by omega);have i1_j:(j:Int)<(21:Int):=(by omega);go_wp2_with (go_at_call 113;refine(Js _ _).mono ?_;rintro e w' ⟨rfl,rfl⟩;rw[hs]);go_roundw;case rel=>exact⟨j+1,by omega,by go_num,by first|rfl|trivial⟩
   (simp[intOf];omega)
  have hd_j:decide ((j:Int)<(21:Int))=false:=Yi (by omega);go_wp2_with fail;go_roundw;case rel=>exact⟨i+1,by omega,by go_num,by first|rfl|trivial⟩
  (simp[intOf];omega)
 have hd_i:decide ((i:Int)<(19:Int))=false:=Yi (by omega);go_wp2_with fail;(((try simp only[Exit.inBlock,Exit.then]);refine Yu (Ok rfl _ _ _) rfl ?_))
 exact⟨by rw[Hv.out];rfl,rfl⟩
theorem Zta(c:Int)(w:World)(hs:Bk c=true):Calls Tryz.prog 270 #[.int .i64 c] w fun e w'=>e=.returned (L8 c)∧w=w':=by
 have Hv:=Zkr (show L8 c=.tuple #[.int .i64 ((c-44032)/588),.int .i64 ((c-44032)/28%21),.int .i64 ((c-44032)%28),.bool true] by unfold L8;rw[Zlg hs]);obtain⟨hc1,hc2⟩:=(Rq c).1 hs;go_enter Tryz.func270,Tryz.ntmps270;go_wp2_with fail;go_loopw [6] (fun o wr=>∃ i:Nat,i≤19∧o=.int .i64 (i:Int)∧Aside (21*(i:Int)≤(c-44032)/28)∧w=wr) (fun o _=>19-(intOf o).toNat);case atStart=>exact⟨0,by omega,rfl,by show _≤_;omega,rfl⟩
 obtain⟨i,hi,rfl,hq,rfl⟩:=hrel;have Hq:=Zkr hq.out;clear hq;by_cases hlt:i<19
 ·have hd_i:decide ((i:Int)<(19:Int))=true:=Yh (by omega);have i0_i:(0:Int)≤(i:Int):=(by omega);have i1_i:(i:Int)<(19:Int):=(by omega);go_wp2_with fail;go_loopw [7] (fun o wr=>∃ j:Nat,j≤21∧o=.int .i64 (j:Int)∧Aside (21*(i:Int)+j≤(c-44032)/28)∧w=wr) (fun o _=>21-(intOf o).toNat);case atStart=>exact⟨0,by omega,rfl,by have:=Hq.out;show _≤_;omega,rfl⟩
  obtain⟨j,hj,rfl,hqj,rfl⟩:=hrel;have Hqj:=Zkr hqj.out;clear hqj;by_cases hlj:j<21
  ·have hd_j:decide ((j:Int)<(21:Int))=true:=Yh (by omega);have i0_j:(0:Int)≤(j:Int):=(by omega);have i1_j:(j:Int)<(21:Int):=(by omega);have hqj:=Hqj.out;go_wp2_with (go_at_call 113;refine(Js _ _).mono ?_;rintro e w' ⟨rfl,rfl⟩;rw[hs]);all_goals
    first
    | (go_roundw
       case rel=>exact⟨j+1,by omega,by go_num,by show _≤_;omega,by first|rfl|trivial⟩
       (simp[intOf];omega))
    | ((((try simp only[Exit.inBlock,Exit.then]);refine Yu (Ok rfl _ _ _) rfl ?_))
       refine⟨?_,rfl⟩;rw[Hv.out,show(c-44032)/588=(i:Int) by omega,show(c-44032)/28%21=(j:Int) by omega,show(c-44032)%28=c-44032-(21*(i:Int)+j)*28 by omega];rfl)
  have hd_j:decide ((j:Int)<(21:Int))=false:=Yi (by omega);go_wp2_with fail;go_roundw;case rel=>exact⟨i+1,by omega,by go_num,by have:=Hqj.out;show _≤_;omega,by first|rfl|trivial⟩
  (simp[intOf];omega)
 exfalso;have:=Hq.out;omega
theorem L9(c:Int)(w:World):Calls Tryz.prog 270 #[.int .i64 c] w fun e w'=>e=.returned (L8 c)∧w=w':=by
 cases hs:Bk c
 ·exact Zq2 c w hs
 exact Zta c w hs
def Ba(c:Int):List Int:=if Bk c=true then(if(c-44032)%28=0 then[4352+(c-44032)/588,4449+(c-44032)/28%21]else[4352+(c-44032)/588,4449+(c-44032)/28%21,4519+(c-44032)%28])else[]
def Zrp(c:Int)(w:World)(e:Ending)(w':World):Prop:=∃ v,e=.returned v∧RdE Wh w' (fun k=>w.heap.size≤k) v (Ba c)∧Ext w w'
theorem Zyl(c:Int)(w:World):Calls Tryz.prog 261 #[.int .i64 c] w (Zrp c w):=by
 go_enter Tryz.func261,Tryz.ntmps261;cases hs:Bk c
 ·have hv:L8 c=.tuple #[.int .i64 0,.int .i64 0,.int .i64 0,.bool false]:=by unfold L8;rw[Zlk (by rw[hs];simp)]
  have Hl:=Zkr (show Ba c=[] by unfold Ba;rw[Zlk (by rw[hs];simp)]);go_wp2_with (go_at_call 270;refine(L9 _ _).mono ?_;rintro e w' ⟨rfl,rfl⟩;rw[hv]);go_ret;refine⟨.slice none 0 0,rfl,?_,Yn _⟩;rw[Hl.out];exact Xz.nil _ _
 obtain⟨hc1,hc2⟩:=(Rq c).1 hs;have hv:L8 c=.tuple #[.int .i64 ((c-44032)/588),.int .i64 ((c-44032)/28%21),.int .i64 ((c-44032)%28),.bool true]:=by unfold L8;rw[Zlg hs]
 have Hsy:=Zkr hs;by_cases h0:(c-44032)%28=0
 ·have Hl:=Zkr (show Ba c=[4352+(c-44032)/588,4449+(c-44032)/28%21] by unfold Ba;rw[Zlg Hsy.out,Zlg h0]);have q1:((c-44032)%28==0)=true:=by simpa using h0
  go_wp2_with (go_at_call 270;refine(L9 _ _).mono ?_;rintro e w' ⟨rfl,rfl⟩;rw[hv]);go_ret;refine⟨.slice (some ⟨w.heap.size,0,none⟩) 2 2,rfl,?_,(Yn w).alloc _⟩;rw[Hl.out];exact Wm w _ _ 2 rfl _ rfl (by omega)
 have Hl:=Zkr (show Ba c=[4352+(c-44032)/588,4449+(c-44032)/28%21,4519+(c-44032)%28] by unfold Ba;rw[Zlg Hsy.out,Zlk h0]);have q1:((c-44032)%28==0)=false:=by simpa using h0
 go_wp2_with (go_at_call 270;refine(L9 _ _).mono ?_;rintro e w' ⟨rfl,rfl⟩;rw[hv]);go_ret;refine⟨.slice (some ⟨w.heap.size,0,none⟩) 3 3,rfl,?_,(Yn w).alloc _⟩;rw[Hl.out];exact Wm w _ _ 3 rfl _ rfl (by omega)
structure Xs(w:World)(b:Nat)(cs:List Value):Prop where
 lt:b<w.heap.size
 fz:∀ k,w.frozen? ⟨b,k,none⟩=false
 at_:∀ k,k<cs.length→w.cell? ⟨b,k,none⟩=cs[k]?
theorem Xs.chg{U:Nat→Prop}{w w':World}{b:Nat}{cs:List Value}(h:Xs w b cs)(c:Chg U w w')(hb:¬ U b):Xs w' b cs :=
 ⟨Zll h.lt c.size,fun k=>(c.frozen (p:=⟨b,k,none⟩) h.lt hb).trans (h.fz k),fun k hk=>(c.cell (p:=⟨b,k,none⟩) h.lt hb).trans (h.at_ k hk)⟩
theorem Xs.ext{w w':World}{b:Nat}{cs:List Value}(h:Xs w b cs)(x:Ext w w'):Xs w' b cs:=h.chg (x.chg fun _=>False) fun h=>h
theorem Xs.new(w:World)(cs:Array Value)(t:TypeId):Xs (w.alloc (.cells cs t)) w.heap.size cs.toList :=
 ⟨by simp,fun k=>by go_simp,fun k hk=>by go_simp⟩
theorem Xs.set{w:World}{b:Nat}{cs:List Value}(h:Xs w b cs){j:Nat}(hj:j<cs.length)(u:Value):Xs (w.setCell ⟨b,j,none⟩ u) b (cs.set j u):=by
 obtain⟨h1,h2,h3⟩:=h;have hc:=h3 j hj;rw[Zz hj]at hc;refine⟨by simpa[World.setCell]using h1,fun k=>?_,fun k hk=>?_⟩
 ·have:=h2 k;simp only[World.frozen?,World.setCell]at this⊢;rw[Zjv];simp only[Zhf];cases hh:w.heap[b]? with
  | none=>rfl
  | some o=>cases o<;>simp_all
 rw[Zf]at hk;have hck:=h3 k hk;rw[Yx];by_cases e:j=k
 ·subst e;rw[Zlg rfl,Zlg hj];go_simp
 rw[Zlk e,← hck];go_simp
theorem Chg.thenB{S T:Nat→Prop}{a b c:World}(h:Chg S a b)(k:Chg T b c)(hT:∀ i,i<a.heap.size→T i→S i):Chg S a c :=
 ⟨k.os.trans h.os,k.tape.trans h.tape,k.output.trans h.output,Zlh h.size k.size,fun i hi hS=>(k.block i (Zll hi h.size) (fun ht=>hS (hT i hi ht))).trans (h.block i hi hS)⟩
theorem Xs.drew{w:World}{b:Nat}{cs:List Value}(h:Xs w b cs):Xs w.drew b cs:=h.ext (Yn w).drew
theorem Xs.far{w:World}{b c j:Nat}{cs:List Value}(h:Xs w b cs)(hne:b≠c)(u:Value):Xs (w.setCell ⟨c,j,none⟩ u) b cs:=h.chg ((Chg.refl (· = c) w).setCell (p:=⟨c,j,none⟩) (.inl rfl) u) hne
theorem RdE.far{α:Type}{E:Enc α}{w:World}{S:Nat→Prop}{v:Value}{l:List α}{c j:Nat}(h:RdE E w S v l)(hS:¬ S c)(u:Value):RdE E (w.setCell ⟨c,j,none⟩ u) S v l:=Rd.chg h ((Chg.refl (· = c) w).setCell (p:=⟨c,j,none⟩) (.inl rfl) u) (fun k hk e=>hS (e▸hk))
theorem Own.far{α:Type}{E:Enc α}{w:World}{B:Nat}{v:Value}{l:List α}{c j:Nat}(h:Own E w B v l)(hS:v.ownBlock≠some c)(u:Value):Own E (w.setCell ⟨c,j,none⟩ u) B v l:=h.chg ((Chg.refl (· = c) w).setCell (p:=⟨c,j,none⟩) (.inl rfl) u) (fun k hk e=>hS (by rw[hk,e]))
theorem Xo{S:Nat→Prop}{a:World}{b:Nat}(hb:S b∨a.heap.size≤b):∀ {vs:List Value} {o:Nat} {w:World},Chg S a w→Chg S a (w.setCells b o vs)
 | [],_,_,h=>h
 | v::r,o,w,h=>Xo hb (vs:=r) (h.setCell (p:=⟨b,o,none⟩) hb v)
theorem Zsd{w:World}{S:Nat→Prop}{T:Tbl}(h:Xi w S T):∀ v∈Qs T,v.oneCell'=true:=by
 obtain⟨_,_,e0,_,_⟩:=h.cat.shape;obtain⟨_,_,e1,_,_⟩:=h.cls.shape;obtain⟨_,_,e2,_,_⟩:=h.joi.shape;obtain⟨_,_,e3,_,_⟩:=h.bid.shape;obtain⟨_,_,e4,_,_⟩:=h.scr.shape;obtain⟨_,_,e5,_,_⟩:=h.sta.shape;obtain⟨_,_,e6,_,_⟩:=h.ign.shape;obtain⟨_,_,e7,_,_⟩:=h.ext.shape;obtain⟨_,_,e8,_,_⟩:=h.map.shape;obtain⟨_,_,e9,_,_⟩:=h.dec.shape;obtain⟨_,_,e10,_,_⟩:=h.exc.shape;obtain⟨_,_,e11,_,_⟩:=h.pro.shape;intro v hv;simp only[Qs,Zg,Zh,Zkh]at hv;rcases hv with rfl|rfl|rfl|rfl|rfl|rfl|rfl|rfl|rfl|rfl|rfl|rfl
 ·rw[e0];rfl
 ·rw[e1];rfl
 ·rw[e2];rfl
 ·rw[e3];rfl
 ·rw[e4];rfl
 ·rw[e5];rfl
 ·rw[e6];rfl
 ·rw[e7];rfl
 ·rw[e8];rfl
 ·rw[e9];rfl
 ·rw[e10];rfl
 rw[e11];rfl
theorem Xs.there{w:World}{b o n:Nat}{cs:List Value}(h:Xs w b cs)(hn:o+n≤cs.length):w.there b o n:=fun j hj =>
 ⟨by rw[h.at_ (o+j) (by omega),Zz (by omega)];rfl,h.fz _⟩
theorem Xs.mid{w:World}{b o:Nat}{cs vs cs':List Value}(h:Xs w b cs)(ho:o+vs.length≤cs.length)(he:cs'=cs.take o++(vs++cs.drop (o+vs.length))):Xs (w.setCells b o vs) b cs':=by
 subst he;refine⟨Zll h.lt (Xo (S:=fun _=>True) (.inl trivial) (Chg.refl _ w)).size,fun k=>by rw[World.frozen?_setCells];exact h.fz k,fun k hk=>?_⟩;have hl:(cs.take o).length=o:=by simp;omega
 by_cases h1:k<o
 ·rw[World.cell?_setCells_out b vs o w ⟨b,k,none⟩ (fun _ _=>.inl h1),h.at_ k (by omega),Ze (by omega),Zi9 h1]
 by_cases h2:k<o+vs.length
 ·have e:=World.cell?_setCells_in b vs o w (fun j hj=>((h.there ho) j hj).1) (k-o) (by omega);rw[show o+(k-o)=k by omega]at e;rw[e,Zd (by omega),hl,Ze (by omega),Zz (by omega)]
 rw[World.cell?_setCells_out b vs o w ⟨b,k,none⟩ (fun _ _=>.inr (by simp only;omega)),Zd (by omega),hl,Zd (by omega),Yz];rw[h.at_ k (by simp at hk;omega)];congr 1;omega
def Zo5(s:ByteArray):Nat→List Int→Nat→List Int×Nat
 | 0,acc,p=>(acc,p)
 | f+1,acc,p=>if p<s.size∧0<Un (s.extract p s.size)then Zo5 s f (acc++[N7 (s.extract p s.size)]) (p+Un (s.extract p s.size))else(acc,p)
def dec(s:ByteArray):List Int×Nat:=Zo5 s (s.size+1) [] 0
theorem ext_size(s:ByteArray){p:Nat}(_:p≤s.size):(s.extract p s.size).size=s.size-p:=by simp
def Zoq(s:ByteArray)(w:World)(e:Ending)(w':World):Prop:=∃ v,e=.returned (.tuple #[v,.int .i64 ((dec s).2:Int)])∧RdE Wh w' (fun k=>w.heap.size≤k) v (dec s).1∧(dec s).1.length≤4096∧(dec s).2≤s.size∧Ext w w'
theorem decode_any(s:ByteArray)(hs:s.size≤4096)(w:World):Calls Tryz.prog 224 #[.string s] w (Zoq s w):=by
 go_enter Tryz.func224,Tryz.ntmps224;go_wp2_with fail;go_loopw [5,4] (fun o v wr=>∃ (f p:Nat) (l:List Int),o=.int .i64 (p:Int)∧Aside (dec s=Zo5 s f l p)∧s.size+1≤f+p∧p≤s.size∧l.length≤p∧Own Wh wr w.heap.size v l∧Ext w wr) (fun o _ _=>s.size-(intOf o).toNat);case atStart=>exact⟨s.size+1,0,[],rfl,rfl,by omega,by omega,by simp,Own.nil _ _ _,Yn _⟩
 obtain⟨f,p,l,rfl,he,hf,hp,hl,ho,hx⟩:=hrel;have He:=Zkr he.out;have Ho:=Zkr ho;have Hx:=Zkr hx;obtain⟨A,C,rfl,hlc,hC⟩:=ho.shape;obtain⟨n,hn⟩:=gnX (l.length);rw[hn]at hl hlc⊢;have Hn:=Zkr hn;unfold maxLen at hC;clear he ho hx hn;obtain⟨f',rfl⟩:∃ g,f=g+1:=⟨f-1,by omega⟩;by_cases hlt:p<s.size
 ·have d1:decide ((p:Int)<(s.size:Int))=true:=Yh (by omega);have d2:decide (p<s.size)=true:=Yh hlt;have i0:(0:Int)≤(p:Int):=by omega
  have i1:(p:Int)≤(s.size:Int):=by omega
  have hle:=Zup (s.extract p s.size);rw[ext_size s hp]at hle;obtain⟨N,hN⟩:=gnX (Un (s.extract p s.size));rw[hN]at hle;have HN:=Zkr hN;have hes:=ext_size s hp;have Hes:=Zkr hes;clear hN hes;by_cases h0:N=0
  ·have Hd:=Zkr (show dec s=(l,p) by rw[He.out,Zo5,Zlk (by rw[HN.out,h0];simp)]);have q1:((N:Int)==0)=true:=by simp;omega
   have q2:(N==0)=true:=by simp;omega
   have q3:decide (N=0)=true:=Yh h0;clear h0;go_wp2_with (go_at_call 246;refine(first_any _ (by rw[Hes.out];unfold maxLen;omega) _).mono ?_;rintro e w1 ⟨rfl,hx1⟩;rw[HN.out]);go_ret2;refine⟨.slice A n C,?_,?_,?_,?_,Hx.out.trans hx1⟩
   ·rw[Hd.out];rfl
   ·rw[Hd.out,← Hn.out];exact(Ho.out.ext hx1).rd
   ·rw[Hd.out];show l.length≤4096;rw[Hn.out];omega
   rw[Hd.out];exact hp
  have q1:((N:Int)==0)=false:=by simp;omega
  have q2:(N==0)=false:=by simp;omega
  have q3:decide (N=0)=false:=Yi h0;go_wp2_with (first|(go_at_call 246;refine(first_any _ (by rw[Hes.out];unfold maxLen;omega) _).mono ?_;rintro e w1 ⟨rfl,hx1⟩;rw[HN.out])|(at_builtin;refine Xu Wh _ _ _ rfl rfl rfl rfl (by rw[← Hn.out];exact(Ho.out.ext hx1).ext ((Yn _).alloc _)) rfl (Wr w1 (N7 (s.extract p s.size)) _ _ rfl) (by rw[Hn.out];simp;omega) (by show 8≤1000;omega) (by have:=Zlh Hx.out.size hx1.size;simp;omega) ?_;intro A3 n3 c3 w3 hg));have Hd:=Zkr (show dec s=Zo5 s f' (l++[N7 (s.extract p s.size)]) (p+N) by rw[He.out,Zo5,Zlg ⟨hlt,by rw[HN.out];omega⟩,HN.out]);have Hg:=Zkr hg;have Hx3:=Zkr (hg.ext w ((Hx.out.trans hx1).alloc _) (Yp _));clear hg;go_wp2_with fail;go_roundw;case rel =>
   refine⟨f',p+N,l++[N7 (s.extract p s.size)],by go_num,Hd.out,by omega,by omega,?_,Hg.out.own,Hx3.out⟩;rw[Zs,Hn.out];simp;omega
  simp[intOf];omega
 have d1:decide ((p:Int)<(s.size:Int))=false:=Yi (by omega);have d2:decide (p<s.size)=false:=Yi hlt;have Hd:=Zkr (show dec s=(l,p) by rw[He.out,Zo5,Zlk (fun h=>hlt h.1)]);go_wp2_with fail;go_ret2;refine⟨.slice A n C,?_,?_,?_,?_,Hx.out⟩
 ·rw[Hd.out];rfl
 ·rw[Hd.out,← Hn.out];exact Ho.out.rd
 ·rw[Hd.out];show l.length≤4096;rw[Hn.out];omega
 rw[Hd.out];exact hp
def Zxq(s:ByteArray)(w:World)(e:Ending)(w':World):Prop :=
 ∃ v l,∃ p x:Int,e=.returned (.tuple #[v,.int .i64 p,.int .i64 x])∧RdE Wh w' (fun k=>w.heap.size≤k) v l∧l.length≤4096∧(x=0→l=(dec s).1)∧Ext w w'
theorem Zp3{w:World}{S:Nat→Prop}:RdE Wh w S (.slice none 0 0) []:=Xz.nil w S
theorem Cx(s:ByteArray)(w:World):Calls Tryz.prog 208 #[.string s] w (Zxq s w):=by
 go_enter Tryz.func208,Tryz.ntmps208;by_cases hbig:4096<s.size
 ·have d1:decide ((4096:Int)<(s.size:Int))=true:=Yh (by omega);go_wp2_with fail;go_ret3;exact⟨_,[],_,_,rfl,Zp3,by simp,fun h=>absurd h (by decide),Yn _⟩
 have d1:decide ((4096:Int)<(s.size:Int))=false:=Yi (by omega);by_cases hp:(dec s).2<s.size
 ·have d2:decide (((dec s).2:Int)<(s.size:Int))=true:=Yh (by omega);have d3:decide ((dec s).2<s.size)=true:=Yh hp;go_wp2_with (go_at_call 224;refine(decode_any _ (by omega) _).mono ?_;rintro e w1 ⟨v,rfl,hv,hl,_,hx1⟩);go_ret3;exact⟨_,[],_,_,rfl,Zp3,by simp,fun h=>absurd h (by decide),hx1⟩
 have d2:decide (((dec s).2:Int)<(s.size:Int))=false:=Yi (by omega);have d3:decide ((dec s).2<s.size)=false:=Yi hp;go_wp2_with (go_at_call 224;refine(decode_any _ (by omega) _).mono ?_;rintro e w1 ⟨v,rfl,hv,hl,_,hx1⟩);go_ret3;exact⟨_,_,_,_,rfl,hv,hl,fun _=>rfl,hx1⟩
def Zxp(n:Nat)(w:World)(e:Ending)(w':World):Prop:=∃ (t:ByteArray) (x:Int),e=.returned (.tuple #[.string t,.int .i64 x])∧t.size≤4*n∧Ext w w'
theorem Dv{S:Nat→Prop}(v:Value)(l:List Int)(w:World)(h:Xz w S v l):Calls Tryz.prog 126 #[v] w (Zxp l.length w):=by
 obtain⟨A,C,rfl,hlCC,hCC⟩:=h.shape;obtain⟨n,hnn⟩:=gnX ((l).length);have Hnn:=Zkr hnn;have Hh:=Zkr h;unfold maxLen at hCC;rw[hnn]at hlCC⊢;clear h hnn;go_enter Tryz.func126,Tryz.ntmps126;by_cases hbig:4096<n
 ·have hb:decide ((4096:Int)<(n:Int))=true:=Yh (by omega);go_wp2_with fail;go_ret2;exact⟨⟨#[]⟩,_,rfl,Zl1 _,Yn _⟩
 have hb:decide ((4096:Int)<(n:Int))=false:=Yi (by omega);go_wp2_with fail;go_loopw [12,4] (fun o y wr=>∃ (i:Nat) (t:ByteArray),i≤n∧o=.int .i64 (i:Int)∧y=.string t∧t.size≤4*i∧Ext w wr) (fun o _ _=>n-(intOf o).toNat);case atStart=>exact⟨0,⟨#[]⟩,by omega,rfl,rfl,Zl1 _,Yn _⟩
 obtain⟨i,t,hi,rfl,rfl,ht,hx⟩:=hrel;have Hx:=Zkr hx;clear hx;by_cases hlt:i<n
 ·obtain⟨hd_i,i0_i,i1_i⟩:=LTl i n (by omega);obtain⟨x,hs_x⟩:=geX (l:=(l)) (i:=i) (by have:=Hnn.out;omega);obtain⟨g_x,o_x,c_x,hvv,_,_,_,hgl_x,a0_x⟩:=(Hh.out.ext Hx.out).get hs_x;simp only[Yg]at hvv;obtain⟨rfl,-,rfl⟩:=hvv;have Hs_x:=Zkr hs_x;clear hs_x;have h4:(bs (u8L (Ny x))).size≤4:=by rw[Zo3];simp only[u8L,Zq];exact Zqc x
  have hz:¬ 9223372036854775807<t.size+(bs (u8L (Ny x))).size:=by omega
  go_wp2_with (first|(go_at_call 143;refine(Jc _ _).mono ?_;rintro e w' ⟨rfl,rfl⟩)|(go_at_call 166;refine(one_any _ _).mono ?_;rintro e w1 ⟨rfl,hx1⟩));all_goals
   have hx:=Hx.out
   first
   | (go_roundw
      case rel =>
       refine⟨i+1,_,by omega,by go_num,rfl,?_,(by repeat' first|exact Yn _|assumption|apply Ym|apply Yl|apply Yk|(refine Yj ?_ (by assumption)))⟩;rw[Yo];omega
      (simp[intOf];omega))
   | (go_ret2;exact⟨⟨#[]⟩,_,rfl,Zl1 _,(by repeat' first|exact Yn _|assumption|apply Ym|apply Yl|apply Yk|(refine Yj ?_ (by assumption)))⟩)
 have hd_i:=GEl i n (by omega);have hx:=Hx.out;go_wp2_with fail;go_ret2;exact⟨t,_,rfl,by omega,(by repeat' first|exact Yn _|assumption|apply Ym|apply Yl|apply Yk|(refine Yj ?_ (by assumption)))⟩
end Go.Proofs.YtnbclgbicnpmnaaGreat
