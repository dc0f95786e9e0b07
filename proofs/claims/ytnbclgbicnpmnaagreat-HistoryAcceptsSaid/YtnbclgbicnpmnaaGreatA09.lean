/- Lemmas of this claim: Enc, RG, Blk, Blk2, RO. Conditions: as named. -/
import Derived.Deep.MidRow
import Derived.Test.YtnbclgbicnpmnaaGreatA03
import Derived.Test.YtnbclgbicnpmnaaGreatA07
import Derived.Test.YtnbclgbicnpmnaaGreatA08
namespace Go.Proofs.YtnbclgbicnpmnaaGreat
open Go.RowKit Go.Sort
set_option maxHeartbeats 0
set_option maxRecDepth 100000
set_option linter.all false
section
structure Enc(α:Type) where
 ty:TypeId
 sl:TypeId
 z:Nat
 bytes:Nat
 cells:List α→List Value
 app:∀ a b,cells (a++b)=cells a++cells b
 len:∀ l,(cells l).length=l.length*z
 one:∀ l,∀ u∈cells l,u.oneCell'=true
 und:Tryz.prog.underlying sl=some (.slice ty)
 i:TypeInfo
 zero:Value
 info:Tryz.prog.info? ty=some i
 hz:i.zero=some zero
 hs:i.size=z
 hb:i.bytes=bytes
 hc:zero.cells.size=z
 pos:0<z
def Own{α:Type}(E:Enc α)(w:World)(B:Nat)(v:Value)(l:List α):Prop:=w.ownsRow B E.ty E.z v l.length (E.cells l)
def RdE{α:Type}(E:Enc α)(w:World)(S:Nat→Prop)(v:Value)(l:List α):Prop:=Rd w S E.z v l.length (E.cells l)
section
variable {α:Type} {E:Enc α} {w w':World} {B:Nat} {S T:Nat→Prop} {v:Value} {l:List α}
theorem Own.nil(E:Enc α)(w:World)(B:Nat):Own E w B (.slice none 0 0) []:=by
 have h:E.cells []=[]:=Zll (by rw[E.len];simp);unfold Own;rw[h];exact Zkn _ _ _ _
theorem Own.ext(h:Own E w B v l)(x:Ext w w'):Own E w' B v l:=Up h x
theorem Own.chg(h:Own E w B v l)(c:Chg T w w')(hS:∀ k,v.ownBlock=some k→¬ T k):Own E w' B v l:=by
 refine⟨h.1,?_⟩;rcases h.2 with hn | ⟨g,cap,cur,rfl,hb,hgg,rest⟩
 ·exact .inl hn
 refine .inr ⟨g,cap,cur,rfl,hb,?_,rest⟩;rw[c.block g (Zm3.1 hgg).1 (hS g rfl)];exact hgg
theorem Own.rd(h:Own E w B v l):RdE E w (fun k=>B≤k) v l:=Rd.of_own h fun k hk=>(h.lt k hk).1
theorem Own.shape(h:Own E w B v l):∃ A c,v=.slice A l.length c∧l.length≤c∧c≤maxLen:=by
 obtain⟨_,A,c,h,h1,h2,_⟩:=h.rd;exact⟨A,c,h,h1,h2⟩
theorem Own.base{C:Nat}(h:Own E w B v l)(hc:C≤B):Own E w C v l:=by
 refine⟨h.1,?_⟩;rcases h.2 with hn | ⟨g,cap,cur,rfl,hb,rest⟩
 ·exact .inl hn
 exact .inr ⟨g,cap,cur,rfl,Zm5 hc hb,rest⟩
theorem RdE.ext(h:RdE E w S v l)(x:Ext w w'):RdE E w' S v l:=Rd.ext h x
theorem RdE.shape(h:RdE E w S v l):∃ A c,v=.slice A l.length c∧l.length≤c∧c≤maxLen:=by
 obtain⟨_,A,c,h,h1,h2,_⟩:=h;exact⟨A,c,h,h1,h2⟩
structure Grew(E:Enc α)(w:World)(B:Nat)(v:Value)(l:List α)(A:Option Addr)(n c:Nat)(w':World):Prop where
 own:Own E w' B (.slice A n c) l
 len:n=l.length
 cap:n≤c∧c≤maxLen
 ext:∀ W,Ext W w→W.heap.size≤B→Ext W w'
 chg:Chg (fun b=>v.ownBlock=some b) w w'
 at_:(Value.slice A n c).ownBlock=v.ownBlock∨(Value.slice A n c).ownBlock=some w.heap.size
theorem Zvk{m:List α}{v':Value}(hown:Own E w B v l)(h:Bv w B E.ty E.z v (l.length+m.length) (E.cells l++E.cells m) v' w'):∃ A n c,v'=.slice A n c∧Grew E w B v (l++m) A n c w':=by
 have ho:Own E w' B v' (l++m):=by
  have:=h.own;unfold Own;rw[Zs,E.app];exact this
 obtain⟨A,c,rfl,h1,h2⟩:=ho.shape;exact⟨A,_,c,rfl,ho,rfl,⟨h1,h2⟩,fun W hx hB=>hx.grown h.grown fun k hk=>Zm5 hB (hown.lt k hk).1,(Chg.refl _ _).grown h.grown (fun k hk=>.inl hk),h.at_⟩
end
section
variable {α:Type} {ops:Array Oper} {rest:List Oper} {o:Oper} {a:Act} {w:World} {Q:Exit→Act→World→Prop} {K:Act→World→Prop} {B:Nat} {S:Nat→Prop} {v x:Value} {l m:List α}
theorem Zpz(E:Enc α)(s y:Operand)(t:TypeId)(ho:o.op=.call {callee:=.builtin .append,args:=#[s,y],argTypes:=#[t,t]})(ht:t=E.sl)(hs:a.eval s=v)(hown:Own E w B v l)
 (hx:a.eval y=x) (hr:RdE E w S x m) (hn:l.length+m.length≤1000000000) (hby:E.bytes≤1000) (hB:B≤w.heap.size)
 (h:∀ A n c w',Grew E w B v (l++m) A n c w'→K (a.put o.dst (.slice A n c)) w'):o.wp Tryz.prog a w K Q:=by
 subst ht;refine Jd w s y E.sl ho B E.ty E.i E.zero E.z E.bytes E.und E.info E.hz E.hs E.hb E.hc E.pos v l.length (E.cells l) hs hown S x m.length (E.cells m) hx hr (E.one m) (by unfold maxLen;omega) ?_ hB ?_
 ·calc (l.length+m.length)*E.bytes≤1000000000*1000:=Zi5 hn hby
   _≤140737488355328:=by omega
 intro v' w' ha;obtain⟨A,n,c,rfl,hg⟩:=Zvk hown ha;exact h A n c w' hg
theorem Xu(E:Enc α)(s y:Operand)(t:TypeId)(hgd:o.guard=none)(ho:o.op=.call {callee:=.builtin .append,args:=#[s,y],argTypes:=#[t,t]})(ht:t=E.sl)(hs:a.eval s=v)(hown:Own E w B v l)
 (hx:a.eval y=x) (hr:RdE E w S x m) (hn:l.length+m.length≤1000000000) (hby:E.bytes≤1000) (hB:B≤w.heap.size)
 (h:∀ A n c w',Grew E w B v (l++m) A n c w'→wpList Tryz.prog ops Q rest (a.put o.dst (.slice A n c)) w'):wpList Tryz.prog ops Q (o::rest) a w :=
 Zj3 hgd fun _ hK=>Zpz E s y t ho ht hs hown hx hr hn hby hB fun A n c w' hg=>hK _ _ (h A n c w' hg)
theorem Vq(E:Enc α){F:Prop}(s y:Operand)(t:TypeId)(hgd:o.guard=none)(ho:o.op=.call {callee:=.builtin .append,args:=#[s,y],argTypes:=#[t,t]})(ht:t=E.sl)(hs:a.eval s=v)(hown:Own E w B v l)
 (hx:a.eval y=x) (hr:RdE E w S x m) (hn:l.length+m.length≤1000000000) (hby:E.bytes≤1000) (hB:B≤w.heap.size)
 (h:∀ A n c w',Grew E w B v (l++m) A n c w'→K (a.put o.dst (.slice A n c)) w') :
 if Region.wanted o (yielded ops a.tmps)=true then Oper.wp Tryz.prog o a w K Q else F:=by
 have hw:Region.wanted o (yielded ops a.tmps)=true:=by simp[Region.wanted,hgd]
 rw[Zm4 hw];exact Zpz E s y t ho ht hs hown hx hr hn hby hB h
end
theorem Eb{α:Type}(f:α→Value)(hf:∀ a,(f a).oneCell'=true)(l:List α):∀ u∈l.map f,u.oneCell'=true:=fun u hu=>by
 obtain⟨y,_,rfl⟩:=Zlw.1 hu;exact hf y
theorem Bl:(Tryz.prog.info? 3).map (fun i=>(i.zero,i.size,i.bytes))=some (some (.int .i64 0),1,8):=by kernel_rfl
theorem Zqq:Tryz.prog.underlying 22=some (.slice 3):=by kernel_rfl
noncomputable def Wi:Enc Int where
 ty:=3
 sl:=22
 z:=1
 bytes:=8
 cells l:=l.map (Value.int .i64)
 app a b:=Yy
 len l:=by simp
 one l:=Eb _ (fun _=>rfl) l
 und:=Zqq
 i:=Classical.choose (Zm7 Bl)
 zero:=.int .i64 0
 info:=(Yo (Zm7 Bl)).1
 hz:=(Yo (Zm7 Bl)).2.1
 hs:=(Yo (Zm7 Bl)).2.2.1
 hb:=(Yo (Zm7 Bl)).2.2.2
 hc:=rfl
 pos:=by omega
noncomputable def Q6:Enc ByteArray where
 ty:=9
 sl:=24
 z:=1
 bytes:=16
 cells l:=l.map Value.string
 app a b:=Yy
 len l:=by simp
 one l:=Eb _ (fun _=>rfl) l
 und:=Zqo
 i:=Classical.choose (Zm7 Bj)
 zero:=.string ⟨#[]⟩
 info:=(Yo (Zm7 Bj)).1
 hz:=(Yo (Zm7 Bj)).2.1
 hs:=(Yo (Zm7 Bj)).2.2.1
 hb:=(Yo (Zm7 Bj)).2.2.2
 hc:=rfl
 pos:=by omega
end
def nextL(d:List Mp)(l:List Int):List Int:=l.flatMap fun x=>if(Xg d x).isEmpty then[x]else Xg d x
def Da(d:List Mp)(l:List Int):Bool:=l.any fun x=>!(Xg d x).isEmpty
def Qf(d:List Mp):Nat→List Int→Option (List Int)
 | 0,_=>none
 | k+1,l=>if Da d l=false then some l else if 18<(nextL d l).length then none else Qf d k (nextL d l)
theorem Nn(d:List Mp)(l:List Int)(x:Int):nextL d (l++[x])=nextL d l++(if(Xg d x).isEmpty then[x]else Xg d x):=by simp[nextL]
theorem Np(d:List Mp)(l:List Int)(x:Int):Da d (l++[x])=(Da d l||!(Xg d x).isEmpty):=by simp[Da]
theorem Wt{α:Type}{l:List α}{i:Nat}{x:α}(h:l[i]?=some x):l.take (i+1)=l.take i++[x]:=by
 rw[Za,h];rfl
structure Few(T:Tbl):Prop where
 dec:∀ m∈T.dec,m.to_.length≤18
 map:∀ m∈T.map,m.to_.length≤18
 pro:∀ m∈T.pro,m.to_.length≤18
 ext:∀ m∈T.ext,m.to_.length≤18
 rows:T.dec.length≤256∧T.map.length≤256∧T.pro.length≤256∧T.ext.length≤256
theorem K6{l:List Mp}{N:Nat}(h:∀ m∈l,m.to_.length≤N):∀ c,(Xg l c).length≤N:=by
 intro c
 induction l with
 | nil=>simp[Xg]
 | cons m r ih =>
  unfold Xg;split
  ·exact h m (by simp)
  exact ih fun m hm=>h m (by simp[hm])
theorem Zut{d:List Mp}(h:∀ m∈d,m.to_.length≤18)(l:List Int):(nextL d l).length≤18*l.length:=by
 induction l with
 | nil=>simp[nextL]
 | cons x r ih =>
  have e:nextL d (x::r)=(if(Xg d x).isEmpty then[x]else Xg d x)++nextL d r:=by simp[nextL]
  rw[e,Zs,Zl];have:=K6 h x;split<;>simp<;>omega
theorem Zs9(w:World)(z:Int)(t:TypeId)(g:Nat)(hg:w.heap.size=g):Xx (w.alloc (.cells #[.int .i64 z] t)) (fun k=>k=g) (.slice (some ⟨g,0,none⟩) 1 1) [z]:=by
 subst hg;have h1:(w.alloc (.cells #[.int .i64 z] t)).heap[w.heap.size]?=some (.cells #[.int .i64 z] t):=Zlo w _;refine⟨by simp,_,_,rfl,Yn _,by unfold maxLen;omega,fun _=>⟨_,_,rfl,rfl,(Zm3.1 h1).1,fun j u hu=>?_⟩⟩;simp only[World.cell?,h1];rw[Zlj,← hu];simp
def Jy(T:Tbl)(c:Int)(w:World)(e:Ending)(w':World):Prop :=
 match Qf T.dec 257 [c]with
 | some l=>∃ v,e=.returned (.tuple #[v,.bool true])∧Xx w' (fun k=>w.heap.size≤k) v l∧Ext w w'
 | none=>e=.returned (.tuple #[.slice none 0 0,.bool false])∧Ext w w'
theorem Bo{S:Nat→Prop}(T:Tbl)(c:Int)(w:World)(h:Xl w S T)(hf:Few T):Calls Tryz.prog 146 #[Vu T,.int .i64 c] w (Jy T c w):=by
 obtain⟨A9,C9,e9,hl9,hc9⟩:=h.dec.shape;have h9:=h.dec.ext ((Yl w).alloc (Xe T));obtain⟨n9,hn9⟩:=gnX (T.dec.length);rw[hn9]at e9 hl9;rw[e9]at h9;have Hn9:=Y4 hn9;have E9:=Y4 e9;have H9:=Y4 h9;unfold maxLen at hc9;clear hn9 e9 h9;have X0:=Y4 ((Yl w).alloc (Xe T));have H:=Y4 (h.up X0.o);have Hb0:=Y4 (Xm w T);clear h;have Hf:=Y4 hf;clear hf;go_enter Tryz.func146,Tryz.ntmps146;go_wp2_with (refine Xw rfl ?_);go_loopw [7,6] (fun o v wr=>∃ (k:Nat) (l:List Int),k≤257∧o=.int .i64 (k:Int)∧Qf T.dec 257 [c]=Qf T.dec (257-k) l∧l.length≤18∧Xx wr (fun k=>w.heap.size≤k) v l∧Ext (w.alloc (Xe T)) wr) (fun o _ _=>257-(intOf o).toNat);case atStart =>
  exact⟨0,[c],by omega,rfl,rfl,by simp,Rd.mono (Zs9 (w.alloc (Xe T)) c 3 (w.heap.size+1) (by simp)) (fun k hk _=>by omega),(Yl _).alloc _⟩
 obtain⟨k,l,hk,rfl,he,hl,hv,hx⟩:=hrel;obtain⟨VA,VC,rfl,hvl,hvc⟩:=hv.shape;obtain⟨n,hn⟩:=gnX (l.length);rw[hn]at hvl hl⊢;have Hn:=Y4 hn;have Hv:=Y4 hv;have He:=Y4 he;have Hx:=Y4 hx;clear hn hv he hx;by_cases hlt:k≤256
 ·have hd:decide ((k:Int)≤(256:Int))=true:=Yf;go_wp2_with fail;rename World=>wo
  have hB:w.heap.size≤wo.heap.size:=Zm5 X0.o.size Hx.o.size;obtain⟨B,hBe⟩:=gnX (wo.heap.size);go_loopw [21,8,9] (fun o u b wr=>∃ j:Nat,j≤n∧o=.int .i64 (j:Int)∧Own Wi wr B u (nextL T.dec (l.take j))∧b=.bool (Da T.dec (l.take j))∧Ext wo wr) (fun o _ _ _=>n-(intOf o).toNat);case atStart=>exact⟨0,by omega,rfl,Own.nil _ _ _,rfl,Yl _⟩
  obtain⟨j,hj,rfl,ho,rfl,hxj⟩:=hrel;obtain⟨OA,OC,rfl,hol,hoc⟩:=ho.shape;have hq18:(nextL T.dec (l.take j)).length≤324:=Zm5 (Zut Hf.o.dec _) (by rw[Zp];omega);obtain⟨q,hq⟩:=gnX ((nextL T.dec (l.take j)).length);have Hq:=Y4 hq;have Ho:=Y4 ho;rw[hq]at hol hq18⊢;have Hxj:=Y4 hxj;have HxA:=Y4 (Hx.o.trans hxj);have hBj:B≤wr.heap.size:=by rw[← hBe];exact hxj.size
  have HBj:=Y4 hBj;unfold maxLen at hoc;clear hq ho hxj hBj;by_cases hlj:j<n
  ·obtain⟨hd_j,i0_j,i1_j⟩:=LTl j n;obtain⟨x,hs_x⟩:=geX (l:=(l)) (i:=j) (by have:=Hn.o;omega);obtain⟨g_x,o_x,c_x,hvv,_,_,_,hgl_x,a0_x⟩:=(Hv.o.ext Hxj.o).get hs_x;simp only[Ye]at hvv;obtain⟨rfl,-,rfl⟩:=hvv;have Hs_x:=Y4 hs_x;clear hs_x;have b9:=(Hb0.o.ext HxA.o).at_ 9 (by omega);rw[show(Qw T)[9]?=some T.decV from rfl,E9.o]at b9;have hfa:=Qv (S:=S) (c:=x) H9.o.2;obtain⟨FA,FC,ef,fl,fc⟩:=hfa.shape;obtain⟨d,hd⟩:=gnX ((Xg T.dec x).length);have hd18:=K6 Hf.o.dec x;rw[ef]at hfa;rw[hd]at ef fl hd18;have Hd:=Y4 hd;have Hfa:=Y4 hfa;clear hd hfa;unfold maxLen at fc;by_cases h0:0<d
   ·have h1:decide ((0:Int)<(d:Int))=true:=Yf;have h2:decide (0<d)=true:=Yf h0;go_wp2_with (first|(go_at_call 111;refine(Wz _ T.dec x _ (H9.o.ext HxA.o)).mono ?_;rintro e w1 ⟨rfl,hx1⟩)|(at_builtin;refine Xu Wi _ _ _ rfl rfl rfl rfl (by rw[← Hq.o];exact Ho.o.ext hx1) rfl (by have:=Hfa.o.ext (HxA.o.trans hx1);rw[Hd.o]at this;exact this) (by rw[Hq.o,Hd.o];omega) (by show 8≤1000;omega) (Zm5 HBj.o hx1.size) ?_;intro A3 n3 c3 w3 hg));have Hg:=Y4 hg;have Hx1:=Y4 hx1;have h3:(Xg T.dec x).isEmpty=false:=by cases hh:Xg T.dec x with
     | nil=>have:=Hd.o;rw[hh]at this;simp at this;omega
     | cons _ _=>rfl
    have Hfin:=Y4 h3;clear hg hx1 h3;go_wp2_with fail;go_roundw;case rel =>
     refine⟨j+1,by omega,by go_num,?_,?_,?_⟩
     ·rw[Wt Hs_x.o,Nn,Hfin.o];exact Hg.o.own
     ·rw[Wt Hs_x.o,Np,Hfin.o];simp
     exact Hg.o.ext wo (Hxj.o.trans Hx1.o) (by rw[hBe];exact Yn _)
    case measure=>simp[intOf];omega
   have h1:decide ((0:Int)<(d:Int))=false:=Yg;have h2:decide (0<d)=false:=Yg h0;go_wp2_with (first|(go_at_call 111;refine(Wz _ T.dec x _ (H9.o.ext HxA.o)).mono ?_;rintro e w1 ⟨rfl,hx1⟩)|(at_builtin;refine Xu Wi _ _ _ rfl rfl rfl rfl (by rw[← Hq.o];exact(Ho.o.ext hx1).ext ((Yl _).alloc _)) rfl (Wv w1 x _ _ rfl) (by rw[Hq.o];simp;omega) (by show 8≤1000;omega) (by have:=Zm5 HBj.o hx1.size;simp;omega) ?_;intro A3 n3 c3 w3 hg));have Hg:=Y4 hg;have Hx1:=Y4 hx1;have h3:(Xg T.dec x).isEmpty=true:=by cases hh:Xg T.dec x with
    | nil=>rfl
    | cons _ _=>have:=Hd.o;rw[hh]at this;simp at this;omega
   have Hfin:=Y4 h3;clear hg hx1 h3;go_wp2_with fail;go_roundw;case rel =>
    refine⟨j+1,by omega,by go_num,?_,?_,?_⟩
    ·rw[Wt Hs_x.o,Nn,Hfin.o];exact Hg.o.own
    ·rw[Wt Hs_x.o,Np,Hfin.o];simp
    exact Hg.o.ext wo ((Hxj.o.trans Hx1.o).alloc _) (by rw[hBe];exact Yn _)
   case measure=>simp[intOf];omega
  have hd_j:=GEl j n;have ej:l.take j=l:=Zm (by rw[Hn.o];omega);rw[ej]at Hq Ho⊢;cases hmo:Da T.dec l
  ·have Hmo:=Y4 hmo;go_wp2_with fail;go_ret2;unfold Jy;rw[He.o,show 257-k=(256-k)+1 by omega,Qf,Zm4 Hmo.o];exact⟨.slice VA n VC,rfl,by rw[← Hn.o];exact Hv.o.ext Hxj.o,X0.o.trans HxA.o⟩
  have Hmo:=Y4 hmo;by_cases h18:18<q
  ·have h1:decide ((18:Int)<(q:Int))=true:=Yf;go_wp2_with fail;go_ret2;unfold Jy;rw[He.o,show 257-k=(256-k)+1 by omega,Qf,Zm2 (by rw[Hmo.o];simp),Zm4 (by rw[Hq.o];exact h18)];exact⟨rfl,X0.o.trans HxA.o⟩
  have h1:decide ((18:Int)<(q:Int))=false:=Yg;go_wp2_with fail;go_roundw;case rel =>
   refine⟨k+1,nextL T.dec l,by omega,by go_num,?_,?_,?_,HxA.o⟩
   ·rw[He.o,show 257-k=(256-k)+1 by omega,Qf,Zm2 (by rw[Hmo.o];simp),Zm2 (by rw[Hq.o];exact h18)];rw[show 257-(k+1)=256-k by omega]
   ·rw[Hq.o];omega
   rw[← Hq.o];exact Rd.mono Ho.o.rd fun b hb _=>by omega
  case measure=>simp[intOf];omega
 have hd:decide ((k:Int)≤(256:Int))=false:=Yg;have Hnone:=Y4 (show Qf T.dec 257 [c]=none by rw[He.o,show 257-k=0 by omega];rfl);go_wp2_with fail;go_ret2;unfold Jy;rw[Hnone.o];exact⟨rfl,X0.o.trans Hx.o⟩
structure Xo(w:World)(b:Nat)(cs:List Value):Prop where
 lt:b<w.heap.size
 fz:∀ k,w.frozen? ⟨b,k,none⟩=false
 at_:∀ k,k<cs.length→w.cell? ⟨b,k,none⟩=cs[k]?
theorem Xo.chg{U:Nat→Prop}{w w':World}{b:Nat}{cs:List Value}(h:Xo w b cs)(c:Chg U w w')(hb:¬ U b):Xo w' b cs :=
 ⟨Zm1 h.lt c.size,fun k=>(c.frozen (p:=⟨b,k,none⟩) h.lt hb).trans (h.fz k),fun k hk=>(c.cell (p:=⟨b,k,none⟩) h.lt hb).trans (h.at_ k hk)⟩
theorem Xo.ext{w w':World}{b:Nat}{cs:List Value}(h:Xo w b cs)(x:Ext w w'):Xo w' b cs:=h.chg (x.chg fun _=>False) fun h=>h
theorem Xo.new(w:World)(cs:Array Value)(t:TypeId):Xo (w.alloc (.cells cs t)) w.heap.size cs.toList :=
 ⟨by simp,fun k=>by go_simp,fun k hk=>by go_simp⟩
theorem Xo.set{w:World}{b:Nat}{cs:List Value}(h:Xo w b cs){j:Nat}(hj:j<cs.length)(u:Value):Xo (w.setCell ⟨b,j,none⟩ u) b (cs.set j u):=by
 obtain⟨h1,h2,h3⟩:=h;have hc:=h3 j hj;rw[Zz hj]at hc;refine⟨by simpa[World.setCell]using h1,fun k=>?_,fun k hk=>?_⟩
 ·have:=h2 k;simp only[World.frozen?,World.setCell]at this⊢;rw[Zkb];simp only[Zi7];cases hh:w.heap[b]? with
  | none=>rfl
  | some o=>cases o<;>simp_all
 rw[Zf]at hk;have hck:=h3 k hk;rw[Yv];by_cases e:j=k
 ·subst e;rw[Zm4 rfl,Zm4 hj];go_simp
 rw[Zm2 e,← hck];go_simp
theorem Chg.thenB{S T:Nat→Prop}{a b c:World}(h:Chg S a b)(k:Chg T b c)(hT:∀ i,i<a.heap.size→T i→S i):Chg S a c :=
 ⟨k.os.trans h.os,k.tape.trans h.tape,k.output.trans h.output,Zm5 h.size k.size,fun i hi hS=>(k.block i (Zm1 hi h.size) (fun ht=>hS (hT i hi ht))).trans (h.block i hi hS)⟩
theorem Xo.drew{w:World}{b:Nat}{cs:List Value}(h:Xo w b cs):Xo w.drew b cs:=h.ext (Yl w).drew
theorem Xo.far{w:World}{b c j:Nat}{cs:List Value}(h:Xo w b cs)(hne:b≠c)(u:Value):Xo (w.setCell ⟨c,j,none⟩ u) b cs:=h.chg ((Chg.refl (· = c) w).setCell (p:=⟨c,j,none⟩) (.inl rfl) u) hne
theorem RdE.far{α:Type}{E:Enc α}{w:World}{S:Nat→Prop}{v:Value}{l:List α}{c j:Nat}(h:RdE E w S v l)(hS:¬ S c)(u:Value):RdE E (w.setCell ⟨c,j,none⟩ u) S v l:=Rd.chg h ((Chg.refl (· = c) w).setCell (p:=⟨c,j,none⟩) (.inl rfl) u) (fun k hk e=>hS (e▸hk))
theorem Own.far{α:Type}{E:Enc α}{w:World}{B:Nat}{v:Value}{l:List α}{c j:Nat}(h:Own E w B v l)(hS:v.ownBlock≠some c)(u:Value):Own E (w.setCell ⟨c,j,none⟩ u) B v l:=h.chg ((Chg.refl (· = c) w).setCell (p:=⟨c,j,none⟩) (.inl rfl) u) (fun k hk e=>hS (by rw[hk,e]))
theorem Xi{S:Nat→Prop}{a:World}{b:Nat}(hb:S b∨a.heap.size≤b):∀ {vs:List Value} {o:Nat} {w:World},Chg S a w→Chg S a (w.setCells b o vs)
 | [],_,_,h=>h
 | v::r,o,w,h=>Xi hb (vs:=r) (h.setCell (p:=⟨b,o,none⟩) hb v)
theorem Ztj{w:World}{S:Nat→Prop}{T:Tbl}(h:Xl w S T):∀ v∈Qw T,v.oneCell'=true:=by
 obtain⟨_,_,e0,_,_⟩:=h.cat.shape;obtain⟨_,_,e1,_,_⟩:=h.cls.shape;obtain⟨_,_,e2,_,_⟩:=h.joi.shape;obtain⟨_,_,e3,_,_⟩:=h.bid.shape;obtain⟨_,_,e4,_,_⟩:=h.scr.shape;obtain⟨_,_,e5,_,_⟩:=h.sta.shape;obtain⟨_,_,e6,_,_⟩:=h.ign.shape;obtain⟨_,_,e7,_,_⟩:=h.ext.shape;obtain⟨_,_,e8,_,_⟩:=h.map.shape;obtain⟨_,_,e9,_,_⟩:=h.dec.shape;obtain⟨_,_,e10,_,_⟩:=h.exc.shape;obtain⟨_,_,e11,_,_⟩:=h.pro.shape;intro v hv;simp only[Qw,Zg,Zh,Zl8]at hv;rcases hv with rfl|rfl|rfl|rfl|rfl|rfl|rfl|rfl|rfl|rfl|rfl|rfl
 ·rw[e0];rfl
 ·rw[e1];rfl
 ·rw[e2];rfl
 ·rw[e3];rfl
 ·rw[e4];rfl
 ·rw[e5];rfl
 ·rw[e6];rfl
 ·rw[e7];rfl
 ·rw[e8];rfl
 ·rw[e9];rfl
 ·rw[e10];rfl
 rw[e11];rfl
theorem Xo.there{w:World}{b o n:Nat}{cs:List Value}(h:Xo w b cs)(hn:o+n≤cs.length):w.there b o n:=fun j hj =>
 ⟨by rw[h.at_ (o+j) (by omega),Zz (by omega)];rfl,h.fz _⟩
theorem Xo.mid{w:World}{b o:Nat}{cs vs cs':List Value}(h:Xo w b cs)(ho:o+vs.length≤cs.length)(he:cs'=cs.take o++(vs++cs.drop (o+vs.length))):Xo (w.setCells b o vs) b cs':=by
 subst he;refine⟨Zm1 h.lt (Xi (S:=fun _=>True) (.inl trivial) (Chg.refl _ w)).size,fun k=>by rw[World.frozen?_setCells];exact h.fz k,fun k hk=>?_⟩;have hl:(cs.take o).length=o:=by simp;omega
 by_cases h1:k<o
 ·rw[World.cell?_setCells_out b vs o w ⟨b,k,none⟩ (fun _ _=>.inl h1),h.at_ k (by omega),Ze (by omega),Zio h1]
 by_cases h2:k<o+vs.length
 ·have e:=World.cell?_setCells_in b vs o w (fun j hj=>((h.there ho) j hj).1) (k-o) (by omega);rw[show o+(k-o)=k by omega]at e;rw[e,Zd (by omega),hl,Ze (by omega),Zz (by omega)]
 rw[World.cell?_setCells_out b vs o w ⟨b,k,none⟩ (fun _ _=>.inr (by simp only;omega)),Zd (by omega),hl,Zd (by omega),Yx];rw[h.at_ k (by simp at hk;omega)];congr 1;omega
def Zp5(s:ByteArray):Nat→List Int→Nat→List Int×Nat
 | 0,acc,p=>(acc,p)
 | f+1,acc,p=>if p<s.size∧0<K7 (s.extract p s.size)then Zp5 s f (acc++[Nx (s.extract p s.size)]) (p+K7 (s.extract p s.size))else(acc,p)
def dec(s:ByteArray):List Int×Nat:=Zp5 s (s.size+1) [] 0
theorem ext_size(s:ByteArray){p:Nat}(_:p≤s.size):(s.extract p s.size).size=s.size-p:=by simp
def Zpq(s:ByteArray)(w:World)(e:Ending)(w':World):Prop:=∃ v,e=.returned (.tuple #[v,.int .i64 ((dec s).2:Int)])∧RdE Wi w' (fun k=>w.heap.size≤k) v (dec s).1∧(dec s).1.length≤4096∧(dec s).2≤s.size∧Ext w w'
theorem decode_any(s:ByteArray)(hs:s.size≤4096)(w:World):Calls Tryz.prog 224 #[.string s] w (Zpq s w):=by
 go_enter Tryz.func224,Tryz.ntmps224;go_wp2_with fail;go_loopw [5,4] (fun o v wr=>∃ (f p:Nat) (l:List Int),o=.int .i64 (p:Int)∧Aside (dec s=Zp5 s f l p)∧s.size+1≤f+p∧p≤s.size∧l.length≤p∧Own Wi wr w.heap.size v l∧Ext w wr) (fun o _ _=>s.size-(intOf o).toNat);case atStart=>exact⟨s.size+1,0,[],rfl,rfl,by omega,by omega,by simp,Own.nil _ _ _,Yl _⟩
 obtain⟨f,p,l,rfl,he,hf,hp,hl,ho,hx⟩:=hrel;have He:=Zlb he.out;have Ho:=Zlb ho;have Hx:=Zlb hx;obtain⟨A,C,rfl,hlc,hC⟩:=ho.shape;obtain⟨n,hn⟩:=gnX (l.length);rw[hn]at hl hlc⊢;have Hn:=Zlb hn;unfold maxLen at hC;clear he ho hx hn;obtain⟨f',rfl⟩:∃ g,f=g+1:=⟨f-1,by omega⟩;by_cases hlt:p<s.size
 ·have d1:decide ((p:Int)<(s.size:Int))=true:=Yf;have d2:decide (p<s.size)=true:=Yf hlt;have i0:(0:Int)≤(p:Int):=by omega
  have i1:(p:Int)≤(s.size:Int):=by omega
  have hle:=Zvr (s.extract p s.size);rw[ext_size s hp]at hle;obtain⟨N,hN⟩:=gnX (K7 (s.extract p s.size));rw[hN]at hle;have HN:=Zlb hN;have hes:=ext_size s hp;have Hes:=Zlb hes;clear hN hes;by_cases h0:N=0
  ·have Hd:=Zlb (show dec s=(l,p) by rw[He.out,Zp5,Zm2 (by rw[HN.out,h0];simp)]);have q1:((N:Int)==0)=true:=by simp;omega
   have q2:(N==0)=true:=by simp;omega
   have q3:decide (N=0)=true:=Yf h0;clear h0;go_wp2_with (go_at_call 246;refine(first_any _ (by rw[Hes.out];unfold maxLen;omega) _).mono ?_;rintro e w1 ⟨rfl,hx1⟩;rw[HN.out]);go_ret2;refine⟨.slice A n C,?_,?_,?_,?_,Hx.out.trans hx1⟩
   ·rw[Hd.out];rfl
   ·rw[Hd.out,← Hn.out];exact(Ho.out.ext hx1).rd
   ·rw[Hd.out];show l.length≤4096;rw[Hn.out];omega
   rw[Hd.out];exact hp
  have q1:((N:Int)==0)=false:=by simp;omega
  have q2:(N==0)=false:=by simp;omega
  have q3:decide (N=0)=false:=Yg h0;go_wp2_with (first|(go_at_call 246;refine(first_any _ (by rw[Hes.out];unfold maxLen;omega) _).mono ?_;rintro e w1 ⟨rfl,hx1⟩;rw[HN.out])|(at_builtin;refine Xu Wi _ _ _ rfl rfl rfl rfl (by rw[← Hn.out];exact(Ho.out.ext hx1).ext ((Yl _).alloc _)) rfl (Wv w1 (Nx (s.extract p s.size)) _ _ rfl) (by rw[Hn.out];simp;omega) (by show 8≤1000;omega) (by have:=Zm5 Hx.out.size hx1.size;simp;omega) ?_;intro A3 n3 c3 w3 hg));have Hd:=Zlb (show dec s=Zp5 s f' (l++[Nx (s.extract p s.size)]) (p+N) by rw[He.out,Zp5,Zm4 ⟨hlt,by rw[HN.out];omega⟩,HN.out]);have Hg:=Zlb hg;have Hx3:=Zlb (hg.ext w ((Hx.out.trans hx1).alloc _) (Yn _));clear hg;go_wp2_with fail;go_roundw;case rel =>
   refine⟨f',p+N,l++[Nx (s.extract p s.size)],by go_num,Hd.out,by omega,by omega,?_,Hg.out.own,Hx3.out⟩;rw[Zs,Hn.out];simp;omega
  case measure=>simp[intOf];omega
 have d1:decide ((p:Int)<(s.size:Int))=false:=Yg;have d2:decide (p<s.size)=false:=Yg hlt;have Hd:=Zlb (show dec s=(l,p) by rw[He.out,Zp5,Zm2 (fun h=>hlt h.1)]);go_wp2_with fail;go_ret2;refine⟨.slice A n C,?_,?_,?_,?_,Hx.out⟩
 ·rw[Hd.out];rfl
 ·rw[Hd.out,← Hn.out];exact Ho.out.rd
 ·rw[Hd.out];show l.length≤4096;rw[Hn.out];omega
 rw[Hd.out];exact hp
def Zz6(s:ByteArray)(w:World)(e:Ending)(w':World):Prop :=
 ∃ v l,∃ p x:Int,e=.returned (.tuple #[v,.int .i64 p,.int .i64 x])∧RdE Wi w' (fun k=>w.heap.size≤k) v l∧l.length≤4096∧(x=0→l=(dec s).1)∧Ext w w'
theorem Zq3{w:World}{S:Nat→Prop}:RdE Wi w S (.slice none 0 0) []:=Xx.nil w S
theorem Tn(s:ByteArray)(w:World):Calls Tryz.prog 208 #[.string s] w (Zz6 s w):=by
 go_enter Tryz.func208,Tryz.ntmps208;by_cases hbig:4096<s.size
 ·have d1:decide ((4096:Int)<(s.size:Int))=true:=Yf;go_wp2_with fail;go_ret3;exact⟨_,[],_,_,rfl,Zq3,by simp,fun h=>absurd h (by decide),Yl _⟩
 have d1:decide ((4096:Int)<(s.size:Int))=false:=Yg;by_cases hp:(dec s).2<s.size
 ·have d2:decide (((dec s).2:Int)<(s.size:Int))=true:=Yf;have d3:decide ((dec s).2<s.size)=true:=Yf hp;go_wp2_with (go_at_call 224;refine(decode_any _ (by omega) _).mono ?_;rintro e w1 ⟨v,rfl,hv,hl,_,hx1⟩);go_ret3;exact⟨_,[],_,_,rfl,Zq3,by simp,fun h=>absurd h (by decide),hx1⟩
 have d2:decide (((dec s).2:Int)<(s.size:Int))=false:=Yg;have d3:decide ((dec s).2<s.size)=false:=Yg hp;go_wp2_with (go_at_call 224;refine(decode_any _ (by omega) _).mono ?_;rintro e w1 ⟨v,rfl,hv,hl,_,hx1⟩);go_ret3;exact⟨_,_,_,_,rfl,hv,hl,fun _=>rfl,hx1⟩
def Zz7(n:Nat)(w:World)(e:Ending)(w':World):Prop:=∃ (t:ByteArray) (x:Int),e=.returned (.tuple #[.string t,.int .i64 x])∧t.size≤4*n∧Ext w w'
theorem Ej{S:Nat→Prop}(v:Value)(l:List Int)(w:World)(h:Xx w S v l):Calls Tryz.prog 126 #[v] w (Zz7 l.length w):=by
 obtain⟨A,C,rfl,hlCC,hCC⟩:=h.shape;obtain⟨n,hnn⟩:=gnX ((l).length);have Hnn:=Zlb hnn;have Hh:=Zlb h;unfold maxLen at hCC;rw[hnn]at hlCC⊢;clear h hnn;go_enter Tryz.func126,Tryz.ntmps126;by_cases hbig:4096<n
 ·have hb:decide ((4096:Int)<(n:Int))=true:=Yf;go_wp2_with fail;go_ret2;exact⟨⟨#[]⟩,_,rfl,Zlx _,Yl _⟩
 have hb:decide ((4096:Int)<(n:Int))=false:=Yg;go_wp2_with fail;go_loopw [12,4] (fun o y wr=>∃ (i:Nat) (t:ByteArray),i≤n∧o=.int .i64 (i:Int)∧y=.string t∧t.size≤4*i∧Ext w wr) (fun o _ _=>n-(intOf o).toNat);case atStart=>exact⟨0,⟨#[]⟩,by omega,rfl,rfl,Zlx _,Yl _⟩
 obtain⟨i,t,hi,rfl,rfl,ht,hx⟩:=hrel;have Hx:=Zlb hx;clear hx;by_cases hlt:i<n
 ·obtain⟨hd_i,i0_i,i1_i⟩:=LTl i n;obtain⟨x,hs_x⟩:=geX (l:=(l)) (i:=i) (by have:=Hnn.out;omega);obtain⟨g_x,o_x,c_x,hvv,_,_,_,hgl_x,a0_x⟩:=(Hh.out.ext Hx.out).get hs_x;simp only[Ye]at hvv;obtain⟨rfl,-,rfl⟩:=hvv;have Hs_x:=Zlb hs_x;clear hs_x;have h4:(bs (u8L (Mx x))).size≤4:=by rw[Zp2];simp only[u8L,Zq];exact Zrg x
  have hz:¬ 9223372036854775807<t.size+(bs (u8L (Mx x))).size:=by omega
  go_wp2_with (first|(go_at_call 143;refine(Jp _ _).mono ?_;rintro e w' ⟨rfl,rfl⟩)|(go_at_call 166;refine(one_any _ _).mono ?_;rintro e w1 ⟨rfl,hx1⟩));all_goals
   have hx:=Hx.out
   first
   | (go_roundw
      case rel =>
       refine⟨i+1,_,by omega,by go_num,rfl,?_,xE⟩;rw[Ym];omega
      case measure=>(simp[intOf];omega))
   | (go_ret2;exact⟨⟨#[]⟩,_,rfl,Zlx _,xE⟩)
 have hd_i:=GEl i n;have hx:=Hx.out;go_wp2_with fail;go_ret2;exact⟨t,_,rfl,by omega,xE⟩
end Go.Proofs.YtnbclgbicnpmnaaGreat
