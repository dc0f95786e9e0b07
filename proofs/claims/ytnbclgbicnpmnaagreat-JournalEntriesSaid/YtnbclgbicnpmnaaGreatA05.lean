/- Lemmas of this claim: Enc, RG, Blk, LastQ, Blk2, RO. Conditions: as named. -/
import Derived.Deep.MidRow
import Derived.Test.YtnbclgbicnpmnaaGreatA02
import Derived.Test.YtnbclgbicnpmnaaGreatA03
import Derived.Test.YtnbclgbicnpmnaaGreatA04
namespace Go.Proofs.YtnbclgbicnpmnaaGreat
open Go.RowKit Go.Sort
open List renaming getElem?_eq_getElem → Zz, length_append → Zs, length_map → Zq, length_take → Zp, take_of_length_le → Zm, length_cons → Zl, not_mem_nil → Zh, mem_cons → Zg, length_set → Zf, getElem?_append_left → Ze, getElem?_append_right → Zd, take_add_one → Za, filterMap_cons → Z1, filterMap_nil → Z2, getElem?_toArray → Z3, map_append → Z9, getElem?_drop → Yz, getElem?_set → Yx
open Lib renaming hid → Yw
open Classical renaming choose_spec → Yp
open Nat renaming le_refl → Yo
open _root_.ByteArray renaming size_append → Ym
open Ext renaming refl → Yl, alloc → Yk, drewN → Yj, drew → Yi, trans → Yh
set_option maxHeartbeats 40000000
set_option maxRecDepth 100000
set_option linter.all false
section
structure Enc (α:Type) where
 ty:TypeId
 sl:TypeId
 z:Nat
 bytes:Nat
 cells:List α→List Value
 app:∀ a b,cells (a++b)=cells a++cells b
 len:∀ l,(cells l).length=l.length * z
 one:∀ l,∀ u∈cells l,u.oneCell'=true
 und:Tryz.prog.underlying sl=some (.slice ty)
 i:TypeInfo
 zero:Value
 info:Tryz.prog.info? ty=some i
 hz:i.zero=some zero
 hs:i.size=z
 hb:i.bytes=bytes
 hc:zero.cells.size=z
 pos:0 < z
def Own {α:Type} (E:Enc α) (w:World) (B:Nat) (v:Value) (l:List α):Prop:=w.ownsRow B E.ty E.z v l.length (E.cells l)
def RdE {α:Type} (E:Enc α) (w:World) (S:Nat→Prop) (v:Value) (l:List α):Prop:=Rd w S E.z v l.length (E.cells l)
section
variable {α:Type} {E:Enc α} {w w':World} {B:Nat} {S T:Nat→Prop} {v:Value} {l:List α}
theorem Own.nil (E:Enc α) (w:World) (B:Nat):Own E w B (.slice none 0 0) []:=by
 have h:E.cells []=[]:=List.eq_nil_of_length_eq_zero (by rw [E.len];simp)
 unfold Own
 rw [h]
 exact World.ownsRow_nil _ _ _ _
theorem Own.ext (h:Own E w B v l) (x:Ext w w'):Own E w' B v l:=Tx h x
theorem Own.chg (h:Own E w B v l) (c:Chg T w w') (hS:∀ k,v.ownBlock=some k→¬ T k):Own E w' B v l:=by
 refine ⟨h.1,?_⟩
 rcases h.2 with hn | ⟨g,cap,cur,rfl,hb,hgg,rest⟩
 ·exact .inl hn
 refine .inr ⟨g,cap,cur,rfl,hb,?_,rest⟩
 rw [c.block g (Array.getElem?_eq_some_iff.1 hgg).1 (hS g rfl)]
 exact hgg
theorem Own.rd (h:Own E w B v l):RdE E w (fun k=>B≤k) v l:=Rd.of_own h fun k hk=>(h.lt k hk).1
theorem Own.shape (h:Own E w B v l):∃ A c,v=.slice A l.length c∧l.length≤c∧c≤maxLen:=by
 obtain ⟨_,A,c,h,h1,h2,_⟩:=h.rd
 exact ⟨A,c,h,h1,h2⟩
theorem Own.base {C:Nat} (h:Own E w B v l) (hc:C≤B):Own E w C v l:=by
 refine ⟨h.1,?_⟩
 rcases h.2 with hn | ⟨g,cap,cur,rfl,hb,rest⟩
 ·exact .inl hn
 exact .inr ⟨g,cap,cur,rfl,Nat.le_trans hc hb,rest⟩
theorem RdE.ext (h:RdE E w S v l) (x:Ext w w'):RdE E w' S v l:=Rd.ext h x
theorem RdE.shape (h:RdE E w S v l):∃ A c,v=.slice A l.length c∧l.length≤c∧c≤maxLen:=by
 obtain ⟨_,A,c,h,h1,h2,_⟩:=h
 exact ⟨A,c,h,h1,h2⟩
structure Grew (E:Enc α) (w:World) (B:Nat) (v:Value) (l:List α) (A:Option Addr) (n c:Nat) (w':World):Prop where
 own:Own E w' B (.slice A n c) l
 len:n=l.length
 cap:n≤c∧c≤maxLen
 ext:∀ W,Ext W w→W.heap.size≤B→Ext W w'
 chg:Chg (fun b=>v.ownBlock=some b) w w'
 at_:(Value.slice A n c).ownBlock=v.ownBlock∨(Value.slice A n c).ownBlock=some w.heap.size
theorem Zvf {m:List α} {v':Value} (hown:Own E w B v l) (h:K7 w B E.ty E.z v (l.length+m.length) (E.cells l++E.cells m) v' w'):∃ A n c,v'=.slice A n c∧Grew E w B v (l++m) A n c w':=by
 have ho:Own E w' B v' (l++m):=by
  have:=h.own
  unfold Own
  rw [Zs,E.app]
  exact this
 obtain ⟨A,c,rfl,h1,h2⟩:=ho.shape
 exact ⟨A,_,c,rfl,ho,rfl,⟨h1,h2⟩,fun W hx hB=>hx.grown h.grown fun k hk=>Nat.le_trans hB (hown.lt k hk).1,(Chg.refl _ _).grown h.grown (fun k hk=>.inl hk),h.at_⟩
end
section
variable {α:Type} {ops:Array Oper} {rest:List Oper} {o:Oper} {a:Act} {w:World} {Q:Exit→Act→World→Prop} {K:Act→World→Prop} {B:Nat} {S:Nat→Prop} {v x:Value} {l m:List α}
theorem Zr8 (E:Enc α) (s y:Operand) (t:TypeId) (ho:o.op=.call {callee:=.builtin .append,args:=#[s,y],argTypes:=#[t,t]}) (ht:t=E.sl) (hs:a.eval s=v) (hown:Own E w B v l)
 (hx:a.eval y=x) (hr:RdE E w S x m) (hn:l.length+m.length≤1000000000) (hby:E.bytes≤1000) (hB:B≤w.heap.size)
 (h:∀ A n c w',Grew E w B v (l++m) A n c w'→K (a.put o.dst (.slice A n c)) w'):o.wp Tryz.prog a w K Q:=by
 subst ht
 refine Jw w s y E.sl ho B E.ty E.i E.zero E.z E.bytes E.und E.info E.hz E.hs E.hb E.hc E.pos v l.length (E.cells l) hs hown S x m.length (E.cells m) hx hr (E.one m) (by unfold maxLen;omega) ?_ hB ?_
 ·calc (l.length+m.length) * E.bytes≤1000000000 * 1000:=Nat.mul_le_mul hn hby
   _≤140737488355328:=by omega
 intro v' w' ha
 obtain ⟨A,n,c,rfl,hg⟩:=Zvf hown ha
 exact h A n c w' hg
theorem Xx (E:Enc α) (s y:Operand) (t:TypeId) (hgd:o.guard=none) (ho:o.op=.call {callee:=.builtin .append,args:=#[s,y],argTypes:=#[t,t]}) (ht:t=E.sl) (hs:a.eval s=v) (hown:Own E w B v l)
 (hx:a.eval y=x) (hr:RdE E w S x m) (hn:l.length+m.length≤1000000000) (hby:E.bytes≤1000) (hB:B≤w.heap.size)
 (h:∀ A n c w',Grew E w B v (l++m) A n c w'→wpList Tryz.prog ops Q rest (a.put o.dst (.slice A n c)) w'):wpList Tryz.prog ops Q (o::rest) a w :=
 wpList_plain hgd fun _ hK=>Zr8 E s y t ho ht hs hown hx hr hn hby hB fun A n c w' hg=>hK _ _ (h A n c w' hg)
theorem Xa (E:Enc α) {F:Prop} (s y:Operand) (t:TypeId) (hgd:o.guard=none) (ho:o.op=.call {callee:=.builtin .append,args:=#[s,y],argTypes:=#[t,t]}) (ht:t=E.sl) (hs:a.eval s=v) (hown:Own E w B v l)
 (hx:a.eval y=x) (hr:RdE E w S x m) (hn:l.length+m.length≤1000000000) (hby:E.bytes≤1000) (hB:B≤w.heap.size)
 (h:∀ A n c w',Grew E w B v (l++m) A n c w'→K (a.put o.dst (.slice A n c)) w') :
 if Region.wanted o (yielded ops a.tmps)=true then Oper.wp Tryz.prog o a w K Q else F:=by
 have hw:Region.wanted o (yielded ops a.tmps)=true:=by simp [Region.wanted,hgd]
 rw [if_pos hw]
 exact Zr8 E s y t ho ht hs hown hx hr hn hby hB h
end
theorem Ub {α:Type} (f:α→Value) (hf:∀ a,(f a).oneCell'=true) (l:List α):∀ u∈l.map f,u.oneCell'=true:=fun u hu=>by
 obtain ⟨y,_,rfl⟩:=List.mem_map.1 hu
 exact hf y
theorem Qs:(Tryz.prog.info? 3).map (fun i=>(i.zero,i.size,i.bytes))=some (some (.int .i64 0),1,8):=by kernel_rfl
theorem Ia:Tryz.prog.underlying 22=some (.slice 3):=by kernel_rfl
noncomputable def Xe:Enc Int where
 ty:=3
 sl:=22
 z:=1
 bytes:=8
 cells l:=l.map (Value.int .i64)
 app a b:=Z9
 len l:=by simp
 one l:=Ub _ (fun _=>rfl) l
 und:=Ia
 i:=Classical.choose (info_parts Qs)
 zero:=.int .i64 0
 info:=(Yp (info_parts Qs)).1
 hz:=(Yp (info_parts Qs)).2.1
 hs:=(Yp (info_parts Qs)).2.2.1
 hb:=(Yp (info_parts Qs)).2.2.2
 hc:=rfl
 pos:=by omega
noncomputable def Wr:Enc ByteArray where
 ty:=9
 sl:=24
 z:=1
 bytes:=16
 cells l:=l.map Value.string
 app a b:=Z9
 len l:=by simp
 one l:=Ub _ (fun _=>rfl) l
 und:=Zts
 i:=Classical.choose (info_parts Gc)
 zero:=.string ⟨#[]⟩
 info:=(Yp (info_parts Gc)).1
 hz:=(Yp (info_parts Gc)).2.1
 hs:=(Yp (info_parts Gc)).2.2.1
 hb:=(Yp (info_parts Gc)).2.2.2
 hc:=rfl
 pos:=by omega
end
def nextL (d:List Mp) (l:List Int):List Int:=l.flatMap fun x=>if (Xg d x).isEmpty then [x] else Xg d x
def Ed (d:List Mp) (l:List Int):Bool:=l.any fun x=>!(Xg d x).isEmpty
def V6 (d:List Mp):Nat→List Int→Option (List Int)
 | 0,_=>none
 | k+1,l=>if Ed d l=false then some l else if 18 < (nextL d l).length then none else V6 d k (nextL d l)
theorem Lh (d:List Mp) (l:List Int) (x:Int):nextL d (l++[x])=nextL d l++(if (Xg d x).isEmpty then [x] else Xg d x):=by simp [nextL]
theorem Le (d:List Mp) (l:List Int) (x:Int):Ed d (l++[x])=(Ed d l || !(Xg d x).isEmpty):=by simp [Ed]
theorem Wz {α:Type} {l:List α} {i:Nat} {x:α} (h:l[i]?=some x):l.take (i+1)=l.take i++[x]:=by
 rw [Za,h];rfl
structure Few (T:Tbl):Prop where
 dec:∀ m∈T.dec,m.to_.length≤18
 map:∀ m∈T.map,m.to_.length≤18
 pro:∀ m∈T.pro,m.to_.length≤18
 ext:∀ m∈T.ext,m.to_.length≤18
 rows:T.dec.length≤256∧T.map.length≤256∧T.pro.length≤256∧T.ext.length≤256
theorem Kl {l:List Mp} {N:Nat} (h:∀ m∈l,m.to_.length≤N):∀ c,(Xg l c).length≤N:=by
 intro c
 induction l with
 | nil=>simp [Xg]
 | cons m r ih =>
  unfold Xg
  split
  ·exact h m (by simp)
  exact ih fun m hm=>h m (by simp [hm])
theorem Zxe {d:List Mp} (h:∀ m∈d,m.to_.length≤18) (l:List Int):(nextL d l).length≤18 * l.length:=by
 induction l with
 | nil=>simp [nextL]
 | cons x r ih =>
  have e:nextL d (x::r)=(if (Xg d x).isEmpty then [x] else Xg d x)++nextL d r:=by simp [nextL]
  rw [e,Zs,Zl]
  have:=Kl h x
  split<;>simp<;>omega
theorem Zt8 (w:World) (z:Int) (t:TypeId) (g:Nat) (hg:w.heap.size=g):Xz (w.alloc (.cells #[.int .i64 z] t)) (fun k=>k=g) (.slice (some ⟨g,0,none⟩) 1 1) [z]:=by
 subst hg
 have h1:(w.alloc (.cells #[.int .i64 z] t)).heap[w.heap.size]?=some (.cells #[.int .i64 z] t):=heap_alloc_new w _
 refine ⟨by simp,_,_,rfl,Yo _,by unfold maxLen;omega,fun _=>⟨_,_,rfl,rfl,(Array.getElem?_eq_some_iff.1 h1).1,fun j u hu=>?_⟩⟩
 simp only [World.cell?,h1]
 rw [Nat.zero_add,← hu]
 simp
def Qf (T:Tbl) (c:Int) (w:World) (e:Ending) (w':World):Prop :=
 match V6 T.dec 257 [c] with
 | some l=>∃ v,e=.returned (.tuple #[v,.bool true])∧Xz w' (fun k=>w.heap.size≤k) v l∧Ext w w'
 | none=>e=.returned (.tuple #[.slice none 0 0,.bool false])∧Ext w w'
theorem Bs {S:Nat→Prop} (T:Tbl) (c:Int) (w:World) (h:Xm w S T) (hf:Few T):Calls Tryz.prog 146 #[Wc T,.int .i64 c] w (Qf T c w):=by
 obtain ⟨A9,C9,e9,hl9,hc9⟩:=h.dec.shape
 have h9:=h.dec.ext ((Yl w).alloc (Xf T))
 obtain ⟨n9,hn9⟩:∃ n,T.dec.length=n:=⟨_,rfl⟩
 rw [hn9] at e9 hl9
 rw [e9] at h9
 have Hn9:=Yw hn9
 have E9:=Yw e9
 have H9:=Yw h9
 unfold maxLen at hc9
 clear hn9 e9 h9
 have X0:=Yw ((Yl w).alloc (Xf T))
 have H:=Yw (h.up X0.out)
 have Hb0:=Yw (Xq w T)
 clear h
 have Hf:=Yw hf
 clear hf
 go_enter Tryz.func146,Tryz.ntmps146
 go_wp2_with (refine Xy rfl ?_)
 go_loopw [7,6] (fun o v wr=>∃ (k:Nat) (l:List Int),k≤257∧o=.int .i64 (k:Int)∧V6 T.dec 257 [c]=V6 T.dec (257 - k) l∧l.length≤18∧Xz wr (fun k=>w.heap.size≤k) v l∧Ext (w.alloc (Xf T)) wr) (fun o _ _=>257 - (intOf o).toNat)
 case atStart =>
  exact ⟨0,[c],by omega,rfl,rfl,by simp,Rd.mono (Zt8 (w.alloc (Xf T)) c 3 (w.heap.size+1) (by simp)) (fun k hk _=>by omega),(Yl _).alloc _⟩
 obtain ⟨k,l,hk,rfl,he,hl,hv,hx⟩:=hrel
 obtain ⟨VA,VC,rfl,hvl,hvc⟩:=hv.shape
 obtain ⟨n,hn⟩:∃ n,l.length=n:=⟨_,rfl⟩
 rw [hn] at hvl hl ⊢
 have Hn:=Yw hn
 have Hv:=Yw hv
 have He:=Yw he
 have Hx:=Yw hx
 clear hn hv he hx
 by_cases hlt:k≤256
 ·have hd:decide ((k:Int)≤(256:Int))=true:=Yf (by omega)
  go_wp2_with fail
  rename World=>wo
  have hB:w.heap.size≤wo.heap.size:=Nat.le_trans X0.out.size Hx.out.size
  obtain ⟨B,hBe⟩:∃ B,wo.heap.size=B:=⟨_,rfl⟩
  go_loopw [21,8,9] (fun o u b wr=>∃ j:Nat,j≤n∧o=.int .i64 (j:Int)∧Own Xe wr B u (nextL T.dec (l.take j))∧b=.bool (Ed T.dec (l.take j))∧Ext wo wr) (fun o _ _ _=>n - (intOf o).toNat)
  case atStart=>exact ⟨0,by omega,rfl,Own.nil _ _ _,rfl,Yl _⟩
  obtain ⟨j,hj,rfl,ho,rfl,hxj⟩:=hrel
  obtain ⟨OA,OC,rfl,hol,hoc⟩:=ho.shape
  have hq18:(nextL T.dec (l.take j)).length≤324:=Nat.le_trans (Zxe Hf.out.dec _) (by rw [Zp];omega)
  obtain ⟨q,hq⟩:∃ q,(nextL T.dec (l.take j)).length=q:=⟨_,rfl⟩
  have Hq:=Yw hq
  have Ho:=Yw ho
  rw [hq] at hol hq18 ⊢
  have Hxj:=Yw hxj
  have HxA:=Yw (Hx.out.trans hxj)
  have hBj:B≤wr.heap.size:=by rw [← hBe];exact hxj.size
  have HBj:=Yw hBj
  unfold maxLen at hoc
  clear hq ho hxj hBj
  by_cases hlj:j < n
  ·have hd_j:decide ((j:Int) < (n:Int))=true:=Yf (by omega)
   have i0_j:(0:Int)≤(j:Int):=by omega
   have i1_j:(j:Int) < (n:Int):=by omega
   obtain ⟨x,hs_x⟩:∃ s,(l)[j]?=some s:=⟨(l)[j]'(by have:=Hn.out;omega),Zz _⟩
   obtain ⟨g_x,o_x,c_x,hvv,_,_,_,hgl_x,a0_x⟩:=(Hv.out.ext Hxj.out).get hs_x
   simp only [Ye] at hvv
   obtain ⟨rfl,-,rfl⟩:=hvv
   have Hs_x:=Yw hs_x
   clear hs_x
   have b9:=(Hb0.out.ext HxA.out).at_ 9 (by omega)
   rw [show (Ve T)[9]?=some T.decV from rfl,E9.out] at b9
   have hfa:=Vd (S:=S) (c:=x) H9.out.2
   obtain ⟨FA,FC,ef,fl,fc⟩:=hfa.shape
   obtain ⟨d,hd⟩:∃ d,(Xg T.dec x).length=d:=⟨_,rfl⟩
   have hd18:=Kl Hf.out.dec x
   rw [ef] at hfa
   rw [hd] at ef fl hd18
   have Hd:=Yw hd
   have Hfa:=Yw hfa
   clear hd hfa
   unfold maxLen at fc
   by_cases h0:0 < d
   ·have h1:decide ((0:Int) < (d:Int))=true:=Yf (by omega)
    have h2:decide (0 < d)=true:=Yf h0
    go_wp2_with (first|(go_at_call 111;refine (Xc _ T.dec x _ (H9.out.ext HxA.out)).mono ?_;rintro e w1 ⟨rfl,hx1⟩)|(at_builtin;refine Xx Xe _ _ _ rfl rfl rfl rfl (by rw [← Hq.out];exact Ho.out.ext hx1) rfl (by have:=Hfa.out.ext (HxA.out.trans hx1);rw [Hd.out] at this;exact this) (by rw [Hq.out,Hd.out];omega) (by show 8≤1000;omega) (Nat.le_trans HBj.out hx1.size) ?_;intro A3 n3 c3 w3 hg))
    have Hg:=Yw hg
    have Hx1:=Yw hx1
    have h3:(Xg T.dec x).isEmpty=false:=by cases hh:Xg T.dec x with
     | nil=>have:=Hd.out;rw [hh] at this;simp at this;omega
     | cons _ _=>rfl
    have Hfin:=Yw h3
    clear hg hx1 h3
    go_wp2_with fail
    go_roundw
    case rel =>
     refine ⟨j+1,by omega,by go_num,?_,?_,?_⟩
     ·rw [Wz Hs_x.out,Lh,Hfin.out];exact Hg.out.own
     ·rw [Wz Hs_x.out,Le,Hfin.out];simp
     exact Hg.out.ext wo (Hxj.out.trans Hx1.out) (by rw [hBe];exact Yo _)
    case measure=>simp [intOf];omega
   have h1:decide ((0:Int) < (d:Int))=false:=Yg (by omega)
   have h2:decide (0 < d)=false:=Yg h0
   go_wp2_with (first|(go_at_call 111;refine (Xc _ T.dec x _ (H9.out.ext HxA.out)).mono ?_;rintro e w1 ⟨rfl,hx1⟩)|(at_builtin;refine Xx Xe _ _ _ rfl rfl rfl rfl (by rw [← Hq.out];exact (Ho.out.ext hx1).ext ((Yl _).alloc _)) rfl (X9 w1 x _ _ rfl) (by rw [Hq.out];simp;omega) (by show 8≤1000;omega) (by have:=Nat.le_trans HBj.out hx1.size;simp;omega) ?_;intro A3 n3 c3 w3 hg))
   have Hg:=Yw hg
   have Hx1:=Yw hx1
   have h3:(Xg T.dec x).isEmpty=true:=by cases hh:Xg T.dec x with
    | nil=>rfl
    | cons _ _=>have:=Hd.out;rw [hh] at this;simp at this;omega
   have Hfin:=Yw h3
   clear hg hx1 h3
   go_wp2_with fail
   go_roundw
   case rel =>
    refine ⟨j+1,by omega,by go_num,?_,?_,?_⟩
    ·rw [Wz Hs_x.out,Lh,Hfin.out];exact Hg.out.own
    ·rw [Wz Hs_x.out,Le,Hfin.out];simp
    exact Hg.out.ext wo ((Hxj.out.trans Hx1.out).alloc _) (by rw [hBe];exact Yo _)
   case measure=>simp [intOf];omega
  have hd_j:decide ((j:Int) < (n:Int))=false:=Yg (by omega)
  have ej:l.take j=l:=Zm (by rw [Hn.out];omega)
  rw [ej] at Hq Ho ⊢
  cases hmo:Ed T.dec l
  ·have Hmo:=Yw hmo
   go_wp2_with fail
   go_ret2
   unfold Qf
   rw [He.out,show 257 - k=(256 - k)+1 by omega,V6,if_pos Hmo.out]
   exact ⟨.slice VA n VC,rfl,by rw [← Hn.out];exact Hv.out.ext Hxj.out,X0.out.trans HxA.out⟩
  have Hmo:=Yw hmo
  by_cases h18:18 < q
  ·have h1:decide ((18:Int) < (q:Int))=true:=Yf (by omega)
   go_wp2_with fail
   go_ret2
   unfold Qf
   rw [He.out,show 257 - k=(256 - k)+1 by omega,V6,if_neg (by rw [Hmo.out];simp),if_pos (by rw [Hq.out];exact h18)]
   exact ⟨rfl,X0.out.trans HxA.out⟩
  have h1:decide ((18:Int) < (q:Int))=false:=Yg (by omega)
  go_wp2_with fail
  go_roundw
  case rel =>
   refine ⟨k+1,nextL T.dec l,by omega,by go_num,?_,?_,?_,HxA.out⟩
   ·rw [He.out,show 257 - k=(256 - k)+1 by omega,V6,if_neg (by rw [Hmo.out];simp),if_neg (by rw [Hq.out];exact h18)]
    rw [show 257 - (k+1)=256 - k by omega]
   ·rw [Hq.out];omega
   rw [← Hq.out]
   exact Rd.mono Ho.out.rd fun b hb _=>by omega
  case measure=>simp [intOf];omega
 have hd:decide ((k:Int)≤(256:Int))=false:=Yg (by omega)
 have Hnone:=Yw (show V6 T.dec 257 [c]=none by rw [He.out,show 257 - k=0 by omega];rfl)
 go_wp2_with fail
 go_ret2
 unfold Qf
 rw [Hnone.out]
 exact ⟨rfl,X0.out.trans Hx.out⟩
structure Xs (w:World) (b:Nat) (cs:List Value):Prop where
 lt:b < w.heap.size
 fz:∀ k,w.frozen? ⟨b,k,none⟩=false
 at_:∀ k,k < cs.length→w.cell? ⟨b,k,none⟩=cs[k]?
theorem Xs.chg {U:Nat→Prop} {w w':World} {b:Nat} {cs:List Value} (h:Xs w b cs) (c:Chg U w w') (hb:¬ U b):Xs w' b cs :=
 ⟨Nat.lt_of_lt_of_le h.lt c.size,fun k=>(c.frozen (p:=⟨b,k,none⟩) h.lt hb).trans (h.fz k),fun k hk=>(c.cell (p:=⟨b,k,none⟩) h.lt hb).trans (h.at_ k hk)⟩
theorem Xs.ext {w w':World} {b:Nat} {cs:List Value} (h:Xs w b cs) (x:Ext w w'):Xs w' b cs:=h.chg (x.chg fun _=>False) fun h=>h
theorem Xs.new (w:World) (cs:Array Value) (t:TypeId):Xs (w.alloc (.cells cs t)) w.heap.size cs.toList :=
 ⟨by simp,fun k=>by go_simp,fun k hk=>by go_simp⟩
theorem Xs.set {w:World} {b:Nat} {cs:List Value} (h:Xs w b cs) {j:Nat} (hj:j < cs.length) (u:Value):Xs (w.setCell ⟨b,j,none⟩ u) b (cs.set j u):=by
 obtain ⟨h1,h2,h3⟩:=h
 have hc:=h3 j hj
 rw [Zz hj] at hc
 refine ⟨by simpa [World.setCell] using h1,fun k=>?_,fun k hk=>?_⟩
 ·have:=h2 k
  simp only [World.frozen?,World.setCell] at this ⊢
  rw [Array.getElem?_modify]
  simp only [if_true]
  cases hh:w.heap[b]? with
  | none=>rfl
  | some o=>cases o<;>simp_all
 rw [Zf] at hk
 have hck:=h3 k hk
 rw [Yx]
 by_cases e:j=k
 ·subst e
  rw [if_pos rfl,if_pos hj]
  go_simp
 rw [if_neg e,← hck]
 go_simp
theorem Chg.thenB {S T:Nat→Prop} {a b c:World} (h:Chg S a b) (k:Chg T b c) (hT:∀ i,i < a.heap.size→T i→S i):Chg S a c :=
 ⟨k.os.trans h.os,k.tape.trans h.tape,k.output.trans h.output,Nat.le_trans h.size k.size,fun i hi hS=>(k.block i (Nat.lt_of_lt_of_le hi h.size) (fun ht=>hS (hT i hi ht))).trans (h.block i hi hS)⟩
theorem Xs.drew {w:World} {b:Nat} {cs:List Value} (h:Xs w b cs):Xs w.drew b cs:=h.ext (Yl w).drew
theorem Xs.far {w:World} {b c j:Nat} {cs:List Value} (h:Xs w b cs) (hne:b≠c) (u:Value):Xs (w.setCell ⟨c,j,none⟩ u) b cs:=h.chg ((Chg.refl (· = c) w).setCell (p:=⟨c,j,none⟩) (.inl rfl) u) hne
theorem RdE.far {α:Type} {E:Enc α} {w:World} {S:Nat→Prop} {v:Value} {l:List α} {c j:Nat} (h:RdE E w S v l) (hS:¬ S c) (u:Value):RdE E (w.setCell ⟨c,j,none⟩ u) S v l:=Rd.chg h ((Chg.refl (· = c) w).setCell (p:=⟨c,j,none⟩) (.inl rfl) u) (fun k hk e=>hS (e ▸ hk))
theorem Own.far {α:Type} {E:Enc α} {w:World} {B:Nat} {v:Value} {l:List α} {c j:Nat} (h:Own E w B v l) (hS:v.ownBlock≠some c) (u:Value):Own E (w.setCell ⟨c,j,none⟩ u) B v l:=h.chg ((Chg.refl (· = c) w).setCell (p:=⟨c,j,none⟩) (.inl rfl) u) (fun k hk e=>hS (by rw [hk,e]))
section
theorem Pb {P:Program} {md:Region.Mode} {ops:Array Oper} {Q:Exit→Act→World→Prop}:∀ (fuel:Nat) (listed:Array Bool) (a:Act) (w:World),wpAny P md ops Q fuel listed a w→wpAnyH P md ops Q (fun _=>True) fuel listed a w
 | 0,_,_,_,h=>h
 | fuel+1,_,_,_,h=>⟨h.1,fun i hi=>wpOp_mono (fun a' w' h'=>⟨trivial,Pb fuel _ a' w' h'⟩) (h.2 i hi)⟩
theorem I1 {P:Program} {md:Region.Mode} {ops:Array Oper} {C:World→Prop} {Q:Act→Prop} (hs:Region.noSelect ops=true):∀ (l:List Oper) (k:Nat) (listed:Array Bool) (a:Act),(∀ j,j < l.length→l[j]?=ops[k+j]?) →
 Region.lexFrom md ops l.length k listed=true→wpQuiet P ops C Q l a→wpAnyQ P md ops C Q l.length listed a
 | [],_,_,_,_,hB,h=>⟨by simpa [Region.lexFrom] using hB,h⟩
 | o::l,k,listed,a,hl,hB,h=>by
  have h0:ops[k]?=some o:=by simpa using (hl 0 (by simp)).symm
  simp only [Zl,Region.lexFrom,Bool.and_eq_true] at hB
  obtain ⟨⟨hr,hf⟩,hB'⟩:=hB
  have hst:qOp P ops C k (wpQuiet P ops C Q l) a:=by unfold qOp;simp only [h0];exact h
  obtain ⟨v,hy,hK⟩:=yieldsIn_of_qOp h0 hst
  exact wpAnyQ_first h0 (Region.noSelect_spec hs) l.length listed a (Region.free_spec h0 hf) (by simpa using hr) hy
   (I1 hs l (k+1) _ _ (fun j hj=>by have:=hl (j+1) (by simpa using hj);simpa [Nat.add_assoc,Nat.add_comm 1 j] using this) hB' hK)
def Gd (ops:Array Oper):Nat→Nat→Nat→Bool
 | 0,_,_=>false
 | f+1,j,i=>match ops[j]? with
  | some o=>o.after.any fun e=>Region.binds .any e && (e.on == i || Gd ops f e.on i)
  | none=>false
def Zzn (ops:Array Oper) (k:Nat):Bool :=
 (List.range ops.size).all fun j=>((ops[j]?).map fun o=>(o.after.all fun e=>!Region.binds .any e || decide (e.on < j)) && (decide (j < k) || (((List.range k).all fun i=>Gd ops 7 j i) && (j == k || o.after.any fun e=>Region.binds .any e && e.on == j - 1)))).getD true
def Closed (ops:Array Oper) (listed:Array Bool):Prop:=∀ j o,ops[j]?=some o→listed.getD j true=true→∀ e∈o.after,Region.binds .any e=true→listed.getD e.on true=true
def J9 (listed:Array Bool) (k:Nat):Array Bool:=listed.mapIdx fun j b=>b || decide (k≤j)
def Vq (P:Program) (ops:Array Oper) (Q:Exit→Act→World→Prop) (k:Nat):Exit→Act→World→Prop
 | .normal,a,w=>wpList P ops Q (ops.toList.drop k) a w
 | e,a,w=>Q e a w
section
variable {P:Program} {ops:Array Oper} {Q:Exit→Act→World→Prop} {S:World→Prop} {k:Nat}
theorem Ti {o:Oper} {a:Act} {w:World} {K:Act→World→Prop} (h:o.wp P a w K (Vq P ops Q k)):o.wp P a w K Q:=by
 unfold Oper.wp at *
 generalize (execOp a.eval o).run P w=r at *
 cases r with
 | ok n w' =>
  cases n<;>simp only [Oper.upon] at h ⊢ <;>
   first
    | exact h
    | exact Calls.mono h (fun e w'' he=>by
     cases e with
     | returned v=>exact he
     | panicked c=>exact he
     | outgrown=>obtain ⟨a,w,hq⟩:=he;exact ⟨a,w,hq⟩)
    | exact Rows.mono h (fun _ _ he=>he)
 | halt x w'=>cases x<;>simp only [Oper.upon] at h ⊢<;>exact h
theorem Md {i:Nat} {a:Act} {w:World} {K:Act→World→Prop} (h:wpOp P ops (Vq P ops Q k) i K a w):wpOp P ops Q i K a w:=by
 unfold wpOp at *
 split
 ·simpa [*] using h
 rename_i o ho
 simp only [ho] at h
 split
 ·rename_i hw
  simp only [hw,if_true] at h
  rcases h with h | ⟨h1,a',w',h2⟩
  ·exact .inl (Ti h)
  exact .inr ⟨h1,a',w',h2⟩
 rename_i hw;simp only [hw] at h;exact h
theorem Gy {listed:Array Bool} {j:Nat} {d:Bool}:(J9 listed k).getD j d=if j < listed.size then listed.getD j d || decide (k≤j) else d:=by
 unfold J9
 simp only [Array.getD_eq_getD_getElem?,Array.getElem?_mapIdx]
 by_cases h:j < listed.size
 ·simp [h]
 simp [h]
theorem Zzv {listed:Array Bool} {i:Nat}:J9 (listed.setIfInBounds i true) k=(J9 listed k).setIfInBounds i true:=by
 unfold J9
 apply Array.ext_getElem?
 intro j
 simp only [Array.getElem?_mapIdx,Array.getElem?_setIfInBounds,Array.size_mapIdx]
 by_cases h:i=j
 ·subst h
  by_cases h2:i < listed.size<;>simp [h2]
 simp [h]
theorem Er {listed:Array Bool} (hc:Closed ops listed) (b1:∀ j o,ops[j]?=some o→∀ e∈o.after,Region.binds .any e=true→e.on < j) (hs:listed.size=ops.size):∀ (f:Nat) {j i:Nat} {o:Oper},Gd ops f j i=true→ops[j]?=some o→(∀ e∈o.after,Region.binds .any e=true→listed.getD e.on false=true)→listed.getD i false=true
 | 0,_,_,_,h,_,_=>by simp [Gd] at h
 | f+1,j,i,o,h,ho,hl=>by
  unfold Gd at h
  rw [ho] at h
  simp only [Array.any_eq_true'] at h
  obtain ⟨e,he,h1⟩:=h
  simp only [Bool.and_eq_true,Bool.or_eq_true,beq_iff_eq] at h1
  obtain ⟨hb,h1⟩:=h1
  have h2:=hl e he hb
  rcases h1 with h1|h1
  ·rw [← h1];exact h2
  cases f with
  | zero=>simp [Gd] at h1
  | succ f =>
   obtain ⟨o2,ho2⟩:∃ o2,ops[e.on]?=some o2:=by
    cases h3:ops[e.on]? with
    | some o2=>exact ⟨o2,rfl⟩
    | none=>unfold Gd at h1;rw [h3] at h1;simp at h1
   refine Er hc b1 hs (f+1) h1 ho2 fun e2 he2 hb2=>?_
   have h3:listed.getD e.on true=true:=by
    simp only [Array.getD_eq_getD_getElem?] at h2 ⊢
    cases h4:listed[e.on]? with
    | none=>rfl
    | some b=>rw [h4] at h2;exact h2
   have h5:=hc e.on o2 ho2 h3 e2 he2 hb2
   simp only [Array.getD_eq_getD_getElem?] at h5 h2 ⊢
   cases h4:listed[e2.on]? with
   | some b=>rw [h4] at h5;exact h5
   | none =>
    have h6:=b1 e.on o2 ho2 e2 he2 hb2
    have h7:=(Array.getElem?_eq_some_iff.1 ho2).1
    rw [Array.getElem?_eq_getElem (by omega)] at h4
    simp at h4
theorem Closed.set {listed:Array Bool} {i:Nat} (hc:Closed ops listed) (hi:i∈Region.ready .any ops listed) (b1:∀ j o,ops[j]?=some o→∀ e∈o.after,Region.binds .any e=true→e.on < j) (hs:listed.size=ops.size):Closed ops (listed.setIfInBounds i true):=by
 obtain ⟨i1,i2,oi,i3,i4⟩:=mem_ready.1 hi
 intro j o ho hl e he hb
 rw [Jt]
 by_cases e1:i=e.on
 ·rw [if_pos ⟨e1,by rw [hs,← e1];exact i1⟩]
 rw [if_neg fun h=>e1 h.1]
 rw [Jt] at hl
 by_cases e2:i=j
 ·subst e2
  rw [i3] at ho
  obtain rfl:=Option.some.inj ho
  have h5:=i4 e he hb
  have h6:=b1 i _ i3 e he hb
  simp only [Array.getD_eq_getD_getElem?] at h5 ⊢
  rw [Array.getElem?_eq_getElem (by omega)] at h5 ⊢
  exact h5
 rw [if_neg fun h=>e2 h.1] at hl
 exact hc j o ho hl e he hb
theorem Ml (hB:Zzn ops k=true):(∀ j o,ops[j]?=some o→∀ e∈o.after,Region.binds .any e=true→e.on < j)∧(∀ j,k≤j→j < ops.size→∀ i,i < k→Gd ops 7 j i=true)∧∀ j o,k < j→ops[j]?=some o→∃ e∈o.after,Region.binds .any e=true∧e.on=j - 1:=by
 have key:∀ j o,ops[j]?=some o→(o.after.all fun e=>!Region.binds .any e || decide (e.on < j))=true∧(decide (j < k) || (((List.range k).all fun i=>Gd ops 7 j i) && (j == k || o.after.any fun e=>Region.binds .any e && e.on == j - 1)))=true:=fun j o ho=>by
  simp only [Zzn,List.all_eq_true,List.mem_range] at hB
  have h:=hB j (Array.getElem?_eq_some_iff.1 ho).1
  rw [ho] at h
  simpa only [Option.map_some,Option.getD_some,Bool.and_eq_true] using h
 refine ⟨fun j o ho e he hb=>?_,fun j hj hjn i hi=>?_,fun j o hj ho=>?_⟩
 ·have h:=(key j o ho).1
  rw [Array.all_eq_true_iff_forall_mem] at h
  have:=h e he
  rw [hb] at this
  simpa using this
 ·have h:=(key j _ (Array.getElem?_eq_getElem hjn)).2
  rw [Yg (by omega),Bool.false_or,Bool.and_eq_true,List.all_eq_true] at h
  exact h.1 i (List.mem_range.2 hi)
 have h:=(key j o ho).2
 rw [Yg (by omega),Bool.false_or,Bool.and_eq_true,show (j == k)=false by simp;omega,Bool.false_or] at h
 have:=h.2
 rw [Array.any_eq_true'] at this
 obtain ⟨e,he,h1⟩:=this
 simp only [Bool.and_eq_true,beq_iff_eq] at h1
 exact ⟨e,he,h1⟩
theorem Zxj (hB:Zzn ops k=true):∀ (d t f:Nat) (listed:Array Bool) (a:Act) (w:World),t+d=ops.size→k≤t→d≤f→listed.size=ops.size→(∀ j,j < ops.size→listed.getD j true=decide (j < t))→wpList P ops Q (ops.toList.drop t) a w→wpAny P .any ops Q f listed a w:=by
 obtain ⟨b1,b2,b3⟩:=Ml hB
 intro d
 induction d with
 | zero =>
  intro t f listed a w ht hk hf hs hl h
  have hr:Region.ready .any ops listed=[]:=by
   rw [List.eq_nil_iff_forall_not_mem]
   intro j hj
   obtain ⟨j1,j2,_⟩:=mem_ready.1 hj
   rw [hl j j1] at j2
   simp at j2;omega
  rw [List.drop_eq_nil_of_le (by simp;omega)] at h
  cases f with
  | zero=>exact ⟨hr,h⟩
  | succ f=>exact ⟨fun _=>h,by rw [hr];simp⟩
 | succ d ih =>
  intro t f listed a w ht hk hf hs hl h
  obtain ⟨f,rfl⟩:∃ g,f=g+1:=⟨f - 1,by omega⟩
  have htn:t < ops.size:=by omega
  have ho:ops[t]?=some ops[t]:=Array.getElem?_eq_getElem htn
  have hin:t∈Region.ready .any ops listed:=mem_ready.2 ⟨htn,by rw [hl t htn];simp,ops[t],ho,fun e he hb=>by
   have h1:=b1 t _ ho e he hb
   have h2:=hl e.on (by omega)
   rw [Yf h1] at h2
   simp only [Array.getD_eq_getD_getElem?] at h2 ⊢
   rw [Array.getElem?_eq_getElem (by omega)] at h2 ⊢
   exact h2⟩
  refine ⟨fun h0=>by rw [h0] at hin;simp at hin,fun i hi=>?_⟩
  obtain ⟨i1,i2,o,i3,i4⟩:=mem_ready.1 hi
  rw [hl i i1] at i2
  have hit:t≤i:=by simpa using i2
  have:i=t:=by
   rcases Nat.lt_or_ge t i with hlt|hge
   ·obtain ⟨e,he,hb,hon⟩:=b3 i o (by omega) i3
    have h5:=i4 e he hb
    have h6:=hl (i - 1) (by omega)
    rw [Yg (by omega)] at h6
    rw [hon] at h5
    simp only [Array.getD_eq_getD_getElem?] at h5 h6
    rw [Array.getElem?_eq_getElem (by omega)] at h5 h6
    simp at h5 h6
    rw [h5] at h6;simp at h6
   omega
  subst this
  have hdrop:ops.toList.drop i=ops[i]::ops.toList.drop (i+1):=by
   rw [List.drop_eq_getElem_cons (by simpa using htn)];simp
  rw [hdrop] at h
  have hK:∀ a' w',wpList P ops Q (ops.toList.drop (i+1)) a' w'→wpAny P .any ops Q f (listed.setIfInBounds i true) a' w':=fun a' w' h' =>
   ih (i+1) f _ a' w' (by omega) (by omega) (by omega) (by simpa using hs) (fun j hj=>by
    rw [Jt]
    by_cases e:i=j
    ·subst e;rw [if_pos ⟨rfl,by omega⟩];simp
    rw [if_neg (fun h=>e h.1),hl j hj]
    by_cases h1:j < i
    ·rw [Yf h1,Yf (by omega)]
    rw [Yg h1,Yg (by omega)]) h'
  have h2:wpOp P ops Q i (wpList P ops Q (ops.toList.drop (i+1))) a w:=by
   unfold wpOp
   rw [ho]
   exact h
  exact wpOp_mono hK h2
theorem Zze (hB:Zzn ops k=true) (hk:k≤ops.size):∀ (fuel:Nat) (listed:Array Bool) (a:Act) (w:World),listed.size=ops.size→(∀ j,k≤j→j < ops.size→listed.getD j true=false)→Closed ops listed →
 wpAnyH P .any ops (Vq P ops Q k) S fuel (J9 listed k) a w→wpAny P .any ops Q (fuel+(ops.size - k)) listed a w:=by
 obtain ⟨b1,b2,b3⟩:=Ml hB
 have all:∀ (listed:Array Bool) (a:Act) (w:World) (f:Nat),listed.size=ops.size→(∀ j,k≤j→j < ops.size→listed.getD j true=false)→(∀ j,j < k→listed.getD j true=true)→ops.size - k≤f→wpList P ops Q (ops.toList.drop k) a w→wpAny P .any ops Q f listed a w:=fun listed a w f hs hn hy hf h =>
  Zxj hB (ops.size - k) k f listed a w (by omega) (Yo _) hf hs (fun j hj=>by
   by_cases h1:j < k
   ·rw [hy j h1,Yf h1]
   rw [hn j (by omega) hj,Yg h1]) h
 have least:∀ listed:Array Bool,listed.size=ops.size→∀ j,j < k→listed.getD j true=false→∃ i,i < k∧i∈Region.ready .any ops listed:=fun listed hs j=>by
  induction j using Nat.strongRecOn with
  | _ j ih =>
   intro hj hf
   by_cases hex:∃ i,i < j∧listed.getD i true=false
   ·obtain ⟨i,h1,h2⟩:=hex
    exact ih i h1 (by omega) h2
   have ho:ops[j]?=some ops[j]:=Array.getElem?_eq_getElem (by omega)
   refine ⟨j,hj,mem_ready.2 ⟨by omega,hf,ops[j],ho,fun e he hb=>?_⟩⟩
   have h1:=b1 j _ ho e he hb
   have h2:listed.getD e.on true=true:=by
    cases h3:listed.getD e.on true with
    | true=>rfl
    | false=>exact absurd ⟨e.on,h1,h3⟩ hex
   simp only [Array.getD_eq_getD_getElem?] at h2 ⊢
   rw [Array.getElem?_eq_getElem (by omega)] at h2 ⊢
   exact h2
 have up:∀ (listed:Array Bool) i,listed.size=ops.size→i < k→i∈Region.ready .any ops listed→i∈Region.ready .any ops (J9 listed k):=fun listed i hs hik hi=>by
  obtain ⟨h1,h2,o,h3,h4⟩:=mem_ready.1 hi
  refine mem_ready.2 ⟨h1,by rw [Gy,if_pos (by omega),h2,Yg (by omega)];rfl,o,h3,fun e he hb=>?_⟩
  rw [Gy,if_pos (by have:=b1 i o h3 e he hb;omega),h4 e he hb];rfl
 intro fuel
 induction fuel with
 | zero =>
  rintro listed a w hs hn hc ⟨hr,hq⟩
  refine all listed a w _ hs hn (fun j hj=>?_) (by omega) hq
  cases h:listed.getD j true with
  | true=>rfl
  | false =>
   obtain ⟨i,h1,h2⟩:=least listed hs j hj h
   have:=up listed i hs h1 h2
   rw [hr] at this;simp at this
 | succ fuel ih =>
  rintro listed a w hs hn hc ⟨hr,hq⟩
  by_cases hex:∃ j,j < k∧listed.getD j true=false
  ·obtain ⟨j,hj,hf⟩:=hex
   obtain ⟨i0,h1,h2⟩:=least listed hs j hj hf
   rw [show fuel+1+(ops.size - k)=(fuel+(ops.size - k))+1 by omega]
   refine ⟨fun h0=>by rw [h0] at h2;simp at h2,fun i hi=>?_⟩
   have hik:i < k:=by
    rcases Nat.lt_or_ge i k with h|h
    ·exact h
    obtain ⟨i1,i2,o,i3,i4⟩:=mem_ready.1 hi
    have h5:=Er hc b1 hs _ (b2 i h (by omega) j hj) i3 i4
    simp only [Array.getD_eq_getD_getElem?] at h5 hf
    rw [Array.getElem?_eq_getElem (by omega)] at h5 hf
    simp at h5 hf
    rw [h5] at hf;simp at hf
   have h3:=hq i (up listed i hs hik hi)
   refine wpOp_mono (fun a' w' h=>?_) (Md h3)
   refine ih (listed.setIfInBounds i true) a' w' (by simpa using hs) (fun j' hj' hj2=>by rw [Jt,if_neg (fun h=>by omega)];exact hn j' hj' hj2) (hc.set hi (fun j o ho e he hb=>b1 j o ho e he hb) hs) ?_
   rw [Zzv]
   exact h.2
  have hy:∀ j,j < k→listed.getD j true=true:=fun j hj=>by
   cases h:listed.getD j true with
   | true=>rfl
   | false=>exact absurd ⟨j,hj,h⟩ hex
  refine all listed a w _ hs hn hy (by omega) (hr ?_)
  rw [List.eq_nil_iff_forall_not_mem]
  intro j hj
  obtain ⟨j1,j2,_⟩:=mem_ready.1 hj
  rw [Gy,if_pos (by omega)] at j2
  by_cases h1:j < k
  ·rw [hy j h1] at j2;simp at j2
  rw [Yf (by omega)] at j2;simp at j2
end
theorem Vv {P:Program} {id:Nat} {Q:Exit→Act→World→Prop} {S:World→Prop} {a:Act} {w:World} {l:List Oper} (k n:Nat) (hn:l.length=n) (hk:k≤n) (hm:P.follows .mixedOrders=true) (hB:Zzn l.toArray k=true)
 (h:wpAnyH P .any l.toArray (Vq P l.toArray Q k) S k (J9 (Array.replicate n false) k) a w.drew):(Code.region id l.toArray true).wp P Q a w:=by
 refine wp_region_any hm ?_
 have hsz:l.toArray.size=n:=by simpa using hn
 have:=Zze (P:=P) (Q:=Q) (S:=S) hB (by omega) k (Array.replicate n false) a w.drew (by simp [hn]) (fun j _ hj=>by simp at hj;simp [Array.getD_eq_getD_getElem?,hn ▸ hj]) (fun j o ho hl=>by
  have hjn:=(Array.getElem?_eq_some_iff.1 ho).1
  rw [hsz] at hjn
  simp [Array.getD_eq_getD_getElem?,hjn] at hl) h
 rw [hsz] at this ⊢
 rw [show k+(n - k)=n by omega] at this
 exact this
theorem Xd {P:Program} {id:Nat} {Q:Exit→Act→World→Prop} {a:Act} {w:World} {l:List Oper} (k n:Nat) (hn:l.length=n) (hk:k≤n) (hm:P.follows .mixedOrders=true) (hB:Zzn l.toArray k=true) (hL:(Region.noSelect l.toArray && Region.lexFrom .any l.toArray k 0 (J9 (Array.replicate n false) k))=true)
 (h:wpQuiet P l.toArray (fun w'=>∃ p:Wj,w'=later w p.n p.os) (fun a'=>∀ w',Ext w w'→wpList P l.toArray Q (l.drop k) a' w') (l.take k) a):(Code.region id l.toArray true).wp P Q a w:=by
 rw [Bool.and_eq_true] at hL
 refine Vv (S:=fun _=>True) k n hn hk hm hB (Pb _ _ _ _ ?_)
 have ht:(l.take k).length=k:=by simp;omega
 have hq:wpAnyQ P .any l.toArray (fun w'=>∃ p:Wj,w'=later w p.n p.os) (fun a'=>∀ w',Ext w w'→wpList P l.toArray Q (l.drop k) a' w') k (J9 (Array.replicate n false) k) a:=by
  have:=I1 (P:=P) (md:=.any) hL.1 (l.take k) 0 (J9 (Array.replicate n false) k) a (fun j hj=>by rw [ht] at hj;simp [hj]) (by rw [ht];exact hL.2) h
  rwa [ht] at this
 refine wpAny_of_quiet (C:=fun w'=>∃ p:Wj,w'=later w p.n p.os) (Q:=fun a'=>∀ w',Ext w w'→wpList P l.toArray Q (l.drop k) a' w') (fun a' w' ⟨p,hp⟩ hq=>?_) _ _ _ _ ⟨⟨w.drawn+1,#[]⟩,by rw [Jn];rfl⟩ hq
 exact hq w' ⟨p.n,p.os,hp⟩
section
variable {P:Program} {ops:Array Oper} {Q:Exit→Act→World→Prop} {S:World→Prop}
def J8 (P:Program) (ops:Array Oper) (S:World→Prop) (Q:Act→Prop):List Oper→Act→Prop
 | [],a=>Q a
 | o::l,a=>∃ v,YieldsIf P ops S o v a∧J8 P ops S Q l (a.put o.dst v)
theorem Xt {Q:Act→Prop} {a:Act} (h:Q a):J8 P ops S Q [] a:=h
theorem Xu {Q:Act→Prop} {o:Oper} {l:List Oper} {a:Act} {v:Value} (hw:Region.wanted o (yielded ops a.tmps)=true) (hv:∀ w,S w→(execOp a.eval o).run P w=.ok (.value v) w) (h:J8 P ops S Q l (a.put o.dst v)):J8 P ops S Q (o::l) a :=
 ⟨v,.inl ⟨hw,hv⟩,h⟩
theorem Vj {Q:Act→Prop} {o:Oper} {l:List Oper} {a:Act} (hw:Region.wanted o (yielded ops a.tmps)=false) (h:J8 P ops S Q l (a.put o.dst undef)):J8 P ops S Q (o::l) a:=⟨undef,.inr ⟨hw,rfl⟩,h⟩
def I5:Array Bool→List Nat→Array Bool
 | s,[]=>s
 | s,i::r=>I5 (s.setIfInBounds i true) r
def O4 (ops:Array Oper):Array Bool→List Nat→Bool
 | _,[]=>true
 | s,i::r=>((Region.ready .any ops s).contains i && Region.free .any ops s i && (ops[i]?).isSome) && O4 ops (s.setIfInBounds i true) r
theorem La (hs:Region.noSelect ops=true) (hQ:∀ c a d v w,Q (.panic c) (a.put d v) w→Q (.panic c) a w) {w:World} (hS:S w) (k:Nat):∀ (idx:List Nat) (listed:Array Bool) (a:Act),O4 ops listed idx=true →
 J8 P ops S (fun a'=>wpAnyH P .any ops Q S k (I5 listed idx) a' w) (idx.filterMap (ops[·]?)) a→wpAnyH P .any ops Q S (k+idx.length) listed a w
 | [],_,_,_,h=>h
 | i::r,listed,a,hB,h=>by
  simp only [O4,Bool.and_eq_true] at hB
  obtain ⟨⟨⟨h1,h2⟩,h3⟩,h4⟩:=hB
  obtain ⟨o,ho⟩:=Option.isSome_iff_exists.1 h3
  rw [List.filterMap_cons_some ho] at h
  obtain ⟨v,hy,h⟩:=h
  exact wpAnyH_take (fuel:=k+r.length) ho hs h2 h1 (fun c a' w' hq=>hQ c a' _ _ w' hq) hy hS (La hs hQ hS k r _ _ h4 h)
theorem Xw {w:World} {fuel:Nat} {listed:Array Bool} {a:Act} (idx:List Nat) (k:Nat) (hf:fuel=k+idx.length) (hs:Region.noSelect ops=true) (hB:O4 ops listed idx=true) (hQ:∀ c a d v w,Q (.panic c) (a.put d v) w→Q (.panic c) a w) (hS:S w)
 (h:J8 P ops S (fun a'=>wpAnyH P .any ops Q S k (I5 listed idx) a' w) (idx.filterMap (ops[·]?)) a):wpAnyH P .any ops Q S fuel listed a w:=by
 subst hf
 exact La hs hQ hS k idx listed a hB h
def Lat (w:World):World→Prop:=fun w'=>∃ p:Wj,w'=later w p.n p.os
theorem Lat.of {w w':World} (h:Ext w w'):Lat w w':=by
 obtain ⟨d,os,rfl⟩:=h
 exact ⟨⟨d,os⟩,rfl⟩
theorem Lat.drew {w:World}:Lat w w.drew:=Lat.of (Yl w).drew
theorem Zyw {α:Type} (l:List α) {k:Nat} (hk:k≤l.length):(List.range k).filterMap (l.toArray[·]?)=l.take k:=by
 induction k with
 | zero=>simp
 | succ k ih =>
  rw [List.range_succ,List.filterMap_append,ih (by omega),Za]
  simp only [Z3,Zz (show k < l.length by omega),Z1,Z2,Option.toList_some]
theorem J3 {l:List Oper} {w:World} {fuel:Nat} {listed:Array Bool} {a:Act} (k m:Nat) (hf:fuel=m+k) (hk:k≤l.length) (hs:Region.noSelect l.toArray=true) (hB:O4 l.toArray listed (List.range k)=true) (hQ:∀ c a d v w,Q (.panic c) (a.put d v) w→Q (.panic c) a w) (hS:S w)
 (h:J8 P l.toArray S (fun a'=>wpAnyH P .any l.toArray Q S m (I5 listed (List.range k)) a' w) (l.take k) a):wpAnyH P .any l.toArray Q S fuel listed a w:=by
 refine Xw (List.range k) m (by rw [List.length_range];exact hf) hs hB hQ hS ?_
 rw [Zyw l hk]
 exact h
end
end
theorem Xl {S:Nat→Prop} {a:World} {b:Nat} (hb:S b∨a.heap.size≤b):∀ {vs:List Value} {o:Nat} {w:World},Chg S a w→Chg S a (w.setCells b o vs)
 | [],_,_,h=>h
 | v::r,o,w,h=>Xl hb (vs:=r) (h.setCell (p:=⟨b,o,none⟩) hb v)
theorem Zwz {w:World} {S:Nat→Prop} {T:Tbl} (h:Xm w S T):∀ v∈Ve T,v.oneCell'=true:=by
 obtain ⟨_,_,e0,_,_⟩:=h.cat.shape
 obtain ⟨_,_,e1,_,_⟩:=h.cls.shape
 obtain ⟨_,_,e2,_,_⟩:=h.joi.shape
 obtain ⟨_,_,e3,_,_⟩:=h.bid.shape
 obtain ⟨_,_,e4,_,_⟩:=h.scr.shape
 obtain ⟨_,_,e5,_,_⟩:=h.sta.shape
 obtain ⟨_,_,e6,_,_⟩:=h.ign.shape
 obtain ⟨_,_,e7,_,_⟩:=h.ext.shape
 obtain ⟨_,_,e8,_,_⟩:=h.map.shape
 obtain ⟨_,_,e9,_,_⟩:=h.dec.shape
 obtain ⟨_,_,e10,_,_⟩:=h.exc.shape
 obtain ⟨_,_,e11,_,_⟩:=h.pro.shape
 intro v hv
 simp only [Ve,Zg,Zh,or_false] at hv
 rcases hv with rfl|rfl|rfl|rfl|rfl|rfl|rfl|rfl|rfl|rfl|rfl|rfl
 ·rw [e0];rfl
 ·rw [e1];rfl
 ·rw [e2];rfl
 ·rw [e3];rfl
 ·rw [e4];rfl
 ·rw [e5];rfl
 ·rw [e6];rfl
 ·rw [e7];rfl
 ·rw [e8];rfl
 ·rw [e9];rfl
 ·rw [e10];rfl
 rw [e11];rfl
theorem Xs.there {w:World} {b o n:Nat} {cs:List Value} (h:Xs w b cs) (hn:o+n≤cs.length):w.there b o n:=fun j hj =>
 ⟨by rw [h.at_ (o+j) (by omega),Zz (by omega)];rfl,h.fz _⟩
theorem Xs.mid {w:World} {b o:Nat} {cs vs cs':List Value} (h:Xs w b cs) (ho:o+vs.length≤cs.length) (he:cs'=cs.take o++(vs++cs.drop (o+vs.length))):Xs (w.setCells b o vs) b cs':=by
 subst he
 refine ⟨Nat.lt_of_lt_of_le h.lt (Xl (S:=fun _=>True) (.inl trivial) (Chg.refl _ w)).size,fun k=>by rw [World.frozen?_setCells];exact h.fz k,fun k hk=>?_⟩
 have hl:(cs.take o).length=o:=by simp;omega
 by_cases h1:k < o
 ·rw [World.cell?_setCells_out b vs o w ⟨b,k,none⟩ (fun _ _=>.inl h1),h.at_ k (by omega),Ze (by omega),List.getElem?_take_of_lt h1]
 by_cases h2:k < o+vs.length
 ·have e:=World.cell?_setCells_in b vs o w (fun j hj=>((h.there ho) j hj).1) (k - o) (by omega)
  rw [show o+(k - o)=k by omega] at e
  rw [e,Zd (by omega),hl,Ze (by omega),Zz (by omega)]
 rw [World.cell?_setCells_out b vs o w ⟨b,k,none⟩ (fun _ _=>.inr (by simp only;omega)),Zd (by omega),hl,Zd (by omega),Yz]
 rw [h.at_ k (by simp at hk;omega)]
 congr 1;omega
def Zqy (s:ByteArray):Nat→List Int→Nat→List Int×Nat
 | 0,acc,p=>(acc,p)
 | f+1,acc,p=>if p < s.size∧0 < Kc (s.extract p s.size) then Zqy s f (acc++[Lf (s.extract p s.size)]) (p+Kc (s.extract p s.size)) else (acc,p)
def dec (s:ByteArray):List Int×Nat:=Zqy s (s.size+1) [] 0
theorem ext_size (s:ByteArray) {p:Nat} (_:p≤s.size):(s.extract p s.size).size=s.size - p:=by simp
def Zql (s:ByteArray) (w:World) (e:Ending) (w':World):Prop:=∃ v,e=.returned (.tuple #[v,.int .i64 ((dec s).2:Int)])∧RdE Xe w' (fun k=>w.heap.size≤k) v (dec s).1∧(dec s).1.length≤4096∧(dec s).2≤s.size∧Ext w w'
theorem decode_any (s:ByteArray) (hs:s.size≤4096) (w:World):Calls Tryz.prog 224 #[.string s] w (Zql s w):=by
 go_enter Tryz.func224,Tryz.ntmps224
 go_wp2_with fail
 go_loopw [5,4] (fun o v wr=>∃ (f p:Nat) (l:List Int),o=.int .i64 (p:Int)∧Aside (dec s=Zqy s f l p)∧s.size+1≤f+p∧p≤s.size∧l.length≤p∧Own Xe wr w.heap.size v l∧Ext w wr) (fun o _ _=>s.size - (intOf o).toNat)
 case atStart=>exact ⟨s.size+1,0,[],rfl,rfl,by omega,by omega,by simp,Own.nil _ _ _,Yl _⟩
 obtain ⟨f,p,l,rfl,he,hf,hp,hl,ho,hx⟩:=hrel
 have He:=Yw he.out
 have Ho:=Yw ho
 have Hx:=Yw hx
 obtain ⟨A,C,rfl,hlc,hC⟩:=ho.shape
 obtain ⟨n,hn⟩:∃ n,l.length=n:=⟨_,rfl⟩
 rw [hn] at hl hlc ⊢
 have Hn:=Yw hn
 unfold maxLen at hC
 clear he ho hx hn
 obtain ⟨f',rfl⟩:∃ g,f=g+1:=⟨f - 1,by omega⟩
 by_cases hlt:p < s.size
 ·have d1:decide ((p:Int) < (s.size:Int))=true:=Yf (by omega)
  have d2:decide (p < s.size)=true:=Yf hlt
  have i0:(0:Int)≤(p:Int):=by omega
  have i1:(p:Int)≤(s.size:Int):=by omega
  have hle:=Zv6 (s.extract p s.size)
  rw [ext_size s hp] at hle
  obtain ⟨N,hN⟩:∃ N,Kc (s.extract p s.size)=N:=⟨_,rfl⟩
  rw [hN] at hle
  have HN:=Yw hN
  have hes:=ext_size s hp
  have Hes:=Yw hes
  clear hN hes
  by_cases h0:N=0
  ·have Hd:=Yw (show dec s=(l,p) by rw [He.out,Zqy,if_neg (by rw [HN.out,h0];simp)])
   have q1:((N:Int) == 0)=true:=by simp;omega
   have q2:(N == 0)=true:=by simp;omega
   have q3:decide (N=0)=true:=Yf h0
   clear h0
   go_wp2_with (go_at_call 246;refine (first_any _ (by rw [Hes.out];unfold maxLen;omega) _).mono ?_;rintro e w1 ⟨rfl,hx1⟩;rw [HN.out])
   go_ret2
   refine ⟨.slice A n C,?_,?_,?_,?_,Hx.out.trans hx1⟩
   ·rw [Hd.out];rfl
   ·rw [Hd.out,← Hn.out];exact (Ho.out.ext hx1).rd
   ·rw [Hd.out];show l.length≤4096;rw [Hn.out];omega
   rw [Hd.out];exact hp
  have q1:((N:Int) == 0)=false:=by simp;omega
  have q2:(N == 0)=false:=by simp;omega
  have q3:decide (N=0)=false:=Yg h0
  go_wp2_with (first|(go_at_call 246;refine (first_any _ (by rw [Hes.out];unfold maxLen;omega) _).mono ?_;rintro e w1 ⟨rfl,hx1⟩;rw [HN.out])|(at_builtin;refine Xx Xe _ _ _ rfl rfl rfl rfl (by rw [← Hn.out];exact (Ho.out.ext hx1).ext ((Yl _).alloc _)) rfl (X9 w1 (Lf (s.extract p s.size)) _ _ rfl) (by rw [Hn.out];simp;omega) (by show 8≤1000;omega) (by have:=Nat.le_trans Hx.out.size hx1.size;simp;omega) ?_;intro A3 n3 c3 w3 hg))
  have Hd:=Yw (show dec s=Zqy s f' (l++[Lf (s.extract p s.size)]) (p+N) by rw [He.out,Zqy,if_pos ⟨hlt,by rw [HN.out];omega⟩,HN.out])
  have Hg:=Yw hg
  have Hx3:=Yw (hg.ext w ((Hx.out.trans hx1).alloc _) (Yo _))
  clear hg
  go_wp2_with fail
  go_roundw
  case rel =>
   refine ⟨f',p+N,l++[Lf (s.extract p s.size)],by go_num,Hd.out,by omega,by omega,?_,Hg.out.own,Hx3.out⟩
   rw [Zs,Hn.out];simp;omega
  case measure=>simp [intOf];omega
 have d1:decide ((p:Int) < (s.size:Int))=false:=Yg (by omega)
 have d2:decide (p < s.size)=false:=Yg hlt
 have Hd:=Yw (show dec s=(l,p) by rw [He.out,Zqy,if_neg (fun h=>hlt h.1)])
 go_wp2_with fail
 go_ret2
 refine ⟨.slice A n C,?_,?_,?_,?_,Hx.out⟩
 ·rw [Hd.out];rfl
 ·rw [Hd.out,← Hn.out];exact Ho.out.rd
 ·rw [Hd.out];show l.length≤4096;rw [Hn.out];omega
 rw [Hd.out];exact hp
def Cc (s:ByteArray) (w:World) (e:Ending) (w':World):Prop :=
 ∃ v l,∃ p x:Int,e=.returned (.tuple #[v,.int .i64 p,.int .i64 x])∧RdE Xe w' (fun k=>w.heap.size≤k) v l∧l.length≤4096∧(x=0→l=(dec s).1)∧Ext w w'
theorem Zrl {w:World} {S:Nat→Prop}:RdE Xe w S (.slice none 0 0) []:=Xz.nil w S
theorem Rf (s:ByteArray) (w:World):Calls Tryz.prog 208 #[.string s] w (Cc s w):=by
 go_enter Tryz.func208,Tryz.ntmps208
 by_cases hbig:4096 < s.size
 ·have d1:decide ((4096:Int) < (s.size:Int))=true:=Yf (by omega)
  go_wp2_with fail
  go_ret3
  exact ⟨_,[],_,_,rfl,Zrl,by simp,fun h=>absurd h (by decide),Yl _⟩
 have d1:decide ((4096:Int) < (s.size:Int))=false:=Yg (by omega)
 by_cases hp:(dec s).2 < s.size
 ·have d2:decide (((dec s).2:Int) < (s.size:Int))=true:=Yf (by omega)
  have d3:decide ((dec s).2 < s.size)=true:=Yf hp
  go_wp2_with (go_at_call 224;refine (decode_any _ (by omega) _).mono ?_;rintro e w1 ⟨v,rfl,hv,hl,_,hx1⟩)
  go_ret3
  exact ⟨_,[],_,_,rfl,Zrl,by simp,fun h=>absurd h (by decide),hx1⟩
 have d2:decide (((dec s).2:Int) < (s.size:Int))=false:=Yg (by omega)
 have d3:decide ((dec s).2 < s.size)=false:=Yg hp
 go_wp2_with (go_at_call 224;refine (decode_any _ (by omega) _).mono ?_;rintro e w1 ⟨v,rfl,hv,hl,_,hx1⟩)
 go_ret3
 exact ⟨_,_,_,_,rfl,hv,hl,fun _=>rfl,hx1⟩
def Cd (n:Nat) (w:World) (e:Ending) (w':World):Prop:=∃ (t:ByteArray) (x:Int),e=.returned (.tuple #[.string t,.int .i64 x])∧t.size≤4 * n∧Ext w w'
theorem Bk {S:Nat→Prop} (v:Value) (l:List Int) (w:World) (h:Xz w S v l):Calls Tryz.prog 126 #[v] w (Cd l.length w):=by
 obtain ⟨A,C,rfl,hlCC,hCC⟩:=h.shape
 obtain ⟨n,hnn⟩:∃ n,(l).length=n:=⟨_,rfl⟩
 have Hnn:=Yw hnn
 have Hh:=Yw h
 unfold maxLen at hCC
 rw [hnn] at hlCC ⊢
 clear h hnn
 go_enter Tryz.func126,Tryz.ntmps126
 by_cases hbig:4096 < n
 ·have hb:decide ((4096:Int) < (n:Int))=true:=Yf (by omega)
  go_wp2_with fail
  go_ret2
  exact ⟨⟨#[]⟩,_,rfl,Nat.zero_le _,Yl _⟩
 have hb:decide ((4096:Int) < (n:Int))=false:=Yg (by omega)
 go_wp2_with fail
 go_loopw [12,4] (fun o y wr=>∃ (i:Nat) (t:ByteArray),i≤n∧o=.int .i64 (i:Int)∧y=.string t∧t.size≤4 * i∧Ext w wr) (fun o _ _=>n - (intOf o).toNat)
 case atStart=>exact ⟨0,⟨#[]⟩,by omega,rfl,rfl,Nat.zero_le _,Yl _⟩
 obtain ⟨i,t,hi,rfl,rfl,ht,hx⟩:=hrel
 have Hx:=Yw hx
 clear hx
 by_cases hlt:i < n
 ·have hd_i:decide ((i:Int) < (n:Int))=true:=Yf (by omega)
  have i0_i:(0:Int)≤(i:Int):=by omega
  have i1_i:(i:Int) < (n:Int):=by omega
  obtain ⟨x,hs_x⟩:∃ s,(l)[i]?=some s:=⟨(l)[i]'(by have:=Hnn.out;omega),Zz _⟩
  obtain ⟨g_x,o_x,c_x,hvv,_,_,_,hgl_x,a0_x⟩:=(Hh.out.ext Hx.out).get hs_x
  simp only [Ye] at hvv
  obtain ⟨rfl,-,rfl⟩:=hvv
  have Hs_x:=Yw hs_x
  clear hs_x
  have h4:(bs (u8L (Ly x))).size≤4:=by rw [Qi];simp only [u8L,Zq];exact Ztp x
  have hz:¬ 9223372036854775807 < t.size+(bs (u8L (Ly x))).size:=by omega
  go_wp2_with (first|(go_at_call 143;refine (Qv _ _).mono ?_;rintro e w' ⟨rfl,rfl⟩)|(go_at_call 166;refine (one_any _ _).mono ?_;rintro e w1 ⟨rfl,hx1⟩))
  all_goals
   have hx:=Hx.out
   first
   | (go_roundw
      case rel =>
       refine ⟨i+1,_,by omega,by go_num,rfl,?_,(by repeat' first|exact Yl _|assumption|apply Yk|apply Yj|apply Yi|(refine Yh ?_ (by assumption)))⟩
       rw [Ym]
       omega
      case measure=>(simp [intOf];omega))
   | (go_ret2;exact ⟨⟨#[]⟩,_,rfl,Nat.zero_le _,(by repeat' first|exact Yl _|assumption|apply Yk|apply Yj|apply Yi|(refine Yh ?_ (by assumption)))⟩)
 have hd_i:decide ((i:Int) < (n:Int))=false:=Yg (by omega)
 have hx:=Hx.out
 go_wp2_with fail
 go_ret2
 exact ⟨t,_,rfl,by omega,(by repeat' first|exact Yl _|assumption|apply Yk|apply Yj|apply Yi|(refine Yh ?_ (by assumption)))⟩
end Go.Proofs.YtnbclgbicnpmnaaGreat
