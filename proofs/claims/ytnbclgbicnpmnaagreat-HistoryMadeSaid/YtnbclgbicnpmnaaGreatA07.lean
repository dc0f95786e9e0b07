/- Lemmas of this claim: RC, RD, RN. Conditions: as named. -/
import Derived.Test.YtnbclgbicnpmnaaGreatA06
namespace Go.Proofs.YtnbclgbicnpmnaaGreat
open Go.RowKit Go.Sort
set_option maxHeartbeats 0
set_option maxRecDepth 100000
set_option linter.all false
def Uv(w:World)(e:Ending)(w':World):Prop:=∃ v:Int,e=.returned (.int .i64 v)∧Ext w w'
def V3(w:World)(e:Ending)(w':World):Prop:=∃ v:Bool,e=.returned (.bool v)∧Ext w w'
theorem Xr{S:Nat→Prop}(T:Tbl)(c:Int)(w:World)(h:Xi w S T):Calls Tryz.prog 148 #[Vr T,.int .i64 c] w fun e w'=>e=.returned (.int .i64 (Wk T.cls c))∧Ext w w':=by
 unfold Vr;have H:=Ya h;clear h;go_enter Tryz.func148,Tryz.ntmps148;go_wp2_with (go_at_call 125;refine(V8 _ T.cls _ _ (H.o.cls.ext ((by repeat' first|exact Yn _|assumption|apply Ym|apply Yl|apply Yk|(refine Yj ?_ (by assumption)))))).mono ?_;rintro e w1 ⟨rfl,hx1⟩);go_ret;exact⟨rfl,(by repeat' first|exact Yn _|assumption|apply Ym|apply Yl|apply Yk|(refine Yj ?_ (by assumption)))⟩
theorem Vf{S:Nat→Prop}(T:Tbl)(c:Int)(w:World)(h:Xi w S T):Calls Tryz.prog 266 #[Vr T,.int .i64 c] w fun e w'=>e=.returned (.int .i64 (Wk T.joi c))∧Ext w w':=by
 unfold Vr;have H:=Ya h;clear h;go_enter Tryz.func266,Tryz.ntmps266;go_wp2_with (go_at_call 125;refine(V8 _ T.joi _ _ (H.o.joi.ext ((by repeat' first|exact Yn _|assumption|apply Ym|apply Yl|apply Yk|(refine Yj ?_ (by assumption)))))).mono ?_;rintro e w1 ⟨rfl,hx1⟩);go_ret;exact⟨rfl,(by repeat' first|exact Yn _|assumption|apply Ym|apply Yl|apply Yk|(refine Yj ?_ (by assumption)))⟩
theorem V6{S:Nat→Prop}(T:Tbl)(c:Int)(w:World)(h:Xi w S T):Calls Tryz.prog 87 #[Vr T,.int .i64 c] w fun e w'=>e=.returned (.bool (Wk T.ign c==1))∧Ext w w':=by
 unfold Vr;have H:=Ya h;clear h;go_enter Tryz.func87,Tryz.ntmps87;go_wp2_with (go_at_call 125;refine(V8 _ T.ign _ _ (H.o.ign.ext ((by repeat' first|exact Yn _|assumption|apply Ym|apply Yl|apply Yk|(refine Yj ?_ (by assumption)))))).mono ?_;rintro e w1 ⟨rfl,hx1⟩);go_ret;exact⟨rfl,(by repeat' first|exact Yn _|assumption|apply Ym|apply Yl|apply Yk|(refine Yj ?_ (by assumption)))⟩
def Zrw(T:Tbl)(c:Int):Int:=if Zpc c=true∨c=46∨Bk c=true then 1 else if 65≤c∧c≤90 then 3 else Wk T.sta c
theorem Qo{S:Nat→Prop}(T:Tbl)(c:Int)(w:World)(h:Xi w S T):Calls Tryz.prog 144 #[Vr T,.int .i64 c] w fun e w'=>e=.returned (.int .i64 (Zrw T c))∧Ext w w':=by
 unfold Vr;have H:=Ya h;clear h;go_enter Tryz.func144,Tryz.ntmps144;cases hl:Zpc c<;>cases hd:(c==46)<;>cases hs:Bk c<;>cases h1:decide (65≤c)<;>cases h2:decide (c≤90)
 all_goals
  have Hl:=Ya hl;have Hs:=Ya hs;have Hd:=Ya hd;have H1:=Ya h1;have H2:=Ya h2;go_wp2_with (first|(go_at_call 125;refine(V8 _ T.sta _ _ (H.o.sta.ext ((by repeat' first|exact Yn _|assumption|apply Ym|apply Yl|apply Yk|(refine Yj ?_ (by assumption)))))).mono ?_;rintro e w1 ⟨rfl,hx1⟩)|(go_at_call 113;refine(Js _ _).mono ?_;rintro e w' ⟨rfl,rfl⟩;rw[hs])|(go_at_call 142;refine(Bu _ _).mono ?_;rintro e w' ⟨rfl,rfl⟩;rw[hl]));go_ret;refine⟨Ry ?_,(by repeat' first|exact Yn _|assumption|apply Ym|apply Yl|apply Yk|(refine Yj ?_ (by assumption)))⟩;have g1:=Hd.o;have g2:=H1.o;have g3:=H2.o;simp at g1 g2 g3;unfold Zrw;rw[Hl.o,Hs.o];simp[g1];try omega
theorem Sr{S:Nat→Prop}(T:Tbl)(c:Int)(w:World)(h:Xi w S T):Calls Tryz.prog 232 #[Vr T,.int .i64 c] w (Uv w):=by
 unfold Vr;have H:=Ya h;clear h;go_enter Tryz.func232,Tryz.ntmps232;go_wp2_with (first|(go_at_call 125;refine(V8 _ T.cat _ _ (H.o.cat.ext ((by repeat' first|exact Yn _|assumption|apply Ym|apply Yl|apply Yk|(refine Yj ?_ (by assumption)))))).mono ?_;rintro e w1 ⟨rfl,hx1⟩)|(go_at_call 113;refine(Js _ _).mono ?_;rintro e w' ⟨rfl,rfl⟩)|(go_at_call 145;refine(Dp _ _).mono ?_;rintro e w' ⟨rfl,rfl⟩));all_goals(go_ret;exact⟨_,rfl,(by repeat' first|exact Yn _|assumption|apply Ym|apply Yl|apply Yk|(refine Yj ?_ (by assumption)))⟩)
theorem Pt{S:Nat→Prop}(T:Tbl)(c:Int)(w:World)(h:Xi w S T):Calls Tryz.prog 257 #[Vr T,.int .i64 c] w (Uv w):=by
 unfold Vr;have H:=Ya h;clear h;go_enter Tryz.func257,Tryz.ntmps257;go_wp2_with (go_at_call 125;refine(V8 _ T.bid _ _ (H.o.bid.ext ((by repeat' first|exact Yn _|assumption|apply Ym|apply Yl|apply Yk|(refine Yj ?_ (by assumption)))))).mono ?_;rintro e w1 ⟨rfl,hx1⟩);all_goals(go_ret;exact⟨_,rfl,(by repeat' first|exact Yn _|assumption|apply Ym|apply Yl|apply Yk|(refine Yj ?_ (by assumption)))⟩)
theorem Oh{S:Nat→Prop}(T:Tbl)(c:Int)(w:World)(h:Xi w S T):Calls Tryz.prog 239 #[Vr T,.int .i64 c] w (Uv w):=by
 unfold Vr;have H:=Ya h;clear h;go_enter Tryz.func239,Tryz.ntmps239;go_wp2_with (first|(go_at_call 125;refine(V8 _ T.scr _ _ (H.o.scr.ext ((by repeat' first|exact Yn _|assumption|apply Ym|apply Yl|apply Yk|(refine Yj ?_ (by assumption)))))).mono ?_;rintro e w1 ⟨rfl,hx1⟩)|(go_at_call 113;refine(Js _ _).mono ?_;rintro e w' ⟨rfl,rfl⟩)|(go_at_call 145;refine(Dp _ _).mono ?_;rintro e w' ⟨rfl,rfl⟩));all_goals(go_ret;exact⟨_,rfl,(by repeat' first|exact Yn _|assumption|apply Ym|apply Yl|apply Yk|(refine Yj ?_ (by assumption)))⟩)
theorem Zzf{S:Nat→Prop}(T:Tbl)(c:Int)(w:World)(h:Xi w S T):Calls Tryz.prog 238 #[Vr T,.int .i64 c] w fun e w'=>e=.returned (Du T.ext c)∧Ext w w':=by
 unfold Vr;have H:=Ya h;clear h;go_enter Tryz.func238,Tryz.ntmps238;go_wp2_with (go_at_call 111;refine(Ww _ T.ext _ _ (H.o.ext.ext ((by repeat' first|exact Yn _|assumption|apply Ym|apply Yl|apply Yk|(refine Yj ?_ (by assumption)))))).mono ?_;rintro e w1 ⟨rfl,hx1⟩);go_ret;exact⟨rfl,(by repeat' first|exact Yn _|assumption|apply Ym|apply Yl|apply Yk|(refine Yj ?_ (by assumption)))⟩
theorem Zt3{S:Nat→Prop}(T:Tbl)(c:Int)(w:World)(h:Xi w S T):Calls Tryz.prog 258 #[Vr T,.int .i64 c] w fun e w'=>e=.returned (Du T.pro c)∧Ext w w':=by
 unfold Vr;have H:=Ya h;clear h;go_enter Tryz.func258,Tryz.ntmps258;go_wp2_with (go_at_call 111;refine(Ww _ T.pro _ _ (H.o.pro.ext ((by repeat' first|exact Yn _|assumption|apply Ym|apply Yl|apply Yk|(refine Yj ?_ (by assumption)))))).mono ?_;rintro e w1 ⟨rfl,hx1⟩);go_ret;exact⟨rfl,(by repeat' first|exact Yn _|assumption|apply Ym|apply Yl|apply Yk|(refine Yj ?_ (by assumption)))⟩
def To(T:Tbl)(c:Int):List Int:=if 65≤c∧c≤90 then[c+32]else Xe T.map c
theorem Wr(w:World)(z:Int)(t:TypeId)(g:Nat)(hg:w.heap.size=g):Xz (w.alloc (.cells #[.int .i64 z] t)) (fun _=>True) (.slice (some ⟨g,0,none⟩) 1 1) [z]:=by
 subst hg;have h1:(w.alloc (.cells #[.int .i64 z] t)).heap[w.heap.size]?=some (.cells #[.int .i64 z] t):=Zl8 w _;refine⟨by simp,_,_,rfl,Yp _,by unfold maxLen;omega,fun _=>⟨_,_,rfl,trivial,(Zlj.1 h1).1,fun j u hu=>?_⟩⟩;simp only[World.cell?,h1];rw[Zl0,← hu];simp
theorem Xz.any{w:World}{S:Nat→Prop}{v:Value}{l:List Int}(h:Xz w S v l):Xz w (fun _=>True) v l:=Rd.mono h fun _ _ _=>trivial
theorem Zql{S:Nat→Prop}(T:Tbl)(c:Int)(w:World)(h:Xi w S T):Calls Tryz.prog 225 #[Vr T,.int .i64 c] w fun e w'=>∃ v,e=.returned v∧Xz w' (fun _=>True) v (To T c)∧Ext w w':=by
 unfold Vr;have H:=Ya h;clear h;go_enter Tryz.func225,Tryz.ntmps225;by_cases hc:65≤c∧c≤90
 ·have e1:To T c=[c+32]:=Zlg hc;have Hc:=Ya e1;have q1:IntKind.i64.wrap (c+32)=c+32:=Yr _ (by omega);obtain⟨d1,d2⟩:=hc;clear e1;go_wp2_with fail;go_ret;refine⟨.slice (some ⟨_,0,none⟩) 1 1,rfl,?_,(by repeat' first|exact Yn _|assumption|apply Ym|apply Yl|apply Yk|(refine Yj ?_ (by assumption)))⟩;rw[Hc.o];exact Wr _ _ _ _ (by simp)
 have e1:To T c=Xe T.map c:=Zlk hc;have Hc:=Ya e1;have hcc:¬ (65≤c)∨¬ (c≤90):=by omega
 have Hcc:=Ya hcc;clear e1 hc hcc;cases h1:decide (65≤c)<;>cases h2:decide (c≤90)
 case true.true=>exact absurd Hcc.o (by simp at h1 h2;omega)
 all_goals
  go_wp2_with (go_at_call 111;refine(Ww _ T.map _ _ (H.o.map.ext ((by repeat' first|exact Yn _|assumption|apply Ym|apply Yl|apply Yk|(refine Yj ?_ (by assumption)))))).mono ?_;rintro e w1 ⟨rfl,hx1⟩);go_ret;refine⟨_,rfl,?_,(by repeat' first|exact Yn _|assumption|apply Ym|apply Yl|apply Yk|(refine Yj ?_ (by assumption)))⟩;rw[Hc.o];exact(Qr (H.o.map.ext ((by repeat' first|exact Yn _|assumption|apply Ym|apply Yl|apply Yk|(refine Yj ?_ (by assumption))))).2).any
def Zvr(l:List Int)(c:Int):Bool:=l.any (· == c)
theorem Wj{S:Nat→Prop}(T:Tbl)(c:Int)(w:World)(h:Xi w S T):Calls Tryz.prog 147 #[Vr T,.int .i64 c] w fun e w'=>e=.returned (.bool (Zvr T.exc c))∧Ext w w':=by
 have he:=h.exc;clear h;obtain⟨A,C,hsv,hlC,hC⟩:=he.shape;unfold Vr;rw[hsv]at he⊢;obtain⟨n,hn⟩:=gnX (T.exc.length);have Hnn:=Ya hn;have He:=Ya he;unfold maxLen at hC;rw[hn]at hlC⊢;clear he hn hsv;go_enter Tryz.func147,Tryz.ntmps147;go_wp2_with fail;go_loopw [10] (fun o wr=>∃ i:Nat,i≤n∧o=.int .i64 (i:Int)∧Zvr (T.exc.take i) c=false∧Ext w wr) (fun o _=>n-(intOf o).toNat);case atStart=>exact⟨0,by omega,rfl,rfl,(by repeat' first|exact Yn _|assumption|apply Ym|apply Yl|apply Yk|(refine Yj ?_ (by assumption)))⟩
 obtain⟨i,hi,rfl,hno,hx⟩:=hrel;have Hno:=Ya hno;have Hx:=Ya hx;clear hno hx;by_cases hlt:i<n
 ·have hd:=LTd i n (by omega);have i0:(0:Int)≤(i:Int):=by omega
  have i1:(i:Int)<(n:Int):=by omega
  obtain⟨x,hs⟩:=geX (l:=(T.exc)) (i:=i) (by first|(rw[Hnn.o];exact hlt)|(have:=Hnn.o;omega));obtain⟨g,o,c',hvv,_,_,_,hgl,c0⟩:=(He.o.ext Hx.o).get hs;simp only[Yg]at hvv;obtain⟨rfl,-,rfl⟩:=hvv;have Hs:=Ya hs;clear hs;cases h1:(x==c)
  ·have Hnx:=Ya (show Zvr (T.exc.take (i+1)) c=false by
    have:=Hno.o;unfold Zvr at this⊢;rw[Za,Hs.o,Zho,this];simpa using h1)
   go_wp2_with fail;go_roundw;case rel=>exact⟨i+1,by omega,by go_num,Hnx.o,(have hx:=Hx.o;(by repeat' first|exact Yn _|assumption|apply Ym|apply Yl|apply Yk|(refine Yj ?_ (by assumption))))⟩
   simp[intOf];omega
  have Hyes:=Ya (show Zvr T.exc c=true by
   unfold Zvr;rw[Zk7];exact⟨x,Zy Hs.o,h1⟩)
  go_wp2_with fail;go_ret;exact⟨by rw[Hyes.o];rfl,(have hx:=Hx.o;(by repeat' first|exact Yn _|assumption|apply Ym|apply Yl|apply Yk|(refine Yj ?_ (by assumption))))⟩
 have hd:=GEl i n (by omega);have Hend:=Ya (show Zvr T.exc c=false by
  have:=Hno.o
  rwa [Zm (by rw[Hnn.o];omega)]at this)
 go_wp2_with fail;go_ret;exact⟨by rw[Hend.o];rfl,(have hx:=Hx.o;(by repeat' first|exact Yn _|assumption|apply Ym|apply Yl|apply Yk|(refine Yj ?_ (by assumption))))⟩
section
structure Ga(w:World)(g:Nat)(vs:List Value):Prop where
 lt:g<w.heap.size
 at_:∀ i v,vs[i]?=some v→w.cell? ⟨g,i,none⟩=some v
theorem Ga.ext{w w':World}{g:Nat}{vs:List Value}(h:Ga w g vs)(x:Ext w w'):Ga w' g vs :=
 ⟨Zll h.lt x.size,fun i v hv=>(x.cell (p:=⟨g,i,none⟩) h.lt).trans (h.at_ i v hv)⟩
theorem Jh(w:World)(cs:Array Value)(t:TypeId)(g:Nat)(hg:w.heap.size=g):Ga (w.alloc (.cells cs t)) g cs.toList:=by
 subst hg;have h1:(w.alloc (.cells cs t)).heap[w.heap.size]?=some (.cells cs t):=Zl8 w _;refine⟨(Zlj.1 h1).1,fun i v hv=>?_⟩;simp only[World.cell?,h1];rw[← hv];simp
def Zzd(T:Tbl):List (Value×List Sp):=[(T.catV,T.cat),(T.clsV,T.cls),(T.joiV,T.joi),(T.bidV,T.bid),(T.scrV,T.scr),(T.staV,T.sta),(T.ignV,T.ign)]
def Zzw(T:Tbl):List (Value×List Mp):=[(T.extV,T.ext),(T.mapV,T.map),(T.decV,T.dec),(T.proV,T.pro)]
theorem Zsm{w:World}{S:Nat→Prop}{T:Tbl}(h:Xi w S T):∀ p∈Zzd T,Vs w S p.1 p.2:=by
 intro p hp;simp only[Zzd,Zg,Zh,Zkh]at hp;rcases hp with rfl|rfl|rfl|rfl|rfl|rfl|rfl
 ·exact h.cat
 ·exact h.cls
 ·exact h.joi
 ·exact h.bid
 ·exact h.scr
 ·exact h.sta
 exact h.ign
theorem Ztu{w:World}{S:Nat→Prop}{T:Tbl}(h:Xi w S T):∀ p∈Zzw T,Uw w S p.1 p.2:=by
 intro p hp;simp only[Zzw,Zg,Zh,Zkh]at hp;rcases hp with rfl|rfl|rfl|rfl
 ·exact h.ext
 ·exact h.map
 ·exact h.dec
 exact h.pro
def Zve(T:Tbl)(w:World)(e:Ending)(w':World):Prop :=
 ∃ g1 g2:Nat,e=.returned (.tuple #[.slice (some ⟨g1,0,none⟩) 7 7,.slice (some ⟨g2,0,none⟩) 7 7])∧Ga w' g1 ((Zzd T).map (·.1))∧Ga w' g2 ([8,254,5,11,60,4,1].map (Value.int .i64))∧Ext w w'
theorem Ml{S:Nat→Prop}(T:Tbl)(w:World)(h:Xi w S T):Calls Tryz.prog 137 #[Vr T] w (Zve T w):=by
 obtain⟨A0,C0,e0,_,_⟩:=h.cat.shape;obtain⟨A1,C1,e1,_,_⟩:=h.cls.shape;obtain⟨A2,C2,e2,_,_⟩:=h.joi.shape;obtain⟨A3,C3,e3,_,_⟩:=h.bid.shape;obtain⟨A4,C4,e4,_,_⟩:=h.scr.shape;obtain⟨A5,C5,e5,_,_⟩:=h.sta.shape;obtain⟨A6,C6,e6,_,_⟩:=h.ign.shape;clear h;unfold Vr;go_enter Tryz.func137,Tryz.ntmps137;go_wp2_with fail;go_ret2;refine⟨w.heap.size+1,w.heap.size+2,?_,?_,?_,(by repeat' first|exact Yn _|assumption|apply Ym|apply Yl|apply Yk|(refine Yj ?_ (by assumption)))⟩
 ·simp
 ·simp only[Zzd,Zku,Zkp,e0,e1,e2,e3,e4,e5,e6];exact(Jh _ _ _ _ (by simp)).ext ((Yn _).alloc _)
 exact Jh _ _ _ _ (by simp)
def Zrm(T:Tbl)(w:World)(e:Ending)(w':World):Prop :=
 ∃ g1:Nat,e=.returned (.slice (some ⟨g1,0,none⟩) 4 4)∧Ga w' g1 ((Zzw T).map (·.1))∧Ext w w'
theorem Ug{S:Nat→Prop}(T:Tbl)(w:World)(h:Xi w S T):Calls Tryz.prog 138 #[Vr T] w (Zrm T w):=by
 obtain⟨A0,C0,e0,_,_⟩:=h.ext.shape;obtain⟨A1,C1,e1,_,_⟩:=h.map.shape;obtain⟨A2,C2,e2,_,_⟩:=h.dec.shape;obtain⟨A3,C3,e3,_,_⟩:=h.pro.shape;clear h;unfold Vr;go_enter Tryz.func138,Tryz.ntmps138;go_wp2_with fail;go_ret;refine⟨w.heap.size+1,?_,?_,(by repeat' first|exact Yn _|assumption|apply Ym|apply Yl|apply Yk|(refine Yj ?_ (by assumption)))⟩
 ·simp
 simp only[Zzw,Zku,Zkp,e0,e1,e2,e3];exact Jh _ _ _ _ (by simp)
def Qs(T:Tbl):List Value:=[T.catV,T.clsV,T.joiV,T.bidV,T.scrV,T.staV,T.ignV,T.extV,T.mapV,T.decV,T.excV,T.proV]
def Wx(T:Tbl):Obj:=.cells (Qs T).toArray 34
structure Ja(w:World)(b:Nat)(T:Tbl):Prop where
 lt:b<w.heap.size
 at_:∀ k,k<12→w.cell? ⟨b,k,none⟩=(Qs T)[k]?
theorem Ja.ext{w w':World}{b:Nat}{T:Tbl}(h:Ja w b T)(x:Ext w w'):Ja w' b T :=
 ⟨Zll h.lt x.size,fun k hk=>(x.cell (p:=⟨b,k,none⟩) h.lt).trans (h.at_ k hk)⟩
theorem Xn(w:World)(T:Tbl):Ja (w.alloc (Wx T)) w.heap.size T:=by
 refine⟨by simp,fun k hk=>?_⟩;unfold Wx;rw[Zhe _ _ k (Qs T).toArray 34 (0,0) (Zl8 w _)];simp
theorem M9:(Tryz.prog.underlying 34).map TypeDesc.isRow=some true:=by kernel_rfl
theorem Gn:(Tryz.prog.info? 34).map (·.size)=some 12:=by kernel_rfl
theorem Ja.range{w:World}{b:Nat}{T:Tbl}(h:Ja w b T):w.rangeAt b 0 (Qs T):=fun j v hv=>by
 rw[Zl0,h.at_ j (Zr.1 hv).1,hv]
section
variable {ops:Array Oper} {rest:List Oper} {dst:Option Nat} {x:Operand} {t:TypeId} {pos:String} {af:Array Edge} {a:Act} {w:World} {Q:Exit→Act→World→Prop} {b:Nat} {T:Tbl}
theorem Xx(hx:a.eval x=Vr T)(hK:wpList Tryz.prog ops Q rest (a.put dst (.pointer (some ⟨w.heap.size,0,none⟩))) (w.alloc (Wx T))) :
 wpList Tryz.prog ops Q ({dst:=dst,op:=.box 34 x,type:=t,pos:=pos,after:=af,guard:=none}::rest) a w:=by
 refine Zil rfl fun K hK'=>?_
 unfold Oper.wp execOp;have hc:(a.eval x).cells=(Qs T).toArray:=by rw[hx];rfl
 simp only[Zjt,Instr.box,newVar,newRow,run_newObj_alloc,Zjs,Zki,hc];exact hK' _ _ hK
theorem Y4(h:Ja w b T)(hx:a.eval x=.pointer (some ⟨b,0,none⟩))(hK:wpList Tryz.prog ops Q rest (a.put dst (Vr T)) w) :
 wpList Tryz.prog ops Q ({dst:=dst,op:=.load 34 x,type:=t,pos:=pos,after:=af,guard:=none}::rest) a w:=by
 have hu:=M9;rw[Zl9]at hu;obtain⟨d,hu,hd⟩:=hu;exact Zhn rfl _ x rfl b 0 hx (Qs T) d h.range hu hd (by rw[Gn];rfl) hK
end
theorem lat{W:World}{b o:Nat}{v:Value}(h:W.cell? ⟨b,o,none⟩=some v):∀ k os,(later W k os).cell? ⟨b,o,none⟩=some v:=fun k os=>(Pr W k os b o (lt_of_cell h)).trans h
theorem Vu(i:Nat)(h0:0<i)(h1:i≤9223372036854775807):IntKind.i64.wrap ((i:Int)-1)=((i-1:Nat):Int):=by
 rw[Yr _ (by omega)];omega
end
def Fe(s:ByteArray):Nat→Int
 | 1=>if _h:0<s.size then wrap64 (s[0].toNat:Int)else 0
 | 2=>if _h:1<s.size then IntKind.i64.wrap (IntKind.i64.wrap (IntKind.i64.wrap (IntKind.i64.wrap (IntKind.i64.wrap (s[0].toNat:Int)-192)*64)+IntKind.i64.wrap (s[1].toNat:Int))-128)else 0
 | 3=>if _h:2<s.size then IntKind.i64.wrap (IntKind.i64.wrap (IntKind.i64.wrap (IntKind.i64.wrap (IntKind.i64.wrap (IntKind.i64.wrap (s[0].toNat:Int)-224)*4096)+IntKind.i64.wrap (IntKind.i64.wrap (IntKind.i64.wrap (s[1].toNat:Int)-128)*64))+IntKind.i64.wrap (s[2].toNat:Int))-128)else 0
 | 4=>if _h:3<s.size then IntKind.i64.wrap (IntKind.i64.wrap (IntKind.i64.wrap (IntKind.i64.wrap (IntKind.i64.wrap (IntKind.i64.wrap (IntKind.i64.wrap (s[0].toNat:Int)-240)*262144)+IntKind.i64.wrap (IntKind.i64.wrap (IntKind.i64.wrap (s[1].toNat:Int)-128)*4096))+IntKind.i64.wrap (IntKind.i64.wrap (IntKind.i64.wrap (s[2].toNat:Int)-128)*64))+IntKind.i64.wrap (s[3].toNat:Int))-128)else 0
 | _=>0
def Gp(s:ByteArray)(k:Nat):Bool:=(Zws (Fe s k)==(k:Int))&&((bs (u8L (Ny (Fe s k)))).toList==(s.extract 0 k).toList)
def Un(s:ByteArray):Nat :=
 if 1≤s.size∧Gp s 1=true then 1 else if 2≤s.size∧Gp s 2=true then 2 else if 3≤s.size∧Gp s 3=true then 3 else if 4≤s.size∧Gp s 4=true then 4 else 0
theorem Gq(s:ByteArray)(k:Nat)(h1:1≤k)(h4:k≤4)(hs:k≤s.size)(hy:Gp s k=true)(hall:∀ j,1≤j→j<k→j≤s.size→Gp s j=false):Un s=k:=by
 have hn:∀ j,1≤j→j<k→¬ (j≤s.size∧Gp s j=true):=fun j a b c=>by rw[hall j a b c.1]at c;exact absurd c.2 (by simp)
 unfold Un;rcases(show k=1∨k=2∨k=3∨k=4 by omega)with rfl|rfl|rfl|rfl
 ·rw[Zlg ⟨hs,hy⟩]
 ·rw[Zlk (hn 1 (by omega) (by omega)),Zlg ⟨hs,hy⟩]
 ·rw[Zlk (hn 1 (by omega) (by omega)),Zlk (hn 2 (by omega) (by omega)),Zlg ⟨hs,hy⟩]
 rw[Zlk (hn 1 (by omega) (by omega)),Zlk (hn 2 (by omega) (by omega)),Zlk (hn 3 (by omega) (by omega)),Zlg ⟨hs,hy⟩]
theorem Zuo(s:ByteArray)(k:Nat)(h1:1≤k)(h5:k≤5)(hs:¬ (k≤4∧k≤s.size))(hall:∀ j,1≤j→j<k→j≤s.size→Gp s j=false):Un s=0:=by
 have hn:∀ j,1≤j→j≤4→¬ (j≤s.size∧Gp s j=true):=fun j a b c=>by
  by_cases hj:j<k
  ·rw[hall j a hj c.1]at c;exact absurd c.2 (by simp)
  omega
 unfold Un;rw[Zlk (hn 1 (by omega) (by omega)),Zlk (hn 2 (by omega) (by omega)),Zlk (hn 3 (by omega) (by omega)),Zlk (hn 4 (by omega) (by omega))]
theorem Zup(s:ByteArray):Un s≤s.size:=by
 unfold Un;split
 ·omega
 split
 ·omega
 split
 ·omega
 split<;>omega
def N7(s:ByteArray):Int:=Fe s (Un s)
theorem first_any(s:ByteArray)(hs:s.size≤maxLen)(w:World):Calls Tryz.prog 246 #[.string s] w fun e w'=>e=.returned (.tuple #[.int .i64 (N7 s),.int .i64 (Un s:Int)])∧Ext w w':=by
 unfold N7;unfold maxLen at hs;go_enter Tryz.func246,Tryz.ntmps246;go_wp2_with fail;go_loopw [4] (fun o wr=>∃ k:Nat,1≤k∧k≤5∧o=.int .i64 (k:Int)∧Aside (∀ j,1≤j→j<k→j≤s.size→Gp s j=false)∧Ext w wr) (fun o _=>5-(intOf o).toNat);case atStart=>exact⟨1,by omega,by omega,rfl,fun j h1 h2 _=>by omega,Yn _⟩
 obtain⟨k,hk1,hk5,rfl,hall,hx⟩:=hrel;have Hall:=Zkr hall.out;have Hx:=Zkr hx;clear hx hall;by_cases hlt:k≤4∧k≤s.size
 ·obtain⟨h4,hsz⟩:=hlt;have d1:decide ((k:Int)≤(4:Int))=true:=Yh (by omega);have d2:decide ((k:Int)≤(s.size:Int))=true:=Yh (by omega);rcases(show k=1∨k=2∨k=3∨k=4 by omega)with rfl|rfl|rfl|rfl
  ·have p0:0<s.size:=by omega
   go_wp2_with fail;obtain⟨V,hV⟩:∃ V:Int,Fe s 1=V:=⟨_,rfl⟩;rw[show wrap64 (s[0].toNat:Int)=V from by rw[← hV];simp only[Fe];rw[Zh1 p0]];have HV:=Zkr hV;clear hV;cases q1:(Zws V==(1:Int))
   ·have Hno:=Zkr (show Gp s 1=false by unfold Gp;rw[HV.out,show((1:Nat):Int)=(1:Int) from rfl,q1];rfl);have hun:=Yd;refine Y0 (by kernel_rfl) (by kernel_rfl) ?_;repeat((with_reducible refine Yw ?_);intro K hK;go_simp;first|((with_reducible refine hK _ ?_);clear hK K)|(apply Exists.intro;refine⟨fun _=>?_,hK _ ?_⟩;(first|(go_at_call 186;exact Xt (len_any _ _))|(go_at_call 166;exact Y8 (one_any _ _)));clear hK K))
    (with_reducible refine Yv ?_)
    intro w3 hy3;clear hun;try simp only[Ye]
    have hx:=Hx.out;go_wp2_with fail;refine⟨⟨1+1,by omega,by omega,rfl,fun j h1 h2 h3=>?_,(by repeat' first|exact Yn _|assumption|apply Ym|apply Yl|apply Yk|(refine Yj ?_ (by assumption)))⟩,by simp[intOf]⟩;rcases(show j<1∨j=1 by omega)with h|rfl
    ·exact Hall.out j h1 h h3
    exact Hno.out
   cases q2:((bs (u8L (Ny V))).toList==(s.extract 0 1).toList)
   ·have Hno:=Zkr (show Gp s 1=false by unfold Gp;rw[HV.out,q2];simp);have hun:=Yd;refine Y0 (by kernel_rfl) (by kernel_rfl) ?_;repeat((with_reducible refine Yw ?_);intro K hK;go_simp;first|((with_reducible refine hK _ ?_);clear hK K)|(apply Exists.intro;refine⟨fun _=>?_,hK _ ?_⟩;(first|(go_at_call 186;exact Xt (len_any _ _))|(go_at_call 166;exact Y8 (one_any _ _)));clear hK K))
    (with_reducible refine Yv ?_)
    intro w3 hy3;clear hun;try simp only[Ye]
    have hx:=Hx.out;go_wp2_with fail;refine⟨⟨1+1,by omega,by omega,rfl,fun j h1 h2 h3=>?_,(by repeat' first|exact Yn _|assumption|apply Ym|apply Yl|apply Yk|(refine Yj ?_ (by assumption)))⟩,by simp[intOf]⟩;rcases(show j<1∨j=1 by omega)with h|rfl
    ·exact Hall.out j h1 h h3
    exact Hno.out
   have Hyes:=Zkr (show Gp s 1=true by unfold Gp;rw[HV.out,q2];simp at q1⊢;exact q1);have hun:=Yd;refine Y0 (by kernel_rfl) (by kernel_rfl) ?_;repeat((with_reducible refine Yw ?_);intro K hK;go_simp;first|((with_reducible refine hK _ ?_);clear hK K)|(apply Exists.intro;refine⟨fun _=>?_,hK _ ?_⟩;(first|(go_at_call 186;exact Xt (len_any _ _))|(go_at_call 166;exact Y8 (one_any _ _)));clear hK K))
   (with_reducible refine Yv ?_)
   intro w3 hy3;clear hun;try simp only[Ye]
   have hx:=Hx.out;go_wp2_with fail;go_ret2;exact⟨by rw[Gq s 1 (by omega) (by omega) hsz Hyes.out Hall.out,HV.out];rfl,(by repeat' first|exact Yn _|assumption|apply Ym|apply Yl|apply Yk|(refine Yj ?_ (by assumption)))⟩
  ·have p0:0<s.size:=by omega
   have p1:1<s.size:=by omega
   have r1:(1:Int)<(s.size:Int):=by omega
   have hun:=Yd;go_wp2_with fail;refine Y0 (by kernel_rfl) (by kernel_rfl) ?_;repeat((with_reducible refine Yw ?_);intro K hK;go_simp;first|((with_reducible refine hK _ ?_);clear hK K)|(apply Exists.intro;refine⟨fun _=>?_,hK _ ?_⟩;(first|(go_at_call 186;exact Xt (len_any _ _))|(go_at_call 166;exact Y8 (one_any _ _)));clear hK K))
   (with_reducible refine Yv ?_)
   intro w2 hy;clear hun;try simp only[Ye]
   go_wp2_with fail;obtain⟨V,hV⟩:∃ V:Int,Fe s 2=V:=⟨_,rfl⟩;rw[show IntKind.i64.wrap (IntKind.i64.wrap (IntKind.i64.wrap (IntKind.i64.wrap (IntKind.i64.wrap (s[0].toNat:Int)-192)*64)+IntKind.i64.wrap (s[1].toNat:Int))-128)=V from by rw[← hV];simp only[Fe];rw[Zh1 p1]];have HV:=Zkr hV;clear hV;cases q1:(Zws V==(2:Int))
   ·have Hno:=Zkr (show Gp s 2=false by unfold Gp;rw[HV.out,show((2:Nat):Int)=(2:Int) from rfl,q1];rfl);have hun:=Yd;refine Y0 (by kernel_rfl) (by kernel_rfl) ?_;repeat((with_reducible refine Yw ?_);intro K hK;go_simp;first|((with_reducible refine hK _ ?_);clear hK K)|(apply Exists.intro;refine⟨fun _=>?_,hK _ ?_⟩;(first|(go_at_call 186;exact Xt (len_any _ _))|(go_at_call 166;exact Y8 (one_any _ _)));clear hK K))
    (with_reducible refine Yv ?_)
    intro w3 hy3;clear hun;try simp only[Ye]
    have hx:=Hx.out;go_wp2_with fail;refine⟨⟨2+1,by omega,by omega,rfl,fun j h1 h2 h3=>?_,(by repeat' first|exact Yn _|assumption|apply Ym|apply Yl|apply Yk|(refine Yj ?_ (by assumption)))⟩,by simp[intOf]⟩;rcases(show j<2∨j=2 by omega)with h|rfl
    ·exact Hall.out j h1 h h3
    exact Hno.out
   cases q2:((bs (u8L (Ny V))).toList==(s.extract 0 2).toList)
   ·have Hno:=Zkr (show Gp s 2=false by unfold Gp;rw[HV.out,q2];simp);have hun:=Yd;refine Y0 (by kernel_rfl) (by kernel_rfl) ?_;repeat((with_reducible refine Yw ?_);intro K hK;go_simp;first|((with_reducible refine hK _ ?_);clear hK K)|(apply Exists.intro;refine⟨fun _=>?_,hK _ ?_⟩;(first|(go_at_call 186;exact Xt (len_any _ _))|(go_at_call 166;exact Y8 (one_any _ _)));clear hK K))
    (with_reducible refine Yv ?_)
    intro w3 hy3;clear hun;try simp only[Ye]
    have hx:=Hx.out;go_wp2_with fail;refine⟨⟨2+1,by omega,by omega,rfl,fun j h1 h2 h3=>?_,(by repeat' first|exact Yn _|assumption|apply Ym|apply Yl|apply Yk|(refine Yj ?_ (by assumption)))⟩,by simp[intOf]⟩;rcases(show j<2∨j=2 by omega)with h|rfl
    ·exact Hall.out j h1 h h3
    exact Hno.out
   have Hyes:=Zkr (show Gp s 2=true by unfold Gp;rw[HV.out,q2];simp at q1⊢;exact q1);have hun:=Yd;refine Y0 (by kernel_rfl) (by kernel_rfl) ?_;repeat((with_reducible refine Yw ?_);intro K hK;go_simp;first|((with_reducible refine hK _ ?_);clear hK K)|(apply Exists.intro;refine⟨fun _=>?_,hK _ ?_⟩;(first|(go_at_call 186;exact Xt (len_any _ _))|(go_at_call 166;exact Y8 (one_any _ _)));clear hK K))
   (with_reducible refine Yv ?_)
   intro w3 hy3;clear hun;try simp only[Ye]
   have hx:=Hx.out;go_wp2_with fail;go_ret2;exact⟨by rw[Gq s 2 (by omega) (by omega) hsz Hyes.out Hall.out,HV.out];rfl,(by repeat' first|exact Yn _|assumption|apply Ym|apply Yl|apply Yk|(refine Yj ?_ (by assumption)))⟩
  ·have p0:0<s.size:=by omega
   have p1:1<s.size:=by omega
   have r1:(1:Int)<(s.size:Int):=by omega
   have p2:2<s.size:=by omega
   have r2:(2:Int)<(s.size:Int):=by omega
   have hun:=Yd;go_wp2_with fail;refine Y0 (by kernel_rfl) (by kernel_rfl) ?_;repeat((with_reducible refine Yw ?_);intro K hK;go_simp;first|((with_reducible refine hK _ ?_);clear hK K)|(apply Exists.intro;refine⟨fun _=>?_,hK _ ?_⟩;(first|(go_at_call 186;exact Xt (len_any _ _))|(go_at_call 166;exact Y8 (one_any _ _)));clear hK K))
   (with_reducible refine Yv ?_)
   intro w2 hy;clear hun;try simp only[Ye]
   go_wp2_with fail;obtain⟨V,hV⟩:∃ V:Int,Fe s 3=V:=⟨_,rfl⟩;rw[show IntKind.i64.wrap (IntKind.i64.wrap (IntKind.i64.wrap (IntKind.i64.wrap (IntKind.i64.wrap (IntKind.i64.wrap (s[0].toNat:Int)-224)*4096)+IntKind.i64.wrap (IntKind.i64.wrap (IntKind.i64.wrap (s[1].toNat:Int)-128)*64))+IntKind.i64.wrap (s[2].toNat:Int))-128)=V from by rw[← hV];simp only[Fe];rw[Zh1 p2]];have HV:=Zkr hV;clear hV;cases q1:(Zws V==(3:Int))
   ·have Hno:=Zkr (show Gp s 3=false by unfold Gp;rw[HV.out,show((3:Nat):Int)=(3:Int) from rfl,q1];rfl);have hun:=Yd;refine Y0 (by kernel_rfl) (by kernel_rfl) ?_;repeat((with_reducible refine Yw ?_);intro K hK;go_simp;first|((with_reducible refine hK _ ?_);clear hK K)|(apply Exists.intro;refine⟨fun _=>?_,hK _ ?_⟩;(first|(go_at_call 186;exact Xt (len_any _ _))|(go_at_call 166;exact Y8 (one_any _ _)));clear hK K))
    (with_reducible refine Yv ?_)
    intro w3 hy3;clear hun;try simp only[Ye]
    have hx:=Hx.out;go_wp2_with fail;refine⟨⟨3+1,by omega,by omega,rfl,fun j h1 h2 h3=>?_,(by repeat' first|exact Yn _|assumption|apply Ym|apply Yl|apply Yk|(refine Yj ?_ (by assumption)))⟩,by simp[intOf]⟩;rcases(show j<3∨j=3 by omega)with h|rfl
    ·exact Hall.out j h1 h h3
    exact Hno.out
   cases q2:((bs (u8L (Ny V))).toList==(s.extract 0 3).toList)
   ·have Hno:=Zkr (show Gp s 3=false by unfold Gp;rw[HV.out,q2];simp);have hun:=Yd;refine Y0 (by kernel_rfl) (by kernel_rfl) ?_;repeat((with_reducible refine Yw ?_);intro K hK;go_simp;first|((with_reducible refine hK _ ?_);clear hK K)|(apply Exists.intro;refine⟨fun _=>?_,hK _ ?_⟩;(first|(go_at_call 186;exact Xt (len_any _ _))|(go_at_call 166;exact Y8 (one_any _ _)));clear hK K))
    (with_reducible refine Yv ?_)
    intro w3 hy3;clear hun;try simp only[Ye]
    have hx:=Hx.out;go_wp2_with fail;refine⟨⟨3+1,by omega,by omega,rfl,fun j h1 h2 h3=>?_,(by repeat' first|exact Yn _|assumption|apply Ym|apply Yl|apply Yk|(refine Yj ?_ (by assumption)))⟩,by simp[intOf]⟩;rcases(show j<3∨j=3 by omega)with h|rfl
    ·exact Hall.out j h1 h h3
    exact Hno.out
   have Hyes:=Zkr (show Gp s 3=true by unfold Gp;rw[HV.out,q2];simp at q1⊢;exact q1);have hun:=Yd;refine Y0 (by kernel_rfl) (by kernel_rfl) ?_;repeat((with_reducible refine Yw ?_);intro K hK;go_simp;first|((with_reducible refine hK _ ?_);clear hK K)|(apply Exists.intro;refine⟨fun _=>?_,hK _ ?_⟩;(first|(go_at_call 186;exact Xt (len_any _ _))|(go_at_call 166;exact Y8 (one_any _ _)));clear hK K))
   (with_reducible refine Yv ?_)
   intro w3 hy3;clear hun;try simp only[Ye]
   have hx:=Hx.out;go_wp2_with fail;go_ret2;exact⟨by rw[Gq s 3 (by omega) (by omega) hsz Hyes.out Hall.out,HV.out];rfl,(by repeat' first|exact Yn _|assumption|apply Ym|apply Yl|apply Yk|(refine Yj ?_ (by assumption)))⟩
  have p0:0<s.size:=by omega
  have p1:1<s.size:=by omega
  have r1:(1:Int)<(s.size:Int):=by omega
  have p2:2<s.size:=by omega
  have r2:(2:Int)<(s.size:Int):=by omega
  have p3:3<s.size:=by omega
  have r3:(3:Int)<(s.size:Int):=by omega
  have hun:=Yd;go_wp2_with fail;refine Y0 (by kernel_rfl) (by kernel_rfl) ?_;repeat((with_reducible refine Yw ?_);intro K hK;go_simp;first|((with_reducible refine hK _ ?_);clear hK K)|(apply Exists.intro;refine⟨fun _=>?_,hK _ ?_⟩;(first|(go_at_call 186;exact Xt (len_any _ _))|(go_at_call 166;exact Y8 (one_any _ _)));clear hK K))
  (with_reducible refine Yv ?_)
  intro w2 hy;clear hun;try simp only[Ye]
  go_wp2_with fail;obtain⟨V,hV⟩:∃ V:Int,Fe s 4=V:=⟨_,rfl⟩;rw[show IntKind.i64.wrap (IntKind.i64.wrap (IntKind.i64.wrap (IntKind.i64.wrap (IntKind.i64.wrap (IntKind.i64.wrap (IntKind.i64.wrap (s[0].toNat:Int)-240)*262144)+IntKind.i64.wrap (IntKind.i64.wrap (IntKind.i64.wrap (s[1].toNat:Int)-128)*4096))+IntKind.i64.wrap (IntKind.i64.wrap (IntKind.i64.wrap (s[2].toNat:Int)-128)*64))+IntKind.i64.wrap (s[3].toNat:Int))-128)=V from by rw[← hV];simp only[Fe];rw[Zh1 p3]];have HV:=Zkr hV;clear hV;cases q1:(Zws V==(4:Int))
  ·have Hno:=Zkr (show Gp s 4=false by unfold Gp;rw[HV.out,show((4:Nat):Int)=(4:Int) from rfl,q1];rfl);have hun:=Yd;refine Y0 (by kernel_rfl) (by kernel_rfl) ?_;repeat((with_reducible refine Yw ?_);intro K hK;go_simp;first|((with_reducible refine hK _ ?_);clear hK K)|(apply Exists.intro;refine⟨fun _=>?_,hK _ ?_⟩;(first|(go_at_call 186;exact Xt (len_any _ _))|(go_at_call 166;exact Y8 (one_any _ _)));clear hK K))
   (with_reducible refine Yv ?_)
   intro w3 hy3;clear hun;try simp only[Ye]
   have hx:=Hx.out;go_wp2_with fail;refine⟨⟨4+1,by omega,by omega,rfl,fun j h1 h2 h3=>?_,(by repeat' first|exact Yn _|assumption|apply Ym|apply Yl|apply Yk|(refine Yj ?_ (by assumption)))⟩,by simp[intOf]⟩;rcases(show j<4∨j=4 by omega)with h|rfl
   ·exact Hall.out j h1 h h3
   exact Hno.out
  cases q2:((bs (u8L (Ny V))).toList==(s.extract 0 4).toList)
  ·have Hno:=Zkr (show Gp s 4=false by unfold Gp;rw[HV.out,q2];simp);have hun:=Yd;refine Y0 (by kernel_rfl) (by kernel_rfl) ?_;repeat((with_reducible refine Yw ?_);intro K hK;go_simp;first|((with_reducible refine hK _ ?_);clear hK K)|(apply Exists.intro;refine⟨fun _=>?_,hK _ ?_⟩;(first|(go_at_call 186;exact Xt (len_any _ _))|(go_at_call 166;exact Y8 (one_any _ _)));clear hK K))
   (with_reducible refine Yv ?_)
   intro w3 hy3;clear hun;try simp only[Ye]
   have hx:=Hx.out;go_wp2_with fail;refine⟨⟨4+1,by omega,by omega,rfl,fun j h1 h2 h3=>?_,(by repeat' first|exact Yn _|assumption|apply Ym|apply Yl|apply Yk|(refine Yj ?_ (by assumption)))⟩,by simp[intOf]⟩;rcases(show j<4∨j=4 by omega)with h|rfl
   ·exact Hall.out j h1 h h3
   exact Hno.out
  have Hyes:=Zkr (show Gp s 4=true by unfold Gp;rw[HV.out,q2];simp at q1⊢;exact q1);have hun:=Yd;refine Y0 (by kernel_rfl) (by kernel_rfl) ?_;repeat((with_reducible refine Yw ?_);intro K hK;go_simp;first|((with_reducible refine hK _ ?_);clear hK K)|(apply Exists.intro;refine⟨fun _=>?_,hK _ ?_⟩;(first|(go_at_call 186;exact Xt (len_any _ _))|(go_at_call 166;exact Y8 (one_any _ _)));clear hK K))
  (with_reducible refine Yv ?_)
  intro w3 hy3;clear hun;try simp only[Ye]
  have hx:=Hx.out;go_wp2_with fail;go_ret2;exact⟨by rw[Gq s 4 (by omega) (by omega) hsz Hyes.out Hall.out,HV.out];rfl,(by repeat' first|exact Yn _|assumption|apply Ym|apply Yl|apply Yk|(refine Yj ?_ (by assumption)))⟩
 have hfin:=Zkr (Zuo s k hk1 hk5 hlt Hall.out);by_cases h4:k≤4
 ·have d1:decide ((k:Int)≤(4:Int))=true:=Yh (by omega);have d2:decide ((k:Int)≤(s.size:Int))=false:=Yi (by omega);have hx:=Hx.out;go_wp2_with fail;go_ret2;exact⟨by rw[hfin.out];rfl,(by repeat' first|exact Yn _|assumption|apply Ym|apply Yl|apply Yk|(refine Yj ?_ (by assumption)))⟩
 have d1:decide ((k:Int)≤(4:Int))=false:=Yi (by omega);have hx:=Hx.out;go_wp2_with fail;go_ret2;exact⟨by rw[hfin.out];rfl,(by repeat' first|exact Yn _|assumption|apply Ym|apply Yl|apply Yk|(refine Yj ?_ (by assumption)))⟩
end Go.Proofs.YtnbclgbicnpmnaaGreat
