/- Lemmas of this claim: RC, RD, RN. Conditions: as named. -/
import Derived.Test.YtnbclgbicnpmnaaGreatA06
namespace Go.Proofs.YtnbclgbicnpmnaaGreat
open Go.RowKit Go.Sort
set_option maxHeartbeats 0
set_option maxRecDepth 100000
set_option linter.all false
def Gj(w:World)(e:Ending)(w':World):Prop:=∃ v:Int,e=.returned (.int .i64 v)∧Ext w w'
def Qy(w:World)(e:Ending)(w':World):Prop:=∃ v:Bool,e=.returned (.bool v)∧Ext w w'
theorem Xp{S:Nat→Prop}(T:Tbl)(c:Int)(w:World)(h:Xl w S T):Calls Tryz.prog 148 #[Vu T,.int .i64 c] w fun e w'=>e=.returned (.int .i64 (Wl T.cls c))∧Ext w w':=by
 unfold Vu;have H:=Y4 h;clear h;go_enter Tryz.func148,Tryz.ntmps148;go_wp2_with (go_at_call 125;refine(Vc _ T.cls _ _ (H.o.cls.ext (xE))).mono ?_;rintro e w1 ⟨rfl,hx1⟩);go_ret;exact⟨rfl,xE⟩
theorem Vj{S:Nat→Prop}(T:Tbl)(c:Int)(w:World)(h:Xl w S T):Calls Tryz.prog 266 #[Vu T,.int .i64 c] w fun e w'=>e=.returned (.int .i64 (Wl T.joi c))∧Ext w w':=by
 unfold Vu;have H:=Y4 h;clear h;go_enter Tryz.func266,Tryz.ntmps266;go_wp2_with (go_at_call 125;refine(Vc _ T.joi _ _ (H.o.joi.ext (xE))).mono ?_;rintro e w1 ⟨rfl,hx1⟩);go_ret;exact⟨rfl,xE⟩
theorem Vd{S:Nat→Prop}(T:Tbl)(c:Int)(w:World)(h:Xl w S T):Calls Tryz.prog 87 #[Vu T,.int .i64 c] w fun e w'=>e=.returned (.bool (Wl T.ign c==1))∧Ext w w':=by
 unfold Vu;have H:=Y4 h;clear h;go_enter Tryz.func87,Tryz.ntmps87;go_wp2_with (go_at_call 125;refine(Vc _ T.ign _ _ (H.o.ign.ext (xE))).mono ?_;rintro e w1 ⟨rfl,hx1⟩);go_ret;exact⟨rfl,xE⟩
def Zt7(T:Tbl)(c:Int):Int:=if Zqe c=true∨c=46∨Bw c=true then 1 else if 65≤c∧c≤90 then 3 else Wl T.sta c
theorem Qo{S:Nat→Prop}(T:Tbl)(c:Int)(w:World)(h:Xl w S T):Calls Tryz.prog 144 #[Vu T,.int .i64 c] w fun e w'=>e=.returned (.int .i64 (Zt7 T c))∧Ext w w':=by
 unfold Vu;have H:=Y4 h;clear h;go_enter Tryz.func144,Tryz.ntmps144;cases hl:Zqe c<;>cases hd:(c==46)<;>cases hs:Bw c<;>cases h1:decide (65≤c)<;>cases h2:decide (c≤90)
 all_goals
  have Hl:=Y4 hl;have Hs:=Y4 hs;have Hd:=Y4 hd;have H1:=Y4 h1;have H2:=Y4 h2;go_wp2_with (first|(go_at_call 125;refine(Vc _ T.sta _ _ (H.o.sta.ext (xE))).mono ?_;rintro e w1 ⟨rfl,hx1⟩)|(go_at_call 113;refine(Jz _ _).mono ?_;rintro e w' ⟨rfl,rfl⟩;rw[hs])|(go_at_call 142;refine(Ge _ _).mono ?_;rintro e w' ⟨rfl,rfl⟩;rw[hl]));go_ret;refine⟨Ps ?_,xE⟩;have g1:=Hd.o;have g2:=H1.o;have g3:=H2.o;simp at g1 g2 g3;unfold Zt7;rw[Hl.o,Hs.o];simp[g1];try omega
theorem Pa{S:Nat→Prop}(T:Tbl)(c:Int)(w:World)(h:Xl w S T):Calls Tryz.prog 232 #[Vu T,.int .i64 c] w (Gj w):=by
 unfold Vu;have H:=Y4 h;clear h;go_enter Tryz.func232,Tryz.ntmps232;go_wp2_with (first|(go_at_call 125;refine(Vc _ T.cat _ _ (H.o.cat.ext (xE))).mono ?_;rintro e w1 ⟨rfl,hx1⟩)|(go_at_call 113;refine(Jz _ _).mono ?_;rintro e w' ⟨rfl,rfl⟩)|(go_at_call 145;refine(Ee _ _).mono ?_;rintro e w' ⟨rfl,rfl⟩));all_goals(go_ret;exact⟨_,rfl,xE⟩)
theorem Ou{S:Nat→Prop}(T:Tbl)(c:Int)(w:World)(h:Xl w S T):Calls Tryz.prog 257 #[Vu T,.int .i64 c] w (Gj w):=by
 unfold Vu;have H:=Y4 h;clear h;go_enter Tryz.func257,Tryz.ntmps257;go_wp2_with (go_at_call 125;refine(Vc _ T.bid _ _ (H.o.bid.ext (xE))).mono ?_;rintro e w1 ⟨rfl,hx1⟩);all_goals(go_ret;exact⟨_,rfl,xE⟩)
theorem Nc{S:Nat→Prop}(T:Tbl)(c:Int)(w:World)(h:Xl w S T):Calls Tryz.prog 239 #[Vu T,.int .i64 c] w (Gj w):=by
 unfold Vu;have H:=Y4 h;clear h;go_enter Tryz.func239,Tryz.ntmps239;go_wp2_with (first|(go_at_call 125;refine(Vc _ T.scr _ _ (H.o.scr.ext (xE))).mono ?_;rintro e w1 ⟨rfl,hx1⟩)|(go_at_call 113;refine(Jz _ _).mono ?_;rintro e w' ⟨rfl,rfl⟩)|(go_at_call 145;refine(Ee _ _).mono ?_;rintro e w' ⟨rfl,rfl⟩));all_goals(go_ret;exact⟨_,rfl,xE⟩)
theorem Id{S:Nat→Prop}(T:Tbl)(c:Int)(w:World)(h:Xl w S T):Calls Tryz.prog 238 #[Vu T,.int .i64 c] w fun e w'=>e=.returned (Ei T.ext c)∧Ext w w':=by
 unfold Vu;have H:=Y4 h;clear h;go_enter Tryz.func238,Tryz.ntmps238;go_wp2_with (go_at_call 111;refine(Wz _ T.ext _ _ (H.o.ext.ext (xE))).mono ?_;rintro e w1 ⟨rfl,hx1⟩);go_ret;exact⟨rfl,xE⟩
theorem Zua{S:Nat→Prop}(T:Tbl)(c:Int)(w:World)(h:Xl w S T):Calls Tryz.prog 258 #[Vu T,.int .i64 c] w fun e w'=>e=.returned (Ei T.pro c)∧Ext w w':=by
 unfold Vu;have H:=Y4 h;clear h;go_enter Tryz.func258,Tryz.ntmps258;go_wp2_with (go_at_call 111;refine(Wz _ T.pro _ _ (H.o.pro.ext (xE))).mono ?_;rintro e w1 ⟨rfl,hx1⟩);go_ret;exact⟨rfl,xE⟩
def Rm(T:Tbl)(c:Int):List Int:=if 65≤c∧c≤90 then[c+32]else Xg T.map c
theorem Wv(w:World)(z:Int)(t:TypeId)(g:Nat)(hg:w.heap.size=g):Xx (w.alloc (.cells #[.int .i64 z] t)) (fun _=>True) (.slice (some ⟨g,0,none⟩) 1 1) [z]:=by
 subst hg;have h1:(w.alloc (.cells #[.int .i64 z] t)).heap[w.heap.size]?=some (.cells #[.int .i64 z] t):=Zlo w _;refine⟨by simp,_,_,rfl,Yn _,by unfold maxLen;omega,fun _=>⟨_,_,rfl,trivial,(Zm3.1 h1).1,fun j u hu=>?_⟩⟩;simp only[World.cell?,h1];rw[Zlj,← hu];simp
theorem Xx.any{w:World}{S:Nat→Prop}{v:Value}{l:List Int}(h:Xx w S v l):Xx w (fun _=>True) v l:=Rd.mono h fun _ _ _=>trivial
theorem Zrm{S:Nat→Prop}(T:Tbl)(c:Int)(w:World)(h:Xl w S T):Calls Tryz.prog 225 #[Vu T,.int .i64 c] w fun e w'=>∃ v,e=.returned v∧Xx w' (fun _=>True) v (Rm T c)∧Ext w w':=by
 unfold Vu;have H:=Y4 h;clear h;go_enter Tryz.func225,Tryz.ntmps225;by_cases hc:65≤c∧c≤90
 ·have e1:Rm T c=[c+32]:=Zm4 hc;have Hc:=Y4 e1;have q1:IntKind.i64.wrap (c+32)=c+32:=Yp _ (by omega);obtain⟨d1,d2⟩:=hc;clear e1;go_wp2_with fail;go_ret;refine⟨.slice (some ⟨_,0,none⟩) 1 1,rfl,?_,xE⟩;rw[Hc.o];exact Wv _ _ _ _ (by simp)
 have e1:Rm T c=Xg T.map c:=Zm2 hc;have Hc:=Y4 e1;have hcc:¬ (65≤c)∨¬ (c≤90):=by omega
 have Hcc:=Y4 hcc;clear e1 hc hcc;cases h1:decide (65≤c)<;>cases h2:decide (c≤90)
 case true.true=>exact absurd Hcc.o (by simp at h1 h2;omega)
 all_goals
  go_wp2_with (go_at_call 111;refine(Wz _ T.map _ _ (H.o.map.ext (xE))).mono ?_;rintro e w1 ⟨rfl,hx1⟩);go_ret;refine⟨_,rfl,?_,xE⟩;rw[Hc.o];exact(Qv (H.o.map.ext (xE)).2).any
def Zwy(l:List Int)(c:Int):Bool:=l.any (· == c)
theorem Wk{S:Nat→Prop}(T:Tbl)(c:Int)(w:World)(h:Xl w S T):Calls Tryz.prog 147 #[Vu T,.int .i64 c] w fun e w'=>e=.returned (.bool (Zwy T.exc c))∧Ext w w':=by
 have he:=h.exc;clear h;obtain⟨A,C,hsv,hlC,hC⟩:=he.shape;unfold Vu;rw[hsv]at he⊢;obtain⟨n,hn⟩:=gnX (T.exc.length);have Hnn:=Y4 hn;have He:=Y4 he;unfold maxLen at hC;rw[hn]at hlC⊢;clear he hn hsv;go_enter Tryz.func147,Tryz.ntmps147;go_wp2_with fail;go_loopw [10] (fun o wr=>∃ i:Nat,i≤n∧o=.int .i64 (i:Int)∧Zwy (T.exc.take i) c=false∧Ext w wr) (fun o _=>n-(intOf o).toNat);case atStart=>exact⟨0,by omega,rfl,rfl,xE⟩
 obtain⟨i,hi,rfl,hno,hx⟩:=hrel;have Hno:=Y4 hno;have Hx:=Y4 hx;clear hno hx;by_cases hlt:i<n
 ·have hd:=LTd i n;have i0:(0:Int)≤(i:Int):=by omega
  have i1:(i:Int)<(n:Int):=by omega
  obtain⟨x,hs⟩:=geX (l:=(T.exc)) (i:=i) (by first|(rw[Hnn.o];exact hlt)|(have:=Hnn.o;omega));obtain⟨g,o,c',hvv,_,_,_,hgl,c0⟩:=(He.o.ext Hx.o).get hs;simp only[Ye]at hvv;obtain⟨rfl,-,rfl⟩:=hvv;have Hs:=Y4 hs;clear hs;cases h1:(x==c)
  ·have Hnx:=Y4 (show Zwy (T.exc.take (i+1)) c=false by
    have:=Hno.o;unfold Zwy at this⊢;rw[Za,Hs.o,Zj9,this];simpa using h1)
   go_wp2_with fail;go_roundw;case rel=>exact⟨i+1,by omega,by go_num,Hnx.o,(have hx:=Hx.o;xE)⟩
   simp[intOf];omega
  have Hyes:=Y4 (show Zwy T.exc c=true by
   unfold Zwy;rw[Zkt];exact⟨x,Zy Hs.o,h1⟩)
  go_wp2_with fail;go_ret;exact⟨by rw[Hyes.o];rfl,(have hx:=Hx.o;xE)⟩
 have hd:=GEl i n;have Hend:=Y4 (show Zwy T.exc c=false by
  have:=Hno.o
  rwa [Zm (by rw[Hnn.o];omega)]at this)
 go_wp2_with fail;go_ret;exact⟨by rw[Hend.o];rfl,(have hx:=Hx.o;xE)⟩
section
structure Gk(w:World)(g:Nat)(vs:List Value):Prop where
 lt:g<w.heap.size
 at_:∀ i v,vs[i]?=some v→w.cell? ⟨g,i,none⟩=some v
theorem Gk.ext{w w':World}{g:Nat}{vs:List Value}(h:Gk w g vs)(x:Ext w w'):Gk w' g vs :=
 ⟨Zm1 h.lt x.size,fun i v hv=>(x.cell (p:=⟨g,i,none⟩) h.lt).trans (h.at_ i v hv)⟩
theorem Js(w:World)(cs:Array Value)(t:TypeId)(g:Nat)(hg:w.heap.size=g):Gk (w.alloc (.cells cs t)) g cs.toList:=by
 subst hg;have h1:(w.alloc (.cells cs t)).heap[w.heap.size]?=some (.cells cs t):=Zlo w _;refine⟨(Zm3.1 h1).1,fun i v hv=>?_⟩;simp only[World.cell?,h1];rw[← hv];simp
def Ib(T:Tbl):List (Value×List Sp):=[(T.catV,T.cat),(T.clsV,T.cls),(T.joiV,T.joi),(T.bidV,T.bid),(T.scrV,T.scr),(T.staV,T.sta),(T.ignV,T.ign)]
def Iy(T:Tbl):List (Value×List Mp):=[(T.extV,T.ext),(T.mapV,T.map),(T.decV,T.dec),(T.proV,T.pro)]
theorem Ztu{w:World}{S:Nat→Prop}{T:Tbl}(h:Xl w S T):∀ p∈Ib T,Vv w S p.1 p.2:=by
 intro p hp;simp only[Ib,Zg,Zh,Zl8]at hp;rcases hp with rfl|rfl|rfl|rfl|rfl|rfl|rfl
 ·exact h.cat
 ·exact h.cls
 ·exact h.joi
 ·exact h.bid
 ·exact h.scr
 ·exact h.sta
 exact h.ign
theorem Zuv{w:World}{S:Nat→Prop}{T:Tbl}(h:Xl w S T):∀ p∈Iy T,Ka w S p.1 p.2:=by
 intro p hp;simp only[Iy,Zg,Zh,Zl8]at hp;rcases hp with rfl|rfl|rfl|rfl
 ·exact h.ext
 ·exact h.map
 ·exact h.dec
 exact h.pro
def Zwi(T:Tbl)(w:World)(e:Ending)(w':World):Prop :=
 ∃ g1 g2:Nat,e=.returned (.tuple #[.slice (some ⟨g1,0,none⟩) 7 7,.slice (some ⟨g2,0,none⟩) 7 7])∧Gk w' g1 ((Ib T).map (·.1))∧Gk w' g2 ([8,254,5,11,60,4,1].map (Value.int .i64))∧Ext w w'
theorem Lg{S:Nat→Prop}(T:Tbl)(w:World)(h:Xl w S T):Calls Tryz.prog 137 #[Vu T] w (Zwi T w):=by
 obtain⟨A0,C0,e0,_,_⟩:=h.cat.shape;obtain⟨A1,C1,e1,_,_⟩:=h.cls.shape;obtain⟨A2,C2,e2,_,_⟩:=h.joi.shape;obtain⟨A3,C3,e3,_,_⟩:=h.bid.shape;obtain⟨A4,C4,e4,_,_⟩:=h.scr.shape;obtain⟨A5,C5,e5,_,_⟩:=h.sta.shape;obtain⟨A6,C6,e6,_,_⟩:=h.ign.shape;clear h;unfold Vu;go_enter Tryz.func137,Tryz.ntmps137;go_wp2_with fail;go_ret2;refine⟨w.heap.size+1,w.heap.size+2,?_,?_,?_,xE⟩
 ·simp
 ·simp only[Ib,Zlg,Zl2,e0,e1,e2,e3,e4,e5,e6];exact(Js _ _ _ _ (by simp)).ext ((Yl _).alloc _)
 exact Js _ _ _ _ (by simp)
def Zss(T:Tbl)(w:World)(e:Ending)(w':World):Prop :=
 ∃ g1:Nat,e=.returned (.slice (some ⟨g1,0,none⟩) 4 4)∧Gk w' g1 ((Iy T).map (·.1))∧Ext w w'
theorem Ut{S:Nat→Prop}(T:Tbl)(w:World)(h:Xl w S T):Calls Tryz.prog 138 #[Vu T] w (Zss T w):=by
 obtain⟨A0,C0,e0,_,_⟩:=h.ext.shape;obtain⟨A1,C1,e1,_,_⟩:=h.map.shape;obtain⟨A2,C2,e2,_,_⟩:=h.dec.shape;obtain⟨A3,C3,e3,_,_⟩:=h.pro.shape;clear h;unfold Vu;go_enter Tryz.func138,Tryz.ntmps138;go_wp2_with fail;go_ret;refine⟨w.heap.size+1,?_,?_,xE⟩
 ·simp
 simp only[Iy,Zlg,Zl2,e0,e1,e2,e3];exact Js _ _ _ _ (by simp)
def Qw(T:Tbl):List Value:=[T.catV,T.clsV,T.joiV,T.bidV,T.scrV,T.staV,T.ignV,T.extV,T.mapV,T.decV,T.excV,T.proV]
def Xe(T:Tbl):Obj:=.cells (Qw T).toArray 34
structure Jm(w:World)(b:Nat)(T:Tbl):Prop where
 lt:b<w.heap.size
 at_:∀ k,k<12→w.cell? ⟨b,k,none⟩=(Qw T)[k]?
theorem Jm.ext{w w':World}{b:Nat}{T:Tbl}(h:Jm w b T)(x:Ext w w'):Jm w' b T :=
 ⟨Zm1 h.lt x.size,fun k hk=>(x.cell (p:=⟨b,k,none⟩) h.lt).trans (h.at_ k hk)⟩
theorem Xm(w:World)(T:Tbl):Jm (w.alloc (Xe T)) w.heap.size T:=by
 refine⟨by simp,fun k hk=>?_⟩;unfold Xe;rw[cell_of_row _ _ k (Qw T).toArray 34 (0,0) (Zlo w _)];simp
theorem L9:(Tryz.prog.underlying 34).map TypeDesc.isRow=some true:=by kernel_rfl
theorem Gy:(Tryz.prog.info? 34).map (·.size)=some 12:=by kernel_rfl
theorem Jm.range{w:World}{b:Nat}{T:Tbl}(h:Jm w b T):w.rangeAt b 0 (Qw T):=fun j v hv=>by
 rw[Zlj,h.at_ j (Zr.1 hv).1,hv]
section
variable {ops:Array Oper} {rest:List Oper} {dst:Option Nat} {x:Operand} {t:TypeId} {pos:String} {af:Array Edge} {a:Act} {w:World} {Q:Exit→Act→World→Prop} {b:Nat} {T:Tbl}
theorem Xw(hx:a.eval x=Vu T)(hK:wpList Tryz.prog ops Q rest (a.put dst (.pointer (some ⟨w.heap.size,0,none⟩))) (w.alloc (Xe T))) :
 wpList Tryz.prog ops Q ({dst:=dst,op:=.box 34 x,type:=t,pos:=pos,after:=af,guard:=none}::rest) a w:=by
 refine Zj3 rfl fun K hK'=>?_
 unfold Oper.wp execOp;have hc:(a.eval x).cells=(Qw T).toArray:=by rw[hx];rfl
 simp only[Zjw,Instr.box,newVar,newRow,run_newObj_alloc,Zjv,Zkp,hc];exact hK' _ _ hK
theorem Xz(h:Jm w b T)(hx:a.eval x=.pointer (some ⟨b,0,none⟩))(hK:wpList Tryz.prog ops Q rest (a.put dst (Vu T)) w) :
 wpList Tryz.prog ops Q ({dst:=dst,op:=.load 34 x,type:=t,pos:=pos,after:=af,guard:=none}::rest) a w:=by
 have hu:=L9;rw[Zlk]at hu;obtain⟨d,hu,hd⟩:=hu;exact Zi1 rfl _ x rfl b 0 hx (Qw T) d h.range hu hd (by rw[Gy];rfl) hK
end
theorem lat{W:World}{b o:Nat}{v:Value}(h:W.cell? ⟨b,o,none⟩=some v):∀ k os,(later W k os).cell? ⟨b,o,none⟩=some v:=fun k os=>(Oq W k os b o (lt_of_cell h)).trans h
theorem Vs(i:Nat)(h0:0<i)(h1:i≤9223372036854775807):IntKind.i64.wrap ((i:Int)-1)=((i-1:Nat):Int):=by
 rw[Yp _ (by omega)];omega
end
def Fx(s:ByteArray):Nat→Int
 | 1=>if _h:0<s.size then wrap64 (s[0].toNat:Int)else 0
 | 2=>if _h:1<s.size then IntKind.i64.wrap (IntKind.i64.wrap (IntKind.i64.wrap (IntKind.i64.wrap (IntKind.i64.wrap (s[0].toNat:Int)-192)*64)+IntKind.i64.wrap (s[1].toNat:Int))-128)else 0
 | 3=>if _h:2<s.size then IntKind.i64.wrap (IntKind.i64.wrap (IntKind.i64.wrap (IntKind.i64.wrap (IntKind.i64.wrap (IntKind.i64.wrap (s[0].toNat:Int)-224)*4096)+IntKind.i64.wrap (IntKind.i64.wrap (IntKind.i64.wrap (s[1].toNat:Int)-128)*64))+IntKind.i64.wrap (s[2].toNat:Int))-128)else 0
 | 4=>if _h:3<s.size then IntKind.i64.wrap (IntKind.i64.wrap (IntKind.i64.wrap (IntKind.i64.wrap (IntKind.i64.wrap (IntKind.i64.wrap (IntKind.i64.wrap (s[0].toNat:Int)-240)*262144)+IntKind.i64.wrap (IntKind.i64.wrap (IntKind.i64.wrap (s[1].toNat:Int)-128)*4096))+IntKind.i64.wrap (IntKind.i64.wrap (IntKind.i64.wrap (s[2].toNat:Int)-128)*64))+IntKind.i64.wrap (s[3].toNat:Int))-128)else 0
 | _=>0
def Gz(s:ByteArray)(k:Nat):Bool:=(Zy8 (Fx s k)==(k:Int))&&((bs (u8L (Mx (Fx s k)))).toList==(s.extract 0 k).toList)
def K7(s:ByteArray):Nat :=
 if 1≤s.size∧Gz s 1=true then 1 else if 2≤s.size∧Gz s 2=true then 2 else if 3≤s.size∧Gz s 3=true then 3 else if 4≤s.size∧Gz s 4=true then 4 else 0
theorem U9(s:ByteArray)(k:Nat)(h1:1≤k)(h4:k≤4)(hs:k≤s.size)(hy:Gz s k=true)(hall:∀ j,1≤j→j<k→j≤s.size→Gz s j=false):K7 s=k:=by
 have hn:∀ j,1≤j→j<k→¬ (j≤s.size∧Gz s j=true):=fun j a b c=>by rw[hall j a b c.1]at c;exact absurd c.2 (by simp)
 unfold K7;rcases(show k=1∨k=2∨k=3∨k=4 by omega)with rfl|rfl|rfl|rfl
 ·rw[Zm4 ⟨hs,hy⟩]
 ·rw[Zm2 (hn 1 (by omega) (by omega)),Zm4 ⟨hs,hy⟩]
 ·rw[Zm2 (hn 1 (by omega) (by omega)),Zm2 (hn 2 (by omega) (by omega)),Zm4 ⟨hs,hy⟩]
 rw[Zm2 (hn 1 (by omega) (by omega)),Zm2 (hn 2 (by omega) (by omega)),Zm2 (hn 3 (by omega) (by omega)),Zm4 ⟨hs,hy⟩]
theorem Zvq(s:ByteArray)(k:Nat)(h1:1≤k)(h5:k≤5)(hs:¬ (k≤4∧k≤s.size))(hall:∀ j,1≤j→j<k→j≤s.size→Gz s j=false):K7 s=0:=by
 have hn:∀ j,1≤j→j≤4→¬ (j≤s.size∧Gz s j=true):=fun j a b c=>by
  by_cases hj:j<k
  ·rw[hall j a hj c.1]at c;exact absurd c.2 (by simp)
  omega
 unfold K7;rw[Zm2 (hn 1 (by omega) (by omega)),Zm2 (hn 2 (by omega) (by omega)),Zm2 (hn 3 (by omega) (by omega)),Zm2 (hn 4 (by omega) (by omega))]
theorem Zvr(s:ByteArray):K7 s≤s.size:=by
 unfold K7;split
 ·omega
 split
 ·omega
 split
 ·omega
 split<;>omega
def Nx(s:ByteArray):Int:=Fx s (K7 s)
theorem first_any(s:ByteArray)(hs:s.size≤maxLen)(w:World):Calls Tryz.prog 246 #[.string s] w fun e w'=>e=.returned (.tuple #[.int .i64 (Nx s),.int .i64 (K7 s:Int)])∧Ext w w':=by
 unfold Nx;unfold maxLen at hs;go_enter Tryz.func246,Tryz.ntmps246;go_wp2_with fail;go_loopw [4] (fun o wr=>∃ k:Nat,1≤k∧k≤5∧o=.int .i64 (k:Int)∧Aside (∀ j,1≤j→j<k→j≤s.size→Gz s j=false)∧Ext w wr) (fun o _=>5-(intOf o).toNat);case atStart=>exact⟨1,by omega,by omega,rfl,fun j h1 h2 _=>by omega,Yl _⟩
 obtain⟨k,hk1,hk5,rfl,hall,hx⟩:=hrel;have Hall:=Zlb hall.out;have Hx:=Zlb hx;clear hx hall;by_cases hlt:k≤4∧k≤s.size
 ·obtain⟨h4,hsz⟩:=hlt;have d1:decide ((k:Int)≤(4:Int))=true:=Yf;have d2:decide ((k:Int)≤(s.size:Int))=true:=Yf;rcases(show k=1∨k=2∨k=3∨k=4 by omega)with rfl|rfl|rfl|rfl
  ·have p0:0<s.size:=by omega
   go_wp2_with fail;obtain⟨V,hV⟩:∃ V:Int,Fx s 1=V:=⟨_,rfl⟩;rw[show wrap64 (s[0].toNat:Int)=V from by rw[← hV];simp only[Fx];rw[Zhy p0]];have HV:=Zlb hV;clear hV;cases q1:(Zy8 V==(1:Int))
   ·have Hno:=Zlb (show Gz s 1=false by unfold Gz;rw[HV.out,show((1:Nat):Int)=(1:Int) from rfl,q1];rfl);have hun:=Yb;refine Y8 (by kernel_rfl) (by kernel_rfl) ?_;repeat((with_reducible refine Yu ?_);intro K hK;go_simp;first|((with_reducible refine hK _ ?_);clear hK K)|(apply Exists.intro;refine⟨fun _=>?_,hK _ ?_⟩;(first|(go_at_call 186;exact Xs (len_any _ _))|(go_at_call 166;exact Xy (one_any _ _)));clear hK K))
    (with_reducible refine Yt ?_)
    intro w3 hy3;clear hun;try simp only[Yc]
    have hx:=Hx.out;go_wp2_with fail;refine⟨⟨1+1,by omega,by omega,rfl,fun j h1 h2 h3=>?_,xE⟩,by simp[intOf]⟩;rcases(show j<1∨j=1 by omega)with h|rfl
    ·exact Hall.out j h1 h h3
    exact Hno.out
   cases q2:((bs (u8L (Mx V))).toList==(s.extract 0 1).toList)
   ·have Hno:=Zlb (show Gz s 1=false by unfold Gz;rw[HV.out,q2];simp);have hun:=Yb;refine Y8 (by kernel_rfl) (by kernel_rfl) ?_;repeat((with_reducible refine Yu ?_);intro K hK;go_simp;first|((with_reducible refine hK _ ?_);clear hK K)|(apply Exists.intro;refine⟨fun _=>?_,hK _ ?_⟩;(first|(go_at_call 186;exact Xs (len_any _ _))|(go_at_call 166;exact Xy (one_any _ _)));clear hK K))
    (with_reducible refine Yt ?_)
    intro w3 hy3;clear hun;try simp only[Yc]
    have hx:=Hx.out;go_wp2_with fail;refine⟨⟨1+1,by omega,by omega,rfl,fun j h1 h2 h3=>?_,xE⟩,by simp[intOf]⟩;rcases(show j<1∨j=1 by omega)with h|rfl
    ·exact Hall.out j h1 h h3
    exact Hno.out
   have Hyes:=Zlb (show Gz s 1=true by unfold Gz;rw[HV.out,q2];simp at q1⊢;exact q1);have hun:=Yb;refine Y8 (by kernel_rfl) (by kernel_rfl) ?_;repeat((with_reducible refine Yu ?_);intro K hK;go_simp;first|((with_reducible refine hK _ ?_);clear hK K)|(apply Exists.intro;refine⟨fun _=>?_,hK _ ?_⟩;(first|(go_at_call 186;exact Xs (len_any _ _))|(go_at_call 166;exact Xy (one_any _ _)));clear hK K))
   (with_reducible refine Yt ?_)
   intro w3 hy3;clear hun;try simp only[Yc]
   have hx:=Hx.out;go_wp2_with fail;go_ret2;exact⟨by rw[U9 s 1 (by omega) (by omega) hsz Hyes.out Hall.out,HV.out];rfl,xE⟩
  ·have p0:0<s.size:=by omega
   have p1:1<s.size:=by omega
   have r1:(1:Int)<(s.size:Int):=by omega
   have hun:=Yb;go_wp2_with fail;refine Y8 (by kernel_rfl) (by kernel_rfl) ?_;repeat((with_reducible refine Yu ?_);intro K hK;go_simp;first|((with_reducible refine hK _ ?_);clear hK K)|(apply Exists.intro;refine⟨fun _=>?_,hK _ ?_⟩;(first|(go_at_call 186;exact Xs (len_any _ _))|(go_at_call 166;exact Xy (one_any _ _)));clear hK K))
   (with_reducible refine Yt ?_)
   intro w2 hy;clear hun;try simp only[Yc]
   go_wp2_with fail;obtain⟨V,hV⟩:∃ V:Int,Fx s 2=V:=⟨_,rfl⟩;rw[show IntKind.i64.wrap (IntKind.i64.wrap (IntKind.i64.wrap (IntKind.i64.wrap (IntKind.i64.wrap (s[0].toNat:Int)-192)*64)+IntKind.i64.wrap (s[1].toNat:Int))-128)=V from by rw[← hV];simp only[Fx];rw[Zhy p1]];have HV:=Zlb hV;clear hV;cases q1:(Zy8 V==(2:Int))
   ·have Hno:=Zlb (show Gz s 2=false by unfold Gz;rw[HV.out,show((2:Nat):Int)=(2:Int) from rfl,q1];rfl);have hun:=Yb;refine Y8 (by kernel_rfl) (by kernel_rfl) ?_;repeat((with_reducible refine Yu ?_);intro K hK;go_simp;first|((with_reducible refine hK _ ?_);clear hK K)|(apply Exists.intro;refine⟨fun _=>?_,hK _ ?_⟩;(first|(go_at_call 186;exact Xs (len_any _ _))|(go_at_call 166;exact Xy (one_any _ _)));clear hK K))
    (with_reducible refine Yt ?_)
    intro w3 hy3;clear hun;try simp only[Yc]
    have hx:=Hx.out;go_wp2_with fail;refine⟨⟨2+1,by omega,by omega,rfl,fun j h1 h2 h3=>?_,xE⟩,by simp[intOf]⟩;rcases(show j<2∨j=2 by omega)with h|rfl
    ·exact Hall.out j h1 h h3
    exact Hno.out
   cases q2:((bs (u8L (Mx V))).toList==(s.extract 0 2).toList)
   ·have Hno:=Zlb (show Gz s 2=false by unfold Gz;rw[HV.out,q2];simp);have hun:=Yb;refine Y8 (by kernel_rfl) (by kernel_rfl) ?_;repeat((with_reducible refine Yu ?_);intro K hK;go_simp;first|((with_reducible refine hK _ ?_);clear hK K)|(apply Exists.intro;refine⟨fun _=>?_,hK _ ?_⟩;(first|(go_at_call 186;exact Xs (len_any _ _))|(go_at_call 166;exact Xy (one_any _ _)));clear hK K))
    (with_reducible refine Yt ?_)
    intro w3 hy3;clear hun;try simp only[Yc]
    have hx:=Hx.out;go_wp2_with fail;refine⟨⟨2+1,by omega,by omega,rfl,fun j h1 h2 h3=>?_,xE⟩,by simp[intOf]⟩;rcases(show j<2∨j=2 by omega)with h|rfl
    ·exact Hall.out j h1 h h3
    exact Hno.out
   have Hyes:=Zlb (show Gz s 2=true by unfold Gz;rw[HV.out,q2];simp at q1⊢;exact q1);have hun:=Yb;refine Y8 (by kernel_rfl) (by kernel_rfl) ?_;repeat((with_reducible refine Yu ?_);intro K hK;go_simp;first|((with_reducible refine hK _ ?_);clear hK K)|(apply Exists.intro;refine⟨fun _=>?_,hK _ ?_⟩;(first|(go_at_call 186;exact Xs (len_any _ _))|(go_at_call 166;exact Xy (one_any _ _)));clear hK K))
   (with_reducible refine Yt ?_)
   intro w3 hy3;clear hun;try simp only[Yc]
   have hx:=Hx.out;go_wp2_with fail;go_ret2;exact⟨by rw[U9 s 2 (by omega) (by omega) hsz Hyes.out Hall.out,HV.out];rfl,xE⟩
  ·have p0:0<s.size:=by omega
   have p1:1<s.size:=by omega
   have r1:(1:Int)<(s.size:Int):=by omega
   have p2:2<s.size:=by omega
   have r2:(2:Int)<(s.size:Int):=by omega
   have hun:=Yb;go_wp2_with fail;refine Y8 (by kernel_rfl) (by kernel_rfl) ?_;repeat((with_reducible refine Yu ?_);intro K hK;go_simp;first|((with_reducible refine hK _ ?_);clear hK K)|(apply Exists.intro;refine⟨fun _=>?_,hK _ ?_⟩;(first|(go_at_call 186;exact Xs (len_any _ _))|(go_at_call 166;exact Xy (one_any _ _)));clear hK K))
   (with_reducible refine Yt ?_)
   intro w2 hy;clear hun;try simp only[Yc]
   go_wp2_with fail;obtain⟨V,hV⟩:∃ V:Int,Fx s 3=V:=⟨_,rfl⟩;rw[show IntKind.i64.wrap (IntKind.i64.wrap (IntKind.i64.wrap (IntKind.i64.wrap (IntKind.i64.wrap (IntKind.i64.wrap (s[0].toNat:Int)-224)*4096)+IntKind.i64.wrap (IntKind.i64.wrap (IntKind.i64.wrap (s[1].toNat:Int)-128)*64))+IntKind.i64.wrap (s[2].toNat:Int))-128)=V from by rw[← hV];simp only[Fx];rw[Zhy p2]];have HV:=Zlb hV;clear hV;cases q1:(Zy8 V==(3:Int))
   ·have Hno:=Zlb (show Gz s 3=false by unfold Gz;rw[HV.out,show((3:Nat):Int)=(3:Int) from rfl,q1];rfl);have hun:=Yb;refine Y8 (by kernel_rfl) (by kernel_rfl) ?_;repeat((with_reducible refine Yu ?_);intro K hK;go_simp;first|((with_reducible refine hK _ ?_);clear hK K)|(apply Exists.intro;refine⟨fun _=>?_,hK _ ?_⟩;(first|(go_at_call 186;exact Xs (len_any _ _))|(go_at_call 166;exact Xy (one_any _ _)));clear hK K))
    (with_reducible refine Yt ?_)
    intro w3 hy3;clear hun;try simp only[Yc]
    have hx:=Hx.out;go_wp2_with fail;refine⟨⟨3+1,by omega,by omega,rfl,fun j h1 h2 h3=>?_,xE⟩,by simp[intOf]⟩;rcases(show j<3∨j=3 by omega)with h|rfl
    ·exact Hall.out j h1 h h3
    exact Hno.out
   cases q2:((bs (u8L (Mx V))).toList==(s.extract 0 3).toList)
   ·have Hno:=Zlb (show Gz s 3=false by unfold Gz;rw[HV.out,q2];simp);have hun:=Yb;refine Y8 (by kernel_rfl) (by kernel_rfl) ?_;repeat((with_reducible refine Yu ?_);intro K hK;go_simp;first|((with_reducible refine hK _ ?_);clear hK K)|(apply Exists.intro;refine⟨fun _=>?_,hK _ ?_⟩;(first|(go_at_call 186;exact Xs (len_any _ _))|(go_at_call 166;exact Xy (one_any _ _)));clear hK K))
    (with_reducible refine Yt ?_)
    intro w3 hy3;clear hun;try simp only[Yc]
    have hx:=Hx.out;go_wp2_with fail;refine⟨⟨3+1,by omega,by omega,rfl,fun j h1 h2 h3=>?_,xE⟩,by simp[intOf]⟩;rcases(show j<3∨j=3 by omega)with h|rfl
    ·exact Hall.out j h1 h h3
    exact Hno.out
   have Hyes:=Zlb (show Gz s 3=true by unfold Gz;rw[HV.out,q2];simp at q1⊢;exact q1);have hun:=Yb;refine Y8 (by kernel_rfl) (by kernel_rfl) ?_;repeat((with_reducible refine Yu ?_);intro K hK;go_simp;first|((with_reducible refine hK _ ?_);clear hK K)|(apply Exists.intro;refine⟨fun _=>?_,hK _ ?_⟩;(first|(go_at_call 186;exact Xs (len_any _ _))|(go_at_call 166;exact Xy (one_any _ _)));clear hK K))
   (with_reducible refine Yt ?_)
   intro w3 hy3;clear hun;try simp only[Yc]
   have hx:=Hx.out;go_wp2_with fail;go_ret2;exact⟨by rw[U9 s 3 (by omega) (by omega) hsz Hyes.out Hall.out,HV.out];rfl,xE⟩
  have p0:0<s.size:=by omega
  have p1:1<s.size:=by omega
  have r1:(1:Int)<(s.size:Int):=by omega
  have p2:2<s.size:=by omega
  have r2:(2:Int)<(s.size:Int):=by omega
  have p3:3<s.size:=by omega
  have r3:(3:Int)<(s.size:Int):=by omega
  have hun:=Yb;go_wp2_with fail;refine Y8 (by kernel_rfl) (by kernel_rfl) ?_;repeat((with_reducible refine Yu ?_);intro K hK;go_simp;first|((with_reducible refine hK _ ?_);clear hK K)|(apply Exists.intro;refine⟨fun _=>?_,hK _ ?_⟩;(first|(go_at_call 186;exact Xs (len_any _ _))|(go_at_call 166;exact Xy (one_any _ _)));clear hK K))
  (with_reducible refine Yt ?_)
  intro w2 hy;clear hun;try simp only[Yc]
  go_wp2_with fail;obtain⟨V,hV⟩:∃ V:Int,Fx s 4=V:=⟨_,rfl⟩;rw[show IntKind.i64.wrap (IntKind.i64.wrap (IntKind.i64.wrap (IntKind.i64.wrap (IntKind.i64.wrap (IntKind.i64.wrap (IntKind.i64.wrap (s[0].toNat:Int)-240)*262144)+IntKind.i64.wrap (IntKind.i64.wrap (IntKind.i64.wrap (s[1].toNat:Int)-128)*4096))+IntKind.i64.wrap (IntKind.i64.wrap (IntKind.i64.wrap (s[2].toNat:Int)-128)*64))+IntKind.i64.wrap (s[3].toNat:Int))-128)=V from by rw[← hV];simp only[Fx];rw[Zhy p3]];have HV:=Zlb hV;clear hV;cases q1:(Zy8 V==(4:Int))
  ·have Hno:=Zlb (show Gz s 4=false by unfold Gz;rw[HV.out,show((4:Nat):Int)=(4:Int) from rfl,q1];rfl);have hun:=Yb;refine Y8 (by kernel_rfl) (by kernel_rfl) ?_;repeat((with_reducible refine Yu ?_);intro K hK;go_simp;first|((with_reducible refine hK _ ?_);clear hK K)|(apply Exists.intro;refine⟨fun _=>?_,hK _ ?_⟩;(first|(go_at_call 186;exact Xs (len_any _ _))|(go_at_call 166;exact Xy (one_any _ _)));clear hK K))
   (with_reducible refine Yt ?_)
   intro w3 hy3;clear hun;try simp only[Yc]
   have hx:=Hx.out;go_wp2_with fail;refine⟨⟨4+1,by omega,by omega,rfl,fun j h1 h2 h3=>?_,xE⟩,by simp[intOf]⟩;rcases(show j<4∨j=4 by omega)with h|rfl
   ·exact Hall.out j h1 h h3
   exact Hno.out
  cases q2:((bs (u8L (Mx V))).toList==(s.extract 0 4).toList)
  ·have Hno:=Zlb (show Gz s 4=false by unfold Gz;rw[HV.out,q2];simp);have hun:=Yb;refine Y8 (by kernel_rfl) (by kernel_rfl) ?_;repeat((with_reducible refine Yu ?_);intro K hK;go_simp;first|((with_reducible refine hK _ ?_);clear hK K)|(apply Exists.intro;refine⟨fun _=>?_,hK _ ?_⟩;(first|(go_at_call 186;exact Xs (len_any _ _))|(go_at_call 166;exact Xy (one_any _ _)));clear hK K))
   (with_reducible refine Yt ?_)
   intro w3 hy3;clear hun;try simp only[Yc]
   have hx:=Hx.out;go_wp2_with fail;refine⟨⟨4+1,by omega,by omega,rfl,fun j h1 h2 h3=>?_,xE⟩,by simp[intOf]⟩;rcases(show j<4∨j=4 by omega)with h|rfl
   ·exact Hall.out j h1 h h3
   exact Hno.out
  have Hyes:=Zlb (show Gz s 4=true by unfold Gz;rw[HV.out,q2];simp at q1⊢;exact q1);have hun:=Yb;refine Y8 (by kernel_rfl) (by kernel_rfl) ?_;repeat((with_reducible refine Yu ?_);intro K hK;go_simp;first|((with_reducible refine hK _ ?_);clear hK K)|(apply Exists.intro;refine⟨fun _=>?_,hK _ ?_⟩;(first|(go_at_call 186;exact Xs (len_any _ _))|(go_at_call 166;exact Xy (one_any _ _)));clear hK K))
  (with_reducible refine Yt ?_)
  intro w3 hy3;clear hun;try simp only[Yc]
  have hx:=Hx.out;go_wp2_with fail;go_ret2;exact⟨by rw[U9 s 4 (by omega) (by omega) hsz Hyes.out Hall.out,HV.out];rfl,xE⟩
 have hfin:=Zlb (Zvq s k hk1 hk5 hlt Hall.out);by_cases h4:k≤4
 ·have d1:decide ((k:Int)≤(4:Int))=true:=Yf;have d2:decide ((k:Int)≤(s.size:Int))=false:=Yg;have hx:=Hx.out;go_wp2_with fail;go_ret2;exact⟨by rw[hfin.out];rfl,xE⟩
 have d1:decide ((k:Int)≤(4:Int))=false:=Yg;have hx:=Hx.out;go_wp2_with fail;go_ret2;exact⟨by rw[hfin.out];rfl,xE⟩
end Go.Proofs.YtnbclgbicnpmnaaGreat
