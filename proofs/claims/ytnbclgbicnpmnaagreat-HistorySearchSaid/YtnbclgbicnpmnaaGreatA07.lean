/- Lemmas of this claim: RC, RD, RN. Conditions: as named. -/
import Derived.Test.YtnbclgbicnpmnaaGreatA06
namespace Go.Proofs.YtnbclgbicnpmnaaGreat
open Go.RowKit Go.Sort
set_option maxHeartbeats 0
set_option maxRecDepth 100000
set_option linter.all false
def K3(w:World)(e:Ending)(w':World):Prop:=∃ v:Int,e=.returned (.int .i64 v)∧Ext w w'
def V0(w:World)(e:Ending)(w':World):Prop:=∃ v:Bool,e=.returned (.bool v)∧Ext w w'
theorem Xq{S:Nat→Prop}(T:Tbl)(c:Int)(w:World)(h:Xn w S T):Calls Tryz.prog 148 #[Vt T,.int .i64 c] w fun e w'=>e=.returned (.int .i64 (Wp T.cls c))∧Ext w w':=by
 unfold Vt;have H:=Ya h;clear h;go_enter Tryz.func148,Tryz.ntmps148;go_wp2_with (go_at_call 125;refine(V5 _ T.cls _ _ (H.o.cls.ext (xE))).mono ?_;rintro e w1 ⟨rfl,hx1⟩);go_ret;exact⟨rfl,xE⟩
theorem Vi{S:Nat→Prop}(T:Tbl)(c:Int)(w:World)(h:Xn w S T):Calls Tryz.prog 266 #[Vt T,.int .i64 c] w fun e w'=>e=.returned (.int .i64 (Wp T.joi c))∧Ext w w':=by
 unfold Vt;have H:=Ya h;clear h;go_enter Tryz.func266,Tryz.ntmps266;go_wp2_with (go_at_call 125;refine(V5 _ T.joi _ _ (H.o.joi.ext (xE))).mono ?_;rintro e w1 ⟨rfl,hx1⟩);go_ret;exact⟨rfl,xE⟩
theorem V1{S:Nat→Prop}(T:Tbl)(c:Int)(w:World)(h:Xn w S T):Calls Tryz.prog 87 #[Vt T,.int .i64 c] w fun e w'=>e=.returned (.bool (Wp T.ign c==1))∧Ext w w':=by
 unfold Vt;have H:=Ya h;clear h;go_enter Tryz.func87,Tryz.ntmps87;go_wp2_with (go_at_call 125;refine(V5 _ T.ign _ _ (H.o.ign.ext (xE))).mono ?_;rintro e w1 ⟨rfl,hx1⟩);go_ret;exact⟨rfl,xE⟩
def Zs3(T:Tbl)(c:Int):Int:=if Zpi c=true∨c=46∨Bu c=true then 1 else if 65≤c∧c≤90 then 3 else Wp T.sta c
theorem Qp{S:Nat→Prop}(T:Tbl)(c:Int)(w:World)(h:Xn w S T):Calls Tryz.prog 144 #[Vt T,.int .i64 c] w fun e w'=>e=.returned (.int .i64 (Zs3 T c))∧Ext w w':=by
 unfold Vt;have H:=Ya h;clear h;go_enter Tryz.func144,Tryz.ntmps144;cases hl:Zpi c<;>cases hd:(c==46)<;>cases hs:Bu c<;>cases h1:decide (65≤c)<;>cases h2:decide (c≤90)
 all_goals
  have Hl:=Ya hl;have Hs:=Ya hs;have Hd:=Ya hd;have H1:=Ya h1;have H2:=Ya h2;go_wp2_with (first|(go_at_call 125;refine(V5 _ T.sta _ _ (H.o.sta.ext (xE))).mono ?_;rintro e w1 ⟨rfl,hx1⟩)|(go_at_call 113;refine(Jv _ _).mono ?_;rintro e w' ⟨rfl,rfl⟩;rw[hs])|(go_at_call 142;refine(Ge _ _).mono ?_;rintro e w' ⟨rfl,rfl⟩;rw[hl]));go_ret;refine⟨Pc ?_,xE⟩;have g1:=Hd.o;have g2:=H1.o;have g3:=H2.o;simp at g1 g2 g3;unfold Zs3;rw[Hl.o,Hs.o];simp[g1];try omega
theorem Rl{S:Nat→Prop}(T:Tbl)(c:Int)(w:World)(h:Xn w S T):Calls Tryz.prog 232 #[Vt T,.int .i64 c] w (K3 w):=by
 unfold Vt;have H:=Ya h;clear h;go_enter Tryz.func232,Tryz.ntmps232;go_wp2_with (first|(go_at_call 125;refine(V5 _ T.cat _ _ (H.o.cat.ext (xE))).mono ?_;rintro e w1 ⟨rfl,hx1⟩)|(go_at_call 113;refine(Jv _ _).mono ?_;rintro e w' ⟨rfl,rfl⟩)|(go_at_call 145;refine(E6 _ _).mono ?_;rintro e w' ⟨rfl,rfl⟩));all_goals(go_ret;exact⟨_,rfl,xE⟩)
theorem Of{S:Nat→Prop}(T:Tbl)(c:Int)(w:World)(h:Xn w S T):Calls Tryz.prog 257 #[Vt T,.int .i64 c] w (K3 w):=by
 unfold Vt;have H:=Ya h;clear h;go_enter Tryz.func257,Tryz.ntmps257;go_wp2_with (go_at_call 125;refine(V5 _ T.bid _ _ (H.o.bid.ext (xE))).mono ?_;rintro e w1 ⟨rfl,hx1⟩);all_goals(go_ret;exact⟨_,rfl,xE⟩)
theorem Ov{S:Nat→Prop}(T:Tbl)(c:Int)(w:World)(h:Xn w S T):Calls Tryz.prog 239 #[Vt T,.int .i64 c] w (K3 w):=by
 unfold Vt;have H:=Ya h;clear h;go_enter Tryz.func239,Tryz.ntmps239;go_wp2_with (first|(go_at_call 125;refine(V5 _ T.scr _ _ (H.o.scr.ext (xE))).mono ?_;rintro e w1 ⟨rfl,hx1⟩)|(go_at_call 113;refine(Jv _ _).mono ?_;rintro e w' ⟨rfl,rfl⟩)|(go_at_call 145;refine(E6 _ _).mono ?_;rintro e w' ⟨rfl,rfl⟩));all_goals(go_ret;exact⟨_,rfl,xE⟩)
theorem Zzs{S:Nat→Prop}(T:Tbl)(c:Int)(w:World)(h:Xn w S T):Calls Tryz.prog 238 #[Vt T,.int .i64 c] w fun e w'=>e=.returned (Ee T.ext c)∧Ext w w':=by
 unfold Vt;have H:=Ya h;clear h;go_enter Tryz.func238,Tryz.ntmps238;go_wp2_with (go_at_call 111;refine(Xc _ T.ext _ _ (H.o.ext.ext (xE))).mono ?_;rintro e w1 ⟨rfl,hx1⟩);go_ret;exact⟨rfl,xE⟩
theorem Zth{S:Nat→Prop}(T:Tbl)(c:Int)(w:World)(h:Xn w S T):Calls Tryz.prog 258 #[Vt T,.int .i64 c] w fun e w'=>e=.returned (Ee T.pro c)∧Ext w w':=by
 unfold Vt;have H:=Ya h;clear h;go_enter Tryz.func258,Tryz.ntmps258;go_wp2_with (go_at_call 111;refine(Xc _ T.pro _ _ (H.o.pro.ext (xE))).mono ?_;rintro e w1 ⟨rfl,hx1⟩);go_ret;exact⟨rfl,xE⟩
def Sf(T:Tbl)(c:Int):List Int:=if 65≤c∧c≤90 then[c+32]else Xg T.map c
theorem Ww(w:World)(z:Int)(t:TypeId)(g:Nat)(hg:w.heap.size=g):Xy (w.alloc (.cells #[.int .i64 z] t)) (fun _=>True) (.slice (some ⟨g,0,none⟩) 1 1) [z]:=by
 subst hg;have h1:(w.alloc (.cells #[.int .i64 z] t)).heap[w.heap.size]?=some (.cells #[.int .i64 z] t):=Zl2 w _;refine⟨by simp,_,_,rfl,Yp _,by unfold maxLen;omega,fun _=>⟨_,_,rfl,trivial,(Zln.1 h1).1,fun j u hu=>?_⟩⟩;simp only[World.cell?,h1];rw[Zle,← hu];simp
theorem Xy.any{w:World}{S:Nat→Prop}{v:Value}{l:List Int}(h:Xy w S v l):Xy w (fun _=>True) v l:=Rd.mono h fun _ _ _=>trivial
theorem Zqt{S:Nat→Prop}(T:Tbl)(c:Int)(w:World)(h:Xn w S T):Calls Tryz.prog 225 #[Vt T,.int .i64 c] w fun e w'=>∃ v,e=.returned v∧Xy w' (fun _=>True) v (Sf T c)∧Ext w w':=by
 unfold Vt;have H:=Ya h;clear h;go_enter Tryz.func225,Tryz.ntmps225;by_cases hc:65≤c∧c≤90
 ·have e1:Sf T c=[c+32]:=Zlm hc;have Hc:=Ya e1;have q1:IntKind.i64.wrap (c+32)=c+32:=Yr _ (by omega);obtain⟨d1,d2⟩:=hc;clear e1;go_wp2_with fail;go_ret;refine⟨.slice (some ⟨_,0,none⟩) 1 1,rfl,?_,xE⟩;rw[Hc.o];exact Ww _ _ _ _ (by simp)
 have e1:Sf T c=Xg T.map c:=Zlq hc;have Hc:=Ya e1;have hcc:¬ (65≤c)∨¬ (c≤90):=by omega
 have Hcc:=Ya hcc;clear e1 hc hcc;cases h1:decide (65≤c)<;>cases h2:decide (c≤90)
 case true.true=>exact absurd Hcc.o (by simp at h1 h2;omega)
 all_goals
  go_wp2_with (go_at_call 111;refine(Xc _ T.map _ _ (H.o.map.ext (xE))).mono ?_;rintro e w1 ⟨rfl,hx1⟩);go_ret;refine⟨_,rfl,?_,xE⟩;rw[Hc.o];exact(Qt (H.o.map.ext (xE)).2).any
def Zw5(l:List Int)(c:Int):Bool:=l.any (· == c)
theorem Wo{S:Nat→Prop}(T:Tbl)(c:Int)(w:World)(h:Xn w S T):Calls Tryz.prog 147 #[Vt T,.int .i64 c] w fun e w'=>e=.returned (.bool (Zw5 T.exc c))∧Ext w w':=by
 have he:=h.exc;clear h;obtain⟨A,C,hsv,hlC,hC⟩:=he.shape;unfold Vt;rw[hsv]at he⊢;obtain⟨n,hn⟩:=gnX (T.exc.length);have Hnn:=Ya hn;have He:=Ya he;unfold maxLen at hC;rw[hn]at hlC⊢;clear he hn hsv;go_enter Tryz.func147,Tryz.ntmps147;go_wp2_with fail;go_loopw [10] (fun o wr=>∃ i:Nat,i≤n∧o=.int .i64 (i:Int)∧Zw5 (T.exc.take i) c=false∧Ext w wr) (fun o _=>n-(intOf o).toNat);case atStart=>exact⟨0,by omega,rfl,rfl,xE⟩
 obtain⟨i,hi,rfl,hno,hx⟩:=hrel;have Hno:=Ya hno;have Hx:=Ya hx;clear hno hx;by_cases hlt:i<n
 ·have hd:=LTd i n;have i0:(0:Int)≤(i:Int):=by omega
  have i1:(i:Int)<(n:Int):=by omega
  obtain⟨x,hs⟩:=geX (l:=(T.exc)) (i:=i) (by first|(rw[Hnn.o];exact hlt)|(have:=Hnn.o;omega));obtain⟨g,o,c',hvv,_,_,_,hgl,c0⟩:=(He.o.ext Hx.o).get hs;simp only[Yg]at hvv;obtain⟨rfl,-,rfl⟩:=hvv;have Hs:=Ya hs;clear hs;cases h1:(x==c)
  ·have Hnx:=Ya (show Zw5 (T.exc.take (i+1)) c=false by
    have:=Hno.o;unfold Zw5 at this⊢;rw[Za,Hs.o,Zhr,this];simpa using h1)
   go_wp2_with fail;go_roundw;case rel=>exact⟨i+1,by omega,by go_num,Hnx.o,(have hx:=Hx.o;xE)⟩
   simp[intOf];omega
  have Hyes:=Ya (show Zw5 T.exc c=true by
   unfold Zw5;rw[Zkr];exact⟨x,Zy Hs.o,h1⟩)
  go_wp2_with fail;go_ret;exact⟨by rw[Hyes.o];rfl,(have hx:=Hx.o;xE)⟩
 have hd:=GEl i n;have Hend:=Ya (show Zw5 T.exc c=false by
  have:=Hno.o
  rwa [Zm (by rw[Hnn.o];omega)]at this)
 go_wp2_with fail;go_ret;exact⟨by rw[Hend.o];rfl,(have hx:=Hx.o;xE)⟩
section
structure Gk(w:World)(g:Nat)(vs:List Value):Prop where
 lt:g<w.heap.size
 at_:∀ i v,vs[i]?=some v→w.cell? ⟨g,i,none⟩=some v
theorem Gk.ext{w w':World}{g:Nat}{vs:List Value}(h:Gk w g vs)(x:Ext w w'):Gk w' g vs :=
 ⟨Zlr h.lt x.size,fun i v hv=>(x.cell (p:=⟨g,i,none⟩) h.lt).trans (h.at_ i v hv)⟩
theorem Jk(w:World)(cs:Array Value)(t:TypeId)(g:Nat)(hg:w.heap.size=g):Gk (w.alloc (.cells cs t)) g cs.toList:=by
 subst hg;have h1:(w.alloc (.cells cs t)).heap[w.heap.size]?=some (.cells cs t):=Zl2 w _;refine⟨(Zln.1 h1).1,fun i v hv=>?_⟩;simp only[World.cell?,h1];rw[← hv];simp
def Zzq(T:Tbl):List (Value×List Sp):=[(T.catV,T.cat),(T.clsV,T.cls),(T.joiV,T.joi),(T.bidV,T.bid),(T.scrV,T.scr),(T.staV,T.sta),(T.ignV,T.ign)]
def Cq(T:Tbl):List (Value×List Mp):=[(T.extV,T.ext),(T.mapV,T.map),(T.decV,T.dec),(T.proV,T.pro)]
theorem Zsw{w:World}{S:Nat→Prop}{T:Tbl}(h:Xn w S T):∀ p∈Zzq T,Vu w S p.1 p.2:=by
 intro p hp;simp only[Zzq,Zg,Zh,Zkl]at hp;rcases hp with rfl|rfl|rfl|rfl|rfl|rfl|rfl
 ·exact h.cat
 ·exact h.cls
 ·exact h.joi
 ·exact h.bid
 ·exact h.scr
 ·exact h.sta
 exact h.ign
theorem Zu5{w:World}{S:Nat→Prop}{T:Tbl}(h:Xn w S T):∀ p∈Cq T,K2 w S p.1 p.2:=by
 intro p hp;simp only[Cq,Zg,Zh,Zkl]at hp;rcases hp with rfl|rfl|rfl|rfl
 ·exact h.ext
 ·exact h.map
 ·exact h.dec
 exact h.pro
def Zvr(T:Tbl)(w:World)(e:Ending)(w':World):Prop :=
 ∃ g1 g2:Nat,e=.returned (.tuple #[.slice (some ⟨g1,0,none⟩) 7 7,.slice (some ⟨g2,0,none⟩) 7 7])∧Gk w' g1 ((Zzq T).map (·.1))∧Gk w' g2 ([8,254,5,11,60,4,1].map (Value.int .i64))∧Ext w w'
theorem Mw{S:Nat→Prop}(T:Tbl)(w:World)(h:Xn w S T):Calls Tryz.prog 137 #[Vt T] w (Zvr T w):=by
 obtain⟨A0,C0,e0,_,_⟩:=h.cat.shape;obtain⟨A1,C1,e1,_,_⟩:=h.cls.shape;obtain⟨A2,C2,e2,_,_⟩:=h.joi.shape;obtain⟨A3,C3,e3,_,_⟩:=h.bid.shape;obtain⟨A4,C4,e4,_,_⟩:=h.scr.shape;obtain⟨A5,C5,e5,_,_⟩:=h.sta.shape;obtain⟨A6,C6,e6,_,_⟩:=h.ign.shape;clear h;unfold Vt;go_enter Tryz.func137,Tryz.ntmps137;go_wp2_with fail;go_ret2;refine⟨w.heap.size+1,w.heap.size+2,?_,?_,?_,xE⟩
 ·simp
 ·simp only[Zzq,Zl9,Zku,e0,e1,e2,e3,e4,e5,e6];exact(Jk _ _ _ _ (by simp)).ext ((Yn _).alloc _)
 exact Jk _ _ _ _ (by simp)
def Zrw(T:Tbl)(w:World)(e:Ending)(w':World):Prop :=
 ∃ g1:Nat,e=.returned (.slice (some ⟨g1,0,none⟩) 4 4)∧Gk w' g1 ((Cq T).map (·.1))∧Ext w w'
theorem Ur{S:Nat→Prop}(T:Tbl)(w:World)(h:Xn w S T):Calls Tryz.prog 138 #[Vt T] w (Zrw T w):=by
 obtain⟨A0,C0,e0,_,_⟩:=h.ext.shape;obtain⟨A1,C1,e1,_,_⟩:=h.map.shape;obtain⟨A2,C2,e2,_,_⟩:=h.dec.shape;obtain⟨A3,C3,e3,_,_⟩:=h.pro.shape;clear h;unfold Vt;go_enter Tryz.func138,Tryz.ntmps138;go_wp2_with fail;go_ret;refine⟨w.heap.size+1,?_,?_,xE⟩
 ·simp
 simp only[Cq,Zl9,Zku,e0,e1,e2,e3];exact Jk _ _ _ _ (by simp)
def Qu(T:Tbl):List Value:=[T.catV,T.clsV,T.joiV,T.bidV,T.scrV,T.staV,T.ignV,T.extV,T.mapV,T.decV,T.excV,T.proV]
def Xe(T:Tbl):Obj:=.cells (Qu T).toArray 34
structure Jd(w:World)(b:Nat)(T:Tbl):Prop where
 lt:b<w.heap.size
 at_:∀ k,k<12→w.cell? ⟨b,k,none⟩=(Qu T)[k]?
theorem Jd.ext{w w':World}{b:Nat}{T:Tbl}(h:Jd w b T)(x:Ext w w'):Jd w' b T :=
 ⟨Zlr h.lt x.size,fun k hk=>(x.cell (p:=⟨b,k,none⟩) h.lt).trans (h.at_ k hk)⟩
theorem Xo(w:World)(T:Tbl):Jd (w.alloc (Xe T)) w.heap.size T:=by
 refine⟨by simp,fun k hk=>?_⟩;unfold Xe;rw[Zhg _ _ k (Qu T).toArray 34 (0,0) (Zl2 w _)];simp
theorem Mm:(Tryz.prog.underlying 34).map TypeDesc.isRow=some true:=by kernel_rfl
theorem Gx:(Tryz.prog.info? 34).map (·.size)=some 12:=by kernel_rfl
theorem Jd.range{w:World}{b:Nat}{T:Tbl}(h:Jd w b T):w.rangeAt b 0 (Qu T):=fun j v hv=>by
 rw[Zle,h.at_ j (Zr.1 hv).1,hv]
section
variable {ops:Array Oper} {rest:List Oper} {dst:Option Nat} {x:Operand} {t:TypeId} {pos:String} {af:Array Edge} {a:Act} {w:World} {Q:Exit→Act→World→Prop} {b:Nat} {T:Tbl}
theorem Xx(hx:a.eval x=Vt T)(hK:wpList Tryz.prog ops Q rest (a.put dst (.pointer (some ⟨w.heap.size,0,none⟩))) (w.alloc (Xe T))) :
 wpList Tryz.prog ops Q ({dst:=dst,op:=.box 34 x,type:=t,pos:=pos,after:=af,guard:=none}::rest) a w:=by
 refine Zip rfl fun K hK'=>?_
 unfold Oper.wp execOp;have hc:(a.eval x).cells=(Qu T).toArray:=by rw[hx];rfl
 simp only[Zk1,Instr.box,newVar,newRow,run_newObj_alloc,Zk2,Zkw,hc];exact hK' _ _ hK
theorem Y4(h:Jd w b T)(hx:a.eval x=.pointer (some ⟨b,0,none⟩))(hK:wpList Tryz.prog ops Q rest (a.put dst (Vt T)) w) :
 wpList Tryz.prog ops Q ({dst:=dst,op:=.load 34 x,type:=t,pos:=pos,after:=af,guard:=none}::rest) a w:=by
 have hu:=Mm;rw[Zl0]at hu;obtain⟨d,hu,hd⟩:=hu;exact Zhq rfl _ x rfl b 0 hx (Qu T) d h.range hu hd (by rw[Gx];rfl) hK
end
theorem lat{W:World}{b o:Nat}{v:Value}(h:W.cell? ⟨b,o,none⟩=some v):∀ k os,(later W k os).cell? ⟨b,o,none⟩=some v:=fun k os=>(Oc W k os b o (lt_of_cell h)).trans h
theorem Vw(i:Nat)(h0:0<i)(h1:i≤9223372036854775807):IntKind.i64.wrap ((i:Int)-1)=((i-1:Nat):Int):=by
 rw[Yr _ (by omega)];omega
end
def Fr(s:ByteArray):Nat→Int
 | 1=>if _h:0<s.size then wrap64 (s[0].toNat:Int)else 0
 | 2=>if _h:1<s.size then IntKind.i64.wrap (IntKind.i64.wrap (IntKind.i64.wrap (IntKind.i64.wrap (IntKind.i64.wrap (s[0].toNat:Int)-192)*64)+IntKind.i64.wrap (s[1].toNat:Int))-128)else 0
 | 3=>if _h:2<s.size then IntKind.i64.wrap (IntKind.i64.wrap (IntKind.i64.wrap (IntKind.i64.wrap (IntKind.i64.wrap (IntKind.i64.wrap (s[0].toNat:Int)-224)*4096)+IntKind.i64.wrap (IntKind.i64.wrap (IntKind.i64.wrap (s[1].toNat:Int)-128)*64))+IntKind.i64.wrap (s[2].toNat:Int))-128)else 0
 | 4=>if _h:3<s.size then IntKind.i64.wrap (IntKind.i64.wrap (IntKind.i64.wrap (IntKind.i64.wrap (IntKind.i64.wrap (IntKind.i64.wrap (IntKind.i64.wrap (s[0].toNat:Int)-240)*262144)+IntKind.i64.wrap (IntKind.i64.wrap (IntKind.i64.wrap (s[1].toNat:Int)-128)*4096))+IntKind.i64.wrap (IntKind.i64.wrap (IntKind.i64.wrap (s[2].toNat:Int)-128)*64))+IntKind.i64.wrap (s[3].toNat:Int))-128)else 0
 | _=>0
def Gy(s:ByteArray)(k:Nat):Bool:=(Zx3 (Fr s k)==(k:Int))&&((bs (u8L (Mk (Fr s k)))).toList==(s.extract 0 k).toList)
def Uy(s:ByteArray):Nat :=
 if 1≤s.size∧Gy s 1=true then 1 else if 2≤s.size∧Gy s 2=true then 2 else if 3≤s.size∧Gy s 3=true then 3 else if 4≤s.size∧Gy s 4=true then 4 else 0
theorem Gz(s:ByteArray)(k:Nat)(h1:1≤k)(h4:k≤4)(hs:k≤s.size)(hy:Gy s k=true)(hall:∀ j,1≤j→j<k→j≤s.size→Gy s j=false):Uy s=k:=by
 have hn:∀ j,1≤j→j<k→¬ (j≤s.size∧Gy s j=true):=fun j a b c=>by rw[hall j a b c.1]at c;exact absurd c.2 (by simp)
 unfold Uy;rcases(show k=1∨k=2∨k=3∨k=4 by omega)with rfl|rfl|rfl|rfl
 ·rw[Zlm ⟨hs,hy⟩]
 ·rw[Zlq (hn 1 (by omega) (by omega)),Zlm ⟨hs,hy⟩]
 ·rw[Zlq (hn 1 (by omega) (by omega)),Zlq (hn 2 (by omega) (by omega)),Zlm ⟨hs,hy⟩]
 rw[Zlq (hn 1 (by omega) (by omega)),Zlq (hn 2 (by omega) (by omega)),Zlq (hn 3 (by omega) (by omega)),Zlm ⟨hs,hy⟩]
theorem Zuy(s:ByteArray)(k:Nat)(h1:1≤k)(h5:k≤5)(hs:¬ (k≤4∧k≤s.size))(hall:∀ j,1≤j→j<k→j≤s.size→Gy s j=false):Uy s=0:=by
 have hn:∀ j,1≤j→j≤4→¬ (j≤s.size∧Gy s j=true):=fun j a b c=>by
  by_cases hj:j<k
  ·rw[hall j a hj c.1]at c;exact absurd c.2 (by simp)
  omega
 unfold Uy;rw[Zlq (hn 1 (by omega) (by omega)),Zlq (hn 2 (by omega) (by omega)),Zlq (hn 3 (by omega) (by omega)),Zlq (hn 4 (by omega) (by omega))]
theorem Zuz(s:ByteArray):Uy s≤s.size:=by
 unfold Uy;split
 ·omega
 split
 ·omega
 split
 ·omega
 split<;>omega
def Ni(s:ByteArray):Int:=Fr s (Uy s)
theorem first_any(s:ByteArray)(hs:s.size≤maxLen)(w:World):Calls Tryz.prog 246 #[.string s] w fun e w'=>e=.returned (.tuple #[.int .i64 (Ni s),.int .i64 (Uy s:Int)])∧Ext w w':=by
 unfold Ni;unfold maxLen at hs;go_enter Tryz.func246,Tryz.ntmps246;go_wp2_with fail;go_loopw [4] (fun o wr=>∃ k:Nat,1≤k∧k≤5∧o=.int .i64 (k:Int)∧Aside (∀ j,1≤j→j<k→j≤s.size→Gy s j=false)∧Ext w wr) (fun o _=>5-(intOf o).toNat);case atStart=>exact⟨1,by omega,by omega,rfl,fun j h1 h2 _=>by omega,Yn _⟩
 obtain⟨k,hk1,hk5,rfl,hall,hx⟩:=hrel;have Hall:=Zkx hall.out;have Hx:=Zkx hx;clear hx hall;by_cases hlt:k≤4∧k≤s.size
 ·obtain⟨h4,hsz⟩:=hlt;have d1:decide ((k:Int)≤(4:Int))=true:=Yh;have d2:decide ((k:Int)≤(s.size:Int))=true:=Yh;rcases(show k=1∨k=2∨k=3∨k=4 by omega)with rfl|rfl|rfl|rfl
  ·have p0:0<s.size:=by omega
   go_wp2_with fail;obtain⟨V,hV⟩:∃ V:Int,Fr s 1=V:=⟨_,rfl⟩;rw[show wrap64 (s[0].toNat:Int)=V from by rw[← hV];simp only[Fr];rw[Zhb p0]];have HV:=Zkx hV;clear hV;cases q1:(Zx3 V==(1:Int))
   ·have Hno:=Zkx (show Gy s 1=false by unfold Gy;rw[HV.out,show((1:Nat):Int)=(1:Int) from rfl,q1];rfl);have hun:=Yd;refine Y0 (by kernel_rfl) (by kernel_rfl) ?_;repeat((with_reducible refine Yw ?_);intro K hK;go_simp;first|((with_reducible refine hK _ ?_);clear hK K)|(apply Exists.intro;refine⟨fun _=>?_,hK _ ?_⟩;(first|(go_at_call 186;exact Xt (len_any _ _))|(go_at_call 166;exact Y8 (one_any _ _)));clear hK K))
    (with_reducible refine Yv ?_)
    intro w3 hy3;clear hun;try simp only[Ye]
    have hx:=Hx.out;go_wp2_with fail;refine⟨⟨1+1,by omega,by omega,rfl,fun j h1 h2 h3=>?_,xE⟩,by simp[intOf]⟩;rcases(show j<1∨j=1 by omega)with h|rfl
    ·exact Hall.out j h1 h h3
    exact Hno.out
   cases q2:((bs (u8L (Mk V))).toList==(s.extract 0 1).toList)
   ·have Hno:=Zkx (show Gy s 1=false by unfold Gy;rw[HV.out,q2];simp);have hun:=Yd;refine Y0 (by kernel_rfl) (by kernel_rfl) ?_;repeat((with_reducible refine Yw ?_);intro K hK;go_simp;first|((with_reducible refine hK _ ?_);clear hK K)|(apply Exists.intro;refine⟨fun _=>?_,hK _ ?_⟩;(first|(go_at_call 186;exact Xt (len_any _ _))|(go_at_call 166;exact Y8 (one_any _ _)));clear hK K))
    (with_reducible refine Yv ?_)
    intro w3 hy3;clear hun;try simp only[Ye]
    have hx:=Hx.out;go_wp2_with fail;refine⟨⟨1+1,by omega,by omega,rfl,fun j h1 h2 h3=>?_,xE⟩,by simp[intOf]⟩;rcases(show j<1∨j=1 by omega)with h|rfl
    ·exact Hall.out j h1 h h3
    exact Hno.out
   have Hyes:=Zkx (show Gy s 1=true by unfold Gy;rw[HV.out,q2];simp at q1⊢;exact q1);have hun:=Yd;refine Y0 (by kernel_rfl) (by kernel_rfl) ?_;repeat((with_reducible refine Yw ?_);intro K hK;go_simp;first|((with_reducible refine hK _ ?_);clear hK K)|(apply Exists.intro;refine⟨fun _=>?_,hK _ ?_⟩;(first|(go_at_call 186;exact Xt (len_any _ _))|(go_at_call 166;exact Y8 (one_any _ _)));clear hK K))
   (with_reducible refine Yv ?_)
   intro w3 hy3;clear hun;try simp only[Ye]
   have hx:=Hx.out;go_wp2_with fail;go_ret2;exact⟨by rw[Gz s 1 (by omega) (by omega) hsz Hyes.out Hall.out,HV.out];rfl,xE⟩
  ·have p0:0<s.size:=by omega
   have p1:1<s.size:=by omega
   have r1:(1:Int)<(s.size:Int):=by omega
   have hun:=Yd;go_wp2_with fail;refine Y0 (by kernel_rfl) (by kernel_rfl) ?_;repeat((with_reducible refine Yw ?_);intro K hK;go_simp;first|((with_reducible refine hK _ ?_);clear hK K)|(apply Exists.intro;refine⟨fun _=>?_,hK _ ?_⟩;(first|(go_at_call 186;exact Xt (len_any _ _))|(go_at_call 166;exact Y8 (one_any _ _)));clear hK K))
   (with_reducible refine Yv ?_)
   intro w2 hy;clear hun;try simp only[Ye]
   go_wp2_with fail;obtain⟨V,hV⟩:∃ V:Int,Fr s 2=V:=⟨_,rfl⟩;rw[show IntKind.i64.wrap (IntKind.i64.wrap (IntKind.i64.wrap (IntKind.i64.wrap (IntKind.i64.wrap (s[0].toNat:Int)-192)*64)+IntKind.i64.wrap (s[1].toNat:Int))-128)=V from by rw[← hV];simp only[Fr];rw[Zhb p1]];have HV:=Zkx hV;clear hV;cases q1:(Zx3 V==(2:Int))
   ·have Hno:=Zkx (show Gy s 2=false by unfold Gy;rw[HV.out,show((2:Nat):Int)=(2:Int) from rfl,q1];rfl);have hun:=Yd;refine Y0 (by kernel_rfl) (by kernel_rfl) ?_;repeat((with_reducible refine Yw ?_);intro K hK;go_simp;first|((with_reducible refine hK _ ?_);clear hK K)|(apply Exists.intro;refine⟨fun _=>?_,hK _ ?_⟩;(first|(go_at_call 186;exact Xt (len_any _ _))|(go_at_call 166;exact Y8 (one_any _ _)));clear hK K))
    (with_reducible refine Yv ?_)
    intro w3 hy3;clear hun;try simp only[Ye]
    have hx:=Hx.out;go_wp2_with fail;refine⟨⟨2+1,by omega,by omega,rfl,fun j h1 h2 h3=>?_,xE⟩,by simp[intOf]⟩;rcases(show j<2∨j=2 by omega)with h|rfl
    ·exact Hall.out j h1 h h3
    exact Hno.out
   cases q2:((bs (u8L (Mk V))).toList==(s.extract 0 2).toList)
   ·have Hno:=Zkx (show Gy s 2=false by unfold Gy;rw[HV.out,q2];simp);have hun:=Yd;refine Y0 (by kernel_rfl) (by kernel_rfl) ?_;repeat((with_reducible refine Yw ?_);intro K hK;go_simp;first|((with_reducible refine hK _ ?_);clear hK K)|(apply Exists.intro;refine⟨fun _=>?_,hK _ ?_⟩;(first|(go_at_call 186;exact Xt (len_any _ _))|(go_at_call 166;exact Y8 (one_any _ _)));clear hK K))
    (with_reducible refine Yv ?_)
    intro w3 hy3;clear hun;try simp only[Ye]
    have hx:=Hx.out;go_wp2_with fail;refine⟨⟨2+1,by omega,by omega,rfl,fun j h1 h2 h3=>?_,xE⟩,by simp[intOf]⟩;rcases(show j<2∨j=2 by omega)with h|rfl
    ·exact Hall.out j h1 h h3
    exact Hno.out
   have Hyes:=Zkx (show Gy s 2=true by unfold Gy;rw[HV.out,q2];simp at q1⊢;exact q1);have hun:=Yd;refine Y0 (by kernel_rfl) (by kernel_rfl) ?_;repeat((with_reducible refine Yw ?_);intro K hK;go_simp;first|((with_reducible refine hK _ ?_);clear hK K)|(apply Exists.intro;refine⟨fun _=>?_,hK _ ?_⟩;(first|(go_at_call 186;exact Xt (len_any _ _))|(go_at_call 166;exact Y8 (one_any _ _)));clear hK K))
   (with_reducible refine Yv ?_)
   intro w3 hy3;clear hun;try simp only[Ye]
   have hx:=Hx.out;go_wp2_with fail;go_ret2;exact⟨by rw[Gz s 2 (by omega) (by omega) hsz Hyes.out Hall.out,HV.out];rfl,xE⟩
  ·have p0:0<s.size:=by omega
   have p1:1<s.size:=by omega
   have r1:(1:Int)<(s.size:Int):=by omega
   have p2:2<s.size:=by omega
   have r2:(2:Int)<(s.size:Int):=by omega
   have hun:=Yd;go_wp2_with fail;refine Y0 (by kernel_rfl) (by kernel_rfl) ?_;repeat((with_reducible refine Yw ?_);intro K hK;go_simp;first|((with_reducible refine hK _ ?_);clear hK K)|(apply Exists.intro;refine⟨fun _=>?_,hK _ ?_⟩;(first|(go_at_call 186;exact Xt (len_any _ _))|(go_at_call 166;exact Y8 (one_any _ _)));clear hK K))
   (with_reducible refine Yv ?_)
   intro w2 hy;clear hun;try simp only[Ye]
   go_wp2_with fail;obtain⟨V,hV⟩:∃ V:Int,Fr s 3=V:=⟨_,rfl⟩;rw[show IntKind.i64.wrap (IntKind.i64.wrap (IntKind.i64.wrap (IntKind.i64.wrap (IntKind.i64.wrap (IntKind.i64.wrap (s[0].toNat:Int)-224)*4096)+IntKind.i64.wrap (IntKind.i64.wrap (IntKind.i64.wrap (s[1].toNat:Int)-128)*64))+IntKind.i64.wrap (s[2].toNat:Int))-128)=V from by rw[← hV];simp only[Fr];rw[Zhb p2]];have HV:=Zkx hV;clear hV;cases q1:(Zx3 V==(3:Int))
   ·have Hno:=Zkx (show Gy s 3=false by unfold Gy;rw[HV.out,show((3:Nat):Int)=(3:Int) from rfl,q1];rfl);have hun:=Yd;refine Y0 (by kernel_rfl) (by kernel_rfl) ?_;repeat((with_reducible refine Yw ?_);intro K hK;go_simp;first|((with_reducible refine hK _ ?_);clear hK K)|(apply Exists.intro;refine⟨fun _=>?_,hK _ ?_⟩;(first|(go_at_call 186;exact Xt (len_any _ _))|(go_at_call 166;exact Y8 (one_any _ _)));clear hK K))
    (with_reducible refine Yv ?_)
    intro w3 hy3;clear hun;try simp only[Ye]
    have hx:=Hx.out;go_wp2_with fail;refine⟨⟨3+1,by omega,by omega,rfl,fun j h1 h2 h3=>?_,xE⟩,by simp[intOf]⟩;rcases(show j<3∨j=3 by omega)with h|rfl
    ·exact Hall.out j h1 h h3
    exact Hno.out
   cases q2:((bs (u8L (Mk V))).toList==(s.extract 0 3).toList)
   ·have Hno:=Zkx (show Gy s 3=false by unfold Gy;rw[HV.out,q2];simp);have hun:=Yd;refine Y0 (by kernel_rfl) (by kernel_rfl) ?_;repeat((with_reducible refine Yw ?_);intro K hK;go_simp;first|((with_reducible refine hK _ ?_);clear hK K)|(apply Exists.intro;refine⟨fun _=>?_,hK _ ?_⟩;(first|(go_at_call 186;exact Xt (len_any _ _))|(go_at_call 166;exact Y8 (one_any _ _)));clear hK K))
    (with_reducible refine Yv ?_)
    intro w3 hy3;clear hun;try simp only[Ye]
    have hx:=Hx.out;go_wp2_with fail;refine⟨⟨3+1,by omega,by omega,rfl,fun j h1 h2 h3=>?_,xE⟩,by simp[intOf]⟩;rcases(show j<3∨j=3 by omega)with h|rfl
    ·exact Hall.out j h1 h h3
    exact Hno.out
   have Hyes:=Zkx (show Gy s 3=true by unfold Gy;rw[HV.out,q2];simp at q1⊢;exact q1);have hun:=Yd;refine Y0 (by kernel_rfl) (by kernel_rfl) ?_;repeat((with_reducible refine Yw ?_);intro K hK;go_simp;first|((with_reducible refine hK _ ?_);clear hK K)|(apply Exists.intro;refine⟨fun _=>?_,hK _ ?_⟩;(first|(go_at_call 186;exact Xt (len_any _ _))|(go_at_call 166;exact Y8 (one_any _ _)));clear hK K))
   (with_reducible refine Yv ?_)
   intro w3 hy3;clear hun;try simp only[Ye]
   have hx:=Hx.out;go_wp2_with fail;go_ret2;exact⟨by rw[Gz s 3 (by omega) (by omega) hsz Hyes.out Hall.out,HV.out];rfl,xE⟩
  have p0:0<s.size:=by omega
  have p1:1<s.size:=by omega
  have r1:(1:Int)<(s.size:Int):=by omega
  have p2:2<s.size:=by omega
  have r2:(2:Int)<(s.size:Int):=by omega
  have p3:3<s.size:=by omega
  have r3:(3:Int)<(s.size:Int):=by omega
  have hun:=Yd;go_wp2_with fail;refine Y0 (by kernel_rfl) (by kernel_rfl) ?_;repeat((with_reducible refine Yw ?_);intro K hK;go_simp;first|((with_reducible refine hK _ ?_);clear hK K)|(apply Exists.intro;refine⟨fun _=>?_,hK _ ?_⟩;(first|(go_at_call 186;exact Xt (len_any _ _))|(go_at_call 166;exact Y8 (one_any _ _)));clear hK K))
  (with_reducible refine Yv ?_)
  intro w2 hy;clear hun;try simp only[Ye]
  go_wp2_with fail;obtain⟨V,hV⟩:∃ V:Int,Fr s 4=V:=⟨_,rfl⟩;rw[show IntKind.i64.wrap (IntKind.i64.wrap (IntKind.i64.wrap (IntKind.i64.wrap (IntKind.i64.wrap (IntKind.i64.wrap (IntKind.i64.wrap (s[0].toNat:Int)-240)*262144)+IntKind.i64.wrap (IntKind.i64.wrap (IntKind.i64.wrap (s[1].toNat:Int)-128)*4096))+IntKind.i64.wrap (IntKind.i64.wrap (IntKind.i64.wrap (s[2].toNat:Int)-128)*64))+IntKind.i64.wrap (s[3].toNat:Int))-128)=V from by rw[← hV];simp only[Fr];rw[Zhb p3]];have HV:=Zkx hV;clear hV;cases q1:(Zx3 V==(4:Int))
  ·have Hno:=Zkx (show Gy s 4=false by unfold Gy;rw[HV.out,show((4:Nat):Int)=(4:Int) from rfl,q1];rfl);have hun:=Yd;refine Y0 (by kernel_rfl) (by kernel_rfl) ?_;repeat((with_reducible refine Yw ?_);intro K hK;go_simp;first|((with_reducible refine hK _ ?_);clear hK K)|(apply Exists.intro;refine⟨fun _=>?_,hK _ ?_⟩;(first|(go_at_call 186;exact Xt (len_any _ _))|(go_at_call 166;exact Y8 (one_any _ _)));clear hK K))
   (with_reducible refine Yv ?_)
   intro w3 hy3;clear hun;try simp only[Ye]
   have hx:=Hx.out;go_wp2_with fail;refine⟨⟨4+1,by omega,by omega,rfl,fun j h1 h2 h3=>?_,xE⟩,by simp[intOf]⟩;rcases(show j<4∨j=4 by omega)with h|rfl
   ·exact Hall.out j h1 h h3
   exact Hno.out
  cases q2:((bs (u8L (Mk V))).toList==(s.extract 0 4).toList)
  ·have Hno:=Zkx (show Gy s 4=false by unfold Gy;rw[HV.out,q2];simp);have hun:=Yd;refine Y0 (by kernel_rfl) (by kernel_rfl) ?_;repeat((with_reducible refine Yw ?_);intro K hK;go_simp;first|((with_reducible refine hK _ ?_);clear hK K)|(apply Exists.intro;refine⟨fun _=>?_,hK _ ?_⟩;(first|(go_at_call 186;exact Xt (len_any _ _))|(go_at_call 166;exact Y8 (one_any _ _)));clear hK K))
   (with_reducible refine Yv ?_)
   intro w3 hy3;clear hun;try simp only[Ye]
   have hx:=Hx.out;go_wp2_with fail;refine⟨⟨4+1,by omega,by omega,rfl,fun j h1 h2 h3=>?_,xE⟩,by simp[intOf]⟩;rcases(show j<4∨j=4 by omega)with h|rfl
   ·exact Hall.out j h1 h h3
   exact Hno.out
  have Hyes:=Zkx (show Gy s 4=true by unfold Gy;rw[HV.out,q2];simp at q1⊢;exact q1);have hun:=Yd;refine Y0 (by kernel_rfl) (by kernel_rfl) ?_;repeat((with_reducible refine Yw ?_);intro K hK;go_simp;first|((with_reducible refine hK _ ?_);clear hK K)|(apply Exists.intro;refine⟨fun _=>?_,hK _ ?_⟩;(first|(go_at_call 186;exact Xt (len_any _ _))|(go_at_call 166;exact Y8 (one_any _ _)));clear hK K))
  (with_reducible refine Yv ?_)
  intro w3 hy3;clear hun;try simp only[Ye]
  have hx:=Hx.out;go_wp2_with fail;go_ret2;exact⟨by rw[Gz s 4 (by omega) (by omega) hsz Hyes.out Hall.out,HV.out];rfl,xE⟩
 have hfin:=Zkx (Zuy s k hk1 hk5 hlt Hall.out);by_cases h4:k≤4
 ·have d1:decide ((k:Int)≤(4:Int))=true:=Yh;have d2:decide ((k:Int)≤(s.size:Int))=false:=Yi;have hx:=Hx.out;go_wp2_with fail;go_ret2;exact⟨by rw[hfin.out];rfl,xE⟩
 have d1:decide ((k:Int)≤(4:Int))=false:=Yi;have hx:=Hx.out;go_wp2_with fail;go_ret2;exact⟨by rw[hfin.out];rfl,xE⟩
end Go.Proofs.YtnbclgbicnpmnaaGreat
