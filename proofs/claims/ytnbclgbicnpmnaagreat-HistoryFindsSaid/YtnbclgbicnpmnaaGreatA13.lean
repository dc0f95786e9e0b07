/- Lemmas of this claim: Gt, Gb, Gc. Conditions: as named. -/
import Derived.Test.YtnbclgbicnpmnaaGreatA11
namespace Go.Proofs.YtnbclgbicnpmnaaGreat
open Go.RowKit Go.Sort Tryz
set_option maxHeartbeats 0
set_option maxRecDepth 100000
set_option linter.all false
theorem Ea{ops:Array Oper}{rest:List Oper}{dst:Option Nat}{x:Operand}{t:TypeId}{pos:String}{af:Array Edge}{gd:Option (Nat×Bool)}{a:Act}{w:World}{Q:Exit→Act→World→Prop}{b:Nat}{T:Tbl}(h:J4 w b T)
 (hw:Region.wanted {dst:=dst,op:=.load 34 x,type:=t,pos:=pos,after:=af,guard:=gd} (yielded ops a.tmps)=true) (hx:a.eval x=.pointer (some ⟨b,0,none⟩)) (hK:wpList prog ops Q rest (a.put dst (Vn T)) w) :
 wpList prog ops Q ({dst:=dst,op:=.load 34 x,type:=t,pos:=pos,after:=af,guard:=gd}::rest) a w:=by
 have hu:=Nl;rw[Zjl]at hu;obtain⟨d,hu,hd⟩:=hu;show if _ then _ else _
 rw[Zjx hw];exact .inl (wp_load_mid _ x rfl b 0 hx (Qj T) d h.range hu hd (by rw[Gn];rfl) hK)
def Uq0(T:Tbl):Prop:=∀ m∈T.dec,Xf T.dec m.fr=m.to_
def Sy(w:World)(e:Ending)(w':World):Prop:=e=.returned (.bool true)∧Ext w w'
def Dg:List Int:=[8,254,5,11,60,4,1]
structure Zkc(l:List Sp)(m:Int):Prop where
 len:l.length≤256
 in_:∀ s∈l,0≤s.fr∧s.to_=s.fr∧s.fr≤1114111∧Ia s.fr=false∧1≤s.val∧s.val≤m
 lt:∀ (i:Nat) (x y:Sp),0<i→l[i]?=some x→l[i-1]?=some y→y.fr<x.fr
structure Zk6(l:List Mp)(k:Nat):Prop where
 len:l.length≤256
 in_:∀ m∈l,0≤m.fr∧m.fr≤1114111∧(Ia m.fr=false∨((k:Int)==3)=true∧Zod m.fr=true)∧1≤m.to_.length∧m.to_.length≤18
 lt:∀ (i:Nat) (x y:Mp),0<i→l[i]?=some x→l[i-1]?=some y→y.fr<x.fr
 scr:k=0→∀ m∈l,(∀ c∈m.to_,3≤c∧c≤60)∧∀ (i:Nat) (x y:Int),0<i→m.to_[i]?=some x→m.to_[i-1]?=some y→y<x
 sca:0<k→∀ m∈l,∀ c∈m.to_,Zxw c=true
structure Fv(T:Tbl):Prop where
 sp:∀ (j:Nat) p z,(Zz2 T)[j]?=some p→Dg[j]?=some z→Zkc p.2 z
 mp:∀ (j:Nat) p,(Zzs T)[j]?=some p→Zk6 p.2 j
 xlen:T.exc.length≤256
 xin:∀ c∈T.exc,0≤c∧c≤1114111∧Ia c=false∧Xf T.dec c≠[]
 xlt:∀ (i:Nat) (x y:Int),0<i→T.exc[i]?=some x→T.exc[i-1]?=some y→y<x
 cnt:(T.sta.filter fun s=>s.val==3).length=T.map.length
 mapS:∀ m∈T.map,Zr3 T m.fr=3∧∀ c∈m.to_,Zr3 T c=1
 dec2:∀ m∈T.dec,m.to_.length≤2∧∀ c∈m.to_,c≠46∧Bh c=false∧Ic c=false
 fin:Zr2 T
 few:Few T
 uq:Uq0 T
 r8:∀ (i j:Nat) a b,j<i→T.dec[i]?=some a→T.dec[j]?=some b→Gf T a.fr=true→Gf T b.fr=true→a.to_≠b.to_
 r9:∀ m∈T.pro,Xf T.dec m.fr=[]∧(Wk T.ign m.fr==1)=false∧∀ c∈m.to_,Xf T.dec c=[]∧(Wk T.ign c==1)=false∧Bh c=false∧Xf T.pro c=[]
theorem Zu0(c:Int)(hc:Ia c=false)(i:Nat)(h:i<6):∃ lo hi:Int,(∀ wx,(Instr.index 235 (.agg #[.int .i64 0,.int .i64 127,.int .i64 55296,.int .i64 57343,.int .i64 44032,.int .i64 55203,.int .i64 4352,.int .i64 4370,.int .i64 4449,.int .i64 4469,.int .i64 4520,.int .i64 4546]) (.int .i64 (i:Int))).run prog wx=.ok (.agg #[.int .i64 lo,.int .i64 hi]) wx)∧((decide (c≤hi)=true∧decide (lo≤c)=false)∨decide (c≤hi)=false):=by
 have key:∀ lo hi:Int,¬ (lo≤c∧c≤hi)→((decide (c≤hi)=true∧decide (lo≤c)=false)∨decide (c≤hi)=false):=fun lo hi hn=>by
  by_cases h1:c≤hi
  ·exact .inl ⟨Yf h1,Yg fun h2=>hn ⟨h2,h1⟩⟩
  exact .inr (Yg h1)
 simp only[Ia,Bh,Ic,Bool.or_eq_false_iff,Bool.and_eq_false_iff,Zji]at hc;rcases(show i=0∨i=1∨i=2∨i=3∨i=4∨i=5 by omega)with rfl|rfl|rfl|rfl|rfl|rfl
 ·exact⟨0,127,fun _=>by kernel_rfl,key _ _ (by omega)⟩
 ·exact⟨55296,57343,fun _=>by kernel_rfl,key _ _ (by omega)⟩
 ·exact⟨44032,55203,fun _=>by kernel_rfl,key _ _ (by omega)⟩
 ·exact⟨4352,4370,fun _=>by kernel_rfl,key _ _ (by omega)⟩
 ·exact⟨4449,4469,fun _=>by kernel_rfl,key _ _ (by omega)⟩
 exact⟨4520,4546,fun _=>by kernel_rfl,key _ _ (by omega)⟩
theorem Zx8(a b c:Int)(hb:b=a)(hc:Ia a=false)(w:World):Calls prog 140 #[.agg #[.int .i64 a,.int .i64 b,.int .i64 c]] w (Sy w):=by
 subst hb;have X0:=Y4 ((Yl w).alloc (.cells #[.int .i64 b,.int .i64 b,.int .i64 c] 99));have HC:=Y4 hc;clear hc;go_enter func140,ntmps140;go_wp2_with fail;go_loopw [12] (fun o wr=>∃ i:Nat,i≤6∧o=.int .i64 (i:Int)∧Ext (w.alloc (.cells #[.int .i64 b,.int .i64 b,.int .i64 c] 99)) wr) (fun o _=>6-(intOf o).toNat);case atStart=>exact⟨0,by omega,rfl,Yl _⟩
 obtain⟨i,hi_i,rfl,hx⟩:=hrel;have Hx:=Y4 hx;clear hx;have hb:=(Jc w #[.int .i64 b,.int .i64 b,.int .i64 c] 99 _ rfl).ext Hx.o
 have b0:=hb.at_ 0 _ rfl;have b1:=hb.at_ 1 _ rfl;have hbl:=hb.lt;clear hb;by_cases hlt:i<6
 ·have hd_i:decide ((i:Int)<(6:Int))=true:=Yf;have i0_i:(0:Int)≤(i:Int):=by omega
  have i1_i:(i:Int)<(6:Int):=by omega
  obtain⟨lo,up,hix,hq⟩:=Zu0 b HC.o i hlt;rcases hq with⟨q1,q2⟩|q1
  ·go_wp2_with fail;all_goals
    have hx:=Hx.o
    first
    | (go_roundw
       case rel=>exact⟨i+1,by omega,by go_num,xE⟩
       (simp[intOf];omega))
    | (go_ret;exact⟨rfl,X0.o.trans xE⟩)
  go_wp2_with fail;all_goals
   have hx:=Hx.o
   first
   | (go_roundw
      case rel=>exact⟨i+1,by omega,by go_num,xE⟩
      (simp[intOf];omega))
   | (go_ret;exact⟨rfl,X0.o.trans xE⟩)
 have hd_i:decide ((i:Int)<(6:Int))=false:=Yg;go_wp2_with fail;all_goals
  have hx:=Hx.o
  first
  | (go_roundw
     case rel=>exact⟨i+1,by omega,by go_num,xE⟩
     (simp[intOf];omega))
  | (go_ret;exact⟨rfl,X0.o.trans xE⟩)
theorem Zzg{S:Nat→Prop}(v:Value)(l:List Sp)(z:Int)(w:World)(h:Vp w S v l)(ok:Zkc l z):Calls prog 139 #[v,.int .i64 0,.int .i64 1114111] w (Sy w):=by
 have OK:=Y4 ok;have hlen:=ok.len;obtain⟨A,C,rfl,hlCC,hCC⟩:=h.shape;obtain⟨n,hnn⟩:=gnX ((l).length);have Hnn:=Y4 hnn;have Hh:=Y4 h;unfold maxLen at hCC;rw[hnn]at hlCC⊢;clear h hnn;rw[Hnn.o]at hlen;clear ok;go_enter func139,ntmps139;have hb:decide ((256:Int)<(n:Int))=false:=Yg;go_wp2_with fail;go_loopw [14] (fun o wr=>∃ i:Nat,i≤n∧o=.int .i64 (i:Int)∧Ext w wr) (fun o _=>n-(intOf o).toNat);case atStart=>exact⟨0,by omega,rfl,Yl _⟩
 obtain⟨i,hi,rfl,hx⟩:=hrel;have Hx:=Y4 hx;clear hx;by_cases hlt:i<n
 ·have hd:=LTd i n;have i0:(0:Int)≤(i:Int):=by omega
  have i1:(i:Int)<(n:Int):=by omega
  obtain⟨x,hs⟩:=geX (l:=(l)) (i:=i) (by first|(rw[Hnn.o];exact hlt)|(have:=Hnn.o;omega));obtain⟨g,o,c',hvv,_,_,_,hgl,c0,c1,c2⟩:=(Hh.o.ext Hx.o).get hs;simp only[Ye]at hvv;obtain⟨rfl,-,rfl⟩:=hvv;have Hs:=Y4 hs;clear hs;obtain⟨r1,r2,r3,_,_,_⟩:=OK.o.in_ x (Zy Hs.o);obtain⟨fr,to_,val⟩:=x;simp only at r1 r2 r3 c0 c1 c2;subst r2;go_wp2_with fail;obtain⟨W,hW⟩:=gnX (wr.alloc (.cells #[.int .i64 to_,.int .i64 to_,.int .i64 val] 99));have m0:=lat (show W.cell? ⟨wr.heap.size,0,none⟩=some (.int .i64 to_) by(rw[← hW];clear hW;go_simp));have m1:=lat (show W.cell? ⟨wr.heap.size,1,none⟩=some (.int .i64 to_) by(rw[← hW];clear hW;go_simp));have hxw:Ext wr W:=by rw[← hW];exact(Yl _).alloc _
  rw[hW];clear hW;have q1:decide (to_<0)=false:=Yg;have q2:decide (to_<to_)=false:=Yg;have q3:decide (1114111<to_)=false:=Yg;clear r1 r3;rcases Zj4 i with hi0|hi0
  ·have q6:decide ((0:Int)<(i:Int))=false:=Yg;have q7:decide (0<i)=false:=Yg;clear hi0;have hun:=Yb;refine Y8 (by kernel_rfl) (by kernel_rfl) ?_;repeat((with_reducible refine Yu ?_);intro K hK;go_simp;(with_reducible refine hK _ ?_);clear hK K)
   (with_reducible refine Yt ?_);intro w1 hy
   clear hun;try simp only[Yc]
   go_wp2_with fail;all_goals
    have hx:=Hx.o
    first
    | (go_roundw
       case rel=>exact⟨i+1,by omega,by go_num,xE⟩
       (simp[intOf];omega))
    | (go_ret;exact⟨rfl,xE⟩)
  have q6:decide ((0:Int)<(i:Int))=true:=Yf;have q7:decide (0<i)=true:=Yf;obtain⟨y,hy⟩:=geX (l:=l) (i:=i-1) (by have:=Hnn.o;omega);have q8:decide (to_≤y.to_)=false:=Yg (by have h1:=OK.o.lt i _ y hi0 Hs.o hy;have h2:=(OK.o.in_ y (Zy hy)).2.1;simp only at h1;omega);obtain⟨g',o',c',hvv,_,_,_,_,_,d1,_⟩:=(Hh.o.ext Hx.o).get hy;simp only[Ye,Yd,Zjp,Zjj,Zj6]at hvv;obtain⟨⟨rfl,rfl⟩,rfl⟩:=hvv;have m2:=lat ((hxw.cell (p:=⟨g,o+(i-1)*3+1,none⟩) hgl).trans d1);have w1:=Vl i hi0 (by omega);have w2:(1:Int)≤(i:Int):=by omega
  have w3:(0:Int)≤((i-1:Nat):Int):=by omega
  have w4:((i-1:Nat):Int)<(n:Int):=by omega
  clear hy hi0;have hun:=Yb;refine Y8 (by kernel_rfl) (by kernel_rfl) ?_;repeat((with_reducible refine Yu ?_);intro K hK;go_simp;(with_reducible refine hK _ ?_);clear hK K)
  (with_reducible refine Yt ?_);intro w1 hy
  clear hun;try simp only[Yc]
  go_wp2_with fail;all_goals
   have hx:=Hx.o
   first
   | (go_roundw
      case rel=>exact⟨i+1,by omega,by go_num,xE⟩
      (simp[intOf];omega))
   | (go_ret;exact⟨rfl,xE⟩)
 have hd:=GEl i n;have hx:=Hx.o;go_wp2_with fail;all_goals
  have hx:=Hx.o
  first
  | (go_roundw
     case rel=>exact⟨i+1,by omega,by go_num,xE⟩
     (simp[intOf];omega))
  | (go_ret;exact⟨rfl,xE⟩)
theorem Zzh{S:Nat→Prop}(T:Tbl)(hg:Fv T)(w:World)(h:Xk w S T):Calls prog 107 #[Vn T] w (Sy w):=by
 have G:=Y4 hg;clear hg;have X0:=Y4 ((Yl w).alloc (Wx T));have H:=Y4 (h.up X0.o);have Hb0:=Y4 (Xm w T);clear h;go_enter func107,ntmps107;go_wp2_with (first|(refine Xw rfl ?_)|(refine Xz Hb0.o rfl ?_)|(go_at_call 137;refine(Ny T _ H.o).mono ?_;rintro e w1 ⟨g1,g2,rfl,hc,hc2,hx1⟩));have Hc:=Y4 hc;have Hc2:=Y4 hc2;have Hx1:=Y4 hx1;clear hc hx1 hc2;go_loopw [16] (fun o wr=>∃ i:Nat,i≤7∧o=.int .i64 (i:Int)∧Ext w1 wr) (fun o _=>7-(intOf o).toNat);case atStart=>exact⟨0,by omega,rfl,Yl _⟩
 obtain⟨k,hi_k,rfl,hx⟩:=hrel;have Hx:=Y4 hx;clear hx;have Hy:=Y4 (Hx1.o.trans Hx.o);by_cases hlt:k<7
 ·have hd_k:decide ((k:Int)<(7:Int))=true:=Yf;have i0_k:(0:Int)≤(k:Int):=by omega
  have i1_k:(k:Int)<(7:Int):=by omega
  obtain⟨p,hp⟩:=geX (l:=(Zz2 T)) (i:=k) (by have:(Zz2 T).length=7:=rfl;omega);have hrow:=Zrx H.o p (Zy hp);have c0:=(Hc.o.ext Hx.o).at_ k p.1 (by simp[hp]);obtain⟨A1,C1,e1,hl1,hc1⟩:=hrow.shape;rw[e1]at c0 hrow;unfold maxLen at hc1;obtain⟨m,hm⟩:=gnX (p.2.length);have Hm:=Y4 hm;have Hp:=Y4 hp;have Hrow:=Y4 hrow;rw[hm]at c0 hl1;clear hrow hm hp e1;obtain⟨z,hz⟩:∃ z:Int,([8,254,5,11,60,4,1]:List Int)[k]?=some z:=⟨([8,254,5,11,60,4,1]:List Int)[k]'(by simpa using hlt),Zz _⟩;have Hcz:=Y4 (Hc2.o.at_ k (.int .i64 z) (by rw[Zn,hz];rfl));have OK:=Y4 (G.o.sp k p z Hp.o hz);go_wp2_with fail;have Hz:=Y4 Hx.o;have Hlt:=Y4 hlt;clear Hx Hy hlt hz;go_loopw [23] (fun o wr=>∃ i:Nat,i≤m∧o=.int .i64 (i:Int)∧Ext w1 wr) (fun o _=>m-(intOf o).toNat);case atStart=>exact⟨0,by omega,rfl,Hz.o⟩
  obtain⟨j,hi_j,rfl,hx⟩:=hrel;have Hx:=Y4 hx;clear hx;have Hy:=Y4 (Hx1.o.trans Hx.o);by_cases hlt:j<m
  ·obtain⟨hd_j,i0_j,i1_j⟩:=LTl j m;obtain⟨x,hs_x⟩:=geX (l:=(p.2)) (i:=j) (by have:=Hm.o;omega);obtain⟨g_x,o_x,c_x,hvv,_,_,_,hgl_x,a0_x,a1_x,a2_x⟩:=(Hrow.o.ext Hy.o).get hs_x;simp only[Ye]at hvv;obtain⟨rfl,-,rfl⟩:=hvv;have Hs_x:=Y4 hs_x;clear hs_x;have hkl:=Hlt.o;go_wp2_with fail;obtain⟨W,hW⟩:=gnX (wr.alloc (.cells #[.int .i64 x.fr,.int .i64 x.to_,.int .i64 x.val] 99));have m0:=lat (show W.cell? ⟨wr.heap.size,2,none⟩=some (.int .i64 x.val) by(rw[← hW];clear hW;go_simp));have hxw:Ext wr W:=by rw[← hW];exact(Yl _).alloc _
   have m1:=lat (((Hx.o.trans hxw).cell (p:=⟨g2,k,none⟩) Hc2.o.lt).trans Hcz.o);rw[hW];clear hW;obtain⟨_,_,_,_,r1,r2⟩:=OK.o.in_ x (Zy Hs_x.o);have q1:decide (x.val<0)=false:=Yg;have q2:decide (z<x.val)=false:=Yg;have q3:(x.val==0)=false:=by simp;omega
   clear r1 r2;have hun:=Yb;refine Y8 (by kernel_rfl) (by kernel_rfl) ?_;repeat((with_reducible refine Yu ?_);intro K hK;go_simp;(with_reducible refine hK _ ?_);clear hK K)
   (with_reducible refine Yt ?_)
   intro w9 hy9;clear hun;try simp only[Yc]
   go_wp2_with fail;all_goals
    have hx:=Hx.o
    first
    | (go_roundw
       case rel=>exact⟨j+1,by omega,by go_num,xE⟩
       (simp[intOf];omega))
    | (go_ret;exact⟨rfl,X0.o.trans (Hx1.o.trans xE)⟩)
  have hd_j:=GEl j m;have hlt2:=Hlt.o;go_wp2_with fail;all_goals
   have hx:=Hx.o
   first
   | (go_roundw
      case rel=>exact⟨k+1,by omega,by go_num,xE⟩
      (simp[intOf];omega))
   | (go_ret;exact⟨rfl,X0.o.trans (Hx1.o.trans xE)⟩)
 have hd_k:decide ((k:Int)<(7:Int))=false:=Yg;go_wp2_with fail;all_goals
  have hx:=Hx.o
  first
  | (go_roundw
     case rel=>exact⟨k+1,by omega,by go_num,xE⟩
     (simp[intOf];omega))
  | (go_ret;exact⟨rfl,X0.o.trans (Hx1.o.trans xE)⟩)
theorem Zvt{S:Nat→Prop}(T:Tbl)(hg:Fv T)(w:World)(h:Xk w S T):Calls prog 108 #[Vn T] w (Sy w):=by
 have G:=Y4 hg;clear hg;have X0:=Y4 ((Yl w).alloc (Wx T));have H:=Y4 (h.up X0.o);have Hb0:=Y4 (Xm w T);clear h;go_enter func108,ntmps108;go_wp2_with (first|(refine Xw rfl ?_)|(refine Xz Hb0.o rfl ?_)|(go_at_call 138;refine(Uf T _ H.o).mono ?_;rintro e w1 ⟨g1,rfl,hc,hx1⟩));have Hc:=Y4 hc;have Hx1:=Y4 hx1;clear hc hx1;go_loopw [14] (fun o wr=>∃ i:Nat,i≤4∧o=.int .i64 (i:Int)∧Ext w1 wr) (fun o _=>4-(intOf o).toNat);case atStart=>exact⟨0,by omega,rfl,Yl _⟩
 obtain⟨k,hi_k,rfl,hx⟩:=hrel;have Hx:=Y4 hx;clear hx;have Hy:=Y4 (Hx1.o.trans Hx.o);by_cases hlt:k<4
 ·have hd_k:decide ((k:Int)<(4:Int))=true:=Yf;have i0_k:(0:Int)≤(k:Int):=by omega
  have i1_k:(k:Int)<(4:Int):=by omega
  obtain⟨p,hp⟩:=geX (l:=(Zzs T)) (i:=k) (by have:(Zzs T).length=4:=rfl;omega);have hrow:=Zt6 H.o p (Zy hp);have c0:=(Hc.o.ext Hx.o).at_ k p.1 (by simp[hp]);obtain⟨A1,C1,e1,hl1,hc1⟩:=hrow.shape;rw[e1]at c0 hrow;unfold maxLen at hc1;obtain⟨m,hm⟩:=gnX (p.2.length);have Hm:=Y4 hm;have Hp:=Y4 hp;have Hrow:=Y4 hrow;rw[hm]at c0 hl1;clear hrow hm hp e1;have OK:=Y4 (G.o.mp k p Hp.o);go_wp2_with fail;have Hz:=Y4 Hx.o;have Hlt:=Y4 hlt;clear Hx Hy hlt;go_loopw [21] (fun o wr=>∃ i:Nat,i≤m∧o=.int .i64 (i:Int)∧Ext w1 wr) (fun o _=>m-(intOf o).toNat);case atStart=>exact⟨0,by omega,rfl,Hz.o⟩
  obtain⟨j,hi_j,rfl,hx⟩:=hrel;have Hx:=Y4 hx;clear hx;have Hy:=Y4 (Hx1.o.trans Hx.o);by_cases hlt:j<m
  ·obtain⟨hd_j,i0_j,i1_j⟩:=LTl j m;obtain⟨x,hs_x⟩:=geX (l:=(p.2)) (i:=j) (by have:=Hm.o;omega);obtain⟨g_x,o_x,c_x,hvv,_,_,_,hgl_x,a0_x,a1_x,_⟩:=(Hrow.o.ext Hy.o).get hs_x;simp only[Ye]at hvv;obtain⟨rfl,-,rfl⟩:=hvv;have ti_x:=Hrow.o.2 _ (Zy hs_x);obtain⟨A_x,C_x,tv_x,tl_x,tc_x⟩:=ti_x.shape;obtain⟨n_x,hn_x⟩:=gnX (x.to_.length);rw[tv_x]at a1_x ti_x;rw[hn_x]at a1_x tl_x;have Hn_x:=Y4 hn_x;unfold maxLen at tc_x;have Hs_x:=Y4 hs_x;have Ti_x:=Y4 ti_x;clear hs_x ti_x tv_x hn_x;obtain⟨_,_,_,r1,r2⟩:=OK.o.in_ x (Zy Hs_x.o);rw[Hn_x.o]at r1 r2;have d1:decide ((n_x:Int)<(1:Int))=false:=Yg;have d2:decide ((18:Int)<(n_x:Int))=false:=Yg;have d3:¬ n_x=0:=by omega
   go_wp2_with fail;have Hza:=Y4 (Hx.o.alloc (.cells #[.int .i64 x.fr,.slice A_x n_x C_x] 106));have Hbx:=Y4 (Jc wr #[.int .i64 x.fr,.slice A_x n_x C_x] 106 _ rfl);have Hlj:=Y4 hlt;clear Hx Hy hlt d1 d2 d3 r1 r2;rename World=>wo
   go_loopw [38] (fun o wr=>∃ i:Nat,i≤n_x∧o=.int .i64 (i:Int)∧Ext (wo.alloc (.cells #[.int .i64 x.fr,.slice A_x n_x C_x] 106)) wr) (fun o _=>n_x-(intOf o).toNat);case atStart=>exact⟨0,by omega,rfl,Yl _⟩
   obtain⟨i,hi_i,rfl,hx⟩:=hrel;have Hx:=Y4 hx;clear hx;have Hw:=Y4 (Hza.o.trans Hx.o);have Hy:=Y4 (Hx1.o.trans (Hza.o.trans Hx.o));by_cases hlt:i<n_x
   ·obtain⟨hd_i,i0_i,i1_i⟩:=LTl i n_x;obtain⟨c,hs_c⟩:=geX (l:=(x.to_)) (i:=i) (by have:=Hn_x.o;omega);obtain⟨g_c,o_c,c_c,hvv,_,_,_,hgl_c,a0_c⟩:=(Ti_x.o.ext Hy.o).get hs_c;simp only[Ye]at hvv;obtain⟨rfl,-,rfl⟩:=hvv;have Hs_c:=Y4 hs_c;clear hs_c;have bx:=(Hbx.o.ext Hx.o).at_ 1 _ rfl;rcases Zj4 i with hj0|hj0
    ·have q6:decide ((0:Int)<(i:Int))=false:=Yg;have q7:decide (0<i)=false:=Yg;clear hj0;rcases Zj4 k with hk0|hk0
     ·have k1:((k:Int)==0)=true:=by simp;omega
      have k2:(k==0)=true:=by simp;omega
      have k3:decide (k=0)=true:=Yf hk0;have k4:decide ((0:Int)<(k:Int))=false:=Yg;have k5:decide (0<k)=false:=Yg;have hsc:=OK.o.scr hk0 x (Zy Hs_x.o);have hs1:=hsc.1 c (Zy Hs_c.o);have e1':decide (c<3)=false:=Yg;have e2':decide (60<c)=false:=Yg;skip;clear hk0 hsc hs1;go_wp2_with fail;all_goals
       have hx:=Hx.o
       first
       | (go_roundw
          case rel=>exact⟨i+1,by omega,by go_num,xE⟩
          (simp[intOf];omega))
       | (go_ret;exact⟨rfl,X0.o.trans (Hx1.o.trans (Hza.o.trans xE))⟩)
     have k1:((k:Int)==0)=false:=by simp;omega
     have k2:(k==0)=false:=by simp;omega
     have k3:decide (k=0)=false:=Yg;have k4:decide ((0:Int)<(k:Int))=true:=Yf;have k5:decide (0<k)=true:=Yf;have HS:=Y4 (OK.o.sca hk0 x (Zy Hs_x.o) c (Zy Hs_c.o));go_wp2_with (go_at_call 143;refine(J2 _ _).mono ?_;rintro e w' ⟨rfl,rfl⟩;rw[HS.o]);all_goals
      have hx:=Hx.o
      first
      | (go_roundw
         case rel=>exact⟨i+1,by omega,by go_num,xE⟩
         (simp[intOf];omega))
      | (go_ret;exact⟨rfl,X0.o.trans (Hx1.o.trans (Hza.o.trans xE))⟩)
    have q6:decide ((0:Int)<(i:Int))=true:=Yf;have q7:decide (0<i)=true:=Yf;obtain⟨y,hy⟩:∃ s,x.to_[i-1]?=some s:=⟨x.to_[i-1]'(by have:=Hn_x.o;omega),Zz _⟩;obtain⟨g',o',c',hvv,_,_,_,_,e1⟩:=(Ti_x.o.ext Hy.o).get hy;simp only[Ye,Yd,Zjp,Zjj,Zj6]at hvv;obtain⟨⟨rfl,rfl⟩,rfl⟩:=hvv;have w1':=Vl i hj0 (by omega);have w2':(1:Int)≤(i:Int):=by omega
    have w3':(0:Int)≤((i-1:Nat):Int):=by omega
    have w4':((i-1:Nat):Int)<(n_x:Int):=by omega
    have Hye:=Y4 hy;have Hj0:=Y4 hj0;clear hy hj0;rcases Zj4 k with hk0|hk0
    ·have k1:((k:Int)==0)=true:=by simp;omega
     have k2:(k==0)=true:=by simp;omega
     have k3:decide (k=0)=true:=Yf hk0;have k4:decide ((0:Int)<(k:Int))=false:=Yg;have k5:decide (0<k)=false:=Yg;have hsc:=OK.o.scr hk0 x (Zy Hs_x.o);have hs1:=hsc.1 c (Zy Hs_c.o);have e1':decide (c<3)=false:=Yg;have e2':decide (60<c)=false:=Yg;have e3':decide (c≤y)=false:=Yg (by have:=hsc.2 i c y Hj0.o Hs_c.o Hye.o;omega);clear hk0 hsc hs1;go_wp2_with fail;all_goals
      have hx:=Hx.o
      first
      | (go_roundw
         case rel=>exact⟨i+1,by omega,by go_num,xE⟩
         (simp[intOf];omega))
      | (go_ret;exact⟨rfl,X0.o.trans (Hx1.o.trans (Hza.o.trans xE))⟩)
    have k1:((k:Int)==0)=false:=by simp;omega
    have k2:(k==0)=false:=by simp;omega
    have k3:decide (k=0)=false:=Yg;have k4:decide ((0:Int)<(k:Int))=true:=Yf;have k5:decide (0<k)=true:=Yf;have HS:=Y4 (OK.o.sca hk0 x (Zy Hs_x.o) c (Zy Hs_c.o));go_wp2_with (go_at_call 143;refine(J2 _ _).mono ?_;rintro e w' ⟨rfl,rfl⟩;rw[HS.o]);all_goals
     have hx:=Hx.o
     first
     | (go_roundw
        case rel=>exact⟨i+1,by omega,by go_num,xE⟩
        (simp[intOf];omega))
     | (go_ret;exact⟨rfl,X0.o.trans (Hx1.o.trans (Hza.o.trans xE))⟩)
   have hd_i:=GEl i n_x;have hlj:=Hlj.o;have hx:=Hw.o;go_wp2_with fail;go_roundw;case rel=>exact⟨j+1,by omega,by go_num,xE⟩
   (simp[intOf];omega)
  have hd_j:=GEl j m;have hlt2:=Hlt.o;go_wp2_with fail;all_goals
   have hx:=Hx.o
   first
   | (go_roundw
      case rel=>exact⟨k+1,by omega,by go_num,xE⟩
      (simp[intOf];omega))
   | (go_ret;exact⟨rfl,X0.o.trans (Hx1.o.trans xE)⟩)
 have hd_k:decide ((k:Int)<(4:Int))=false:=Yg;go_wp2_with fail;all_goals
  have hx:=Hx.o
  first
  | (go_roundw
     case rel=>exact⟨k+1,by omega,by go_num,xE⟩
     (simp[intOf];omega))
  | (go_ret;exact⟨rfl,X0.o.trans (Hx1.o.trans xE)⟩)
theorem Zz7{l:List Sp}{i:Nat}{x:Sp}(h:l[i]?=some x):((l.take (i+1)).filter fun s=>s.val==3).length=((l.take i).filter fun s=>s.val==3).length+if x.val==3 then 1 else 0:=by
 rw[Za,h,Zgz,Zhi,Zs];cases hb:x.val==3<;>simp[List.filter,hb]
theorem Zzt{S:Nat→Prop}(T:Tbl)(hg:Fv T)(w:World)(h:Xk w S T):Calls prog 109 #[Vn T] w (Sy w):=by
 have G:=Y4 hg;have hlen:T.sta.length≤256:=(hg.sp 5 _ 4 rfl rfl).len;clear hg;obtain⟨A5,C5,e5,hl5,hc5⟩:=h.sta.shape;have h5:=h.sta.ext ((Yl w).alloc (Wx T));obtain⟨n5,hn5⟩:=gnX (T.sta.length);rw[hn5]at e5 hl5;rw[e5]at h5;have Hn5:=Y4 hn5;have E5:=Y4 e5;have H5:=Y4 h5;unfold maxLen at hc5;clear hn5 e5 h5;rw[Hn5.o]at hlen;obtain⟨A8,C8,e8,hl8,hc8⟩:=h.map.shape;have h8:=h.map.ext ((Yl w).alloc (Wx T));obtain⟨n8,hn8⟩:=gnX (T.map.length);rw[hn8]at e8 hl8;rw[e8]at h8;have Hn8:=Y4 hn8;have E8:=Y4 e8;have H8:=Y4 h8;unfold maxLen at hc8;clear hn8 e8 h8;have X0:=Y4 ((Yl w).alloc (Wx T));have H:=Y4 (h.up X0.o);have Hb0:=Y4 (Xm w T);clear h;have Hx:=Y4 (Yl (w.alloc (Wx T)));have b5:=(Hb0.o.ext Hx.o).at_ 5 (by omega);rw[show(Qj T)[5]?=some T.staV from rfl,E5.o]at b5;go_enter func109,ntmps109;go_wp2_with (refine Xw rfl ?_);clear b5;go_loopw [14,3] (fun o y wr=>∃ i:Nat,i≤n5∧o=.int .i64 (i:Int)∧(∃ z:Nat,y=.int .i64 (z:Int)∧z≤i∧z=((T.sta.take i).filter fun s=>s.val==3).length)∧Ext (w.alloc (Wx T)) wr) (fun o _ _=>n5-(intOf o).toNat);case atStart=>exact⟨0,by omega,rfl,⟨0,rfl,by omega,by simp⟩,Yl _⟩
 clear Hx;obtain⟨i,hi_i,rfl,⟨z,rfl,hzi,hz⟩,hx⟩:=hrel;have Hx:=Y4 hx;have Hz:=Y4 hz;clear hx hz;by_cases hlt:i<n5
 ·obtain⟨hd_i,i0_i,i1_i⟩:=LTl i n5;obtain⟨x,hs_x⟩:=geX (l:=(T.sta)) (i:=i) (by have:=Hn5.o;omega);obtain⟨g_x,o_x,c_x,hvv,_,_,_,hgl_x,a0_x,a1_x,a2_x⟩:=(H5.o.ext Hx.o).get hs_x;simp only[Ye]at hvv;obtain⟨rfl,-,rfl⟩:=hvv;have Hs_x:=Y4 hs_x;clear hs_x;have r2:=((G.o.sp 5 _ 4 rfl rfl).in_ x (Zy Hs_x.o)).2.1;have Ht:=Y4 (Zz7 Hs_x.o);obtain⟨fr,to_,val⟩:=x;simp only at r2 a0_x a1_x a2_x;subst r2;have p1:IntKind.i64.wrap (0+1)=1:=by rfl
  have p2:IntKind.i64.wrap 0=0:=by rfl
  have p3:IntKind.i64.wrap ((z:Int)+1)=((z+1:Nat):Int):=by rw[Yp _ (by omega)];omega
  have p4:to_-to_=0:=by omega
  cases hv:(val==3)
  ·go_wp2_with fail;have hx:=Hx.o;go_roundw;case rel=>exact⟨i+1,by omega,by go_num,⟨z,rfl,by omega,by rw[Ht.o,Hz.o];simp only;rw[hv];rfl⟩,xE⟩
   (simp[intOf];omega)
  go_wp2_with fail;have hx:=Hx.o;go_roundw;case rel=>exact⟨i+1,by omega,by go_num,⟨z+1,by first|rfl|go_num,by omega,by rw[Ht.o,Hz.o];simp only;rw[hv];rfl⟩,xE⟩
  (simp[intOf];omega)
 have hd_i:=GEl i n5;have b8:=(Hb0.o.ext Hx.o).at_ 8 (by omega);rw[show(Qj T)[8]?=some T.mapV from rfl,E8.o]at b8;have hzm:z=n8:=by
  rw[Hz.o,Zm (by rw[Hn5.o];omega),G.o.cnt,Hn8.o]
 have hz1:((z:Int)==(n8:Int))=true:=by simp[hzm]
 have hz2:(!((z:Int)==(n8:Int)))=false:=by rw[hz1];rfl
 have hz3:((z:Int)!=(n8:Int))=false:=hz2;have hz4:(z==n8)=true:=by simp[hzm]
 clear hzm;go_wp2_with fail;have Hx1:=Y4 Hx.o;clear Hx hz2 hz3 hz1 hz4 b8 hlt hd_i hi_i;go_loopw [38] (fun o wr=>∃ i:Nat,i≤n8∧o=.int .i64 (i:Int)∧Ext (w.alloc (Wx T)) wr) (fun o _=>n8-(intOf o).toNat);case atStart=>exact⟨0,by omega,rfl,Hx1.o⟩
 clear Hx1;obtain⟨k,hi_k,rfl,hx⟩:=hrel;have Hx:=Y4 hx;clear hx;by_cases hlt:k<n8
 ·obtain⟨hd_k,i0_k,i1_k⟩:=LTl k n8;obtain⟨m,hs_m⟩:=geX (l:=(T.map)) (i:=k) (by have:=Hn8.o;omega);obtain⟨g_m,o_m,c_m,hvv,_,_,_,hgl_m,a0_m,a1_m,_⟩:=(H8.o.ext Hx.o).get hs_m;simp only[Ye]at hvv;obtain⟨rfl,-,rfl⟩:=hvv;have ti_m:=H8.o.2 _ (Zy hs_m);obtain⟨A_m,C_m,tv_m,tl_m,tc_m⟩:=ti_m.shape;obtain⟨n_m,hn_m⟩:=gnX (m.to_.length);rw[tv_m]at a1_m ti_m;rw[hn_m]at a1_m tl_m;have Hn_m:=Y4 hn_m;unfold maxLen at tc_m;have Hs_m:=Y4 hs_m;have Ti_m:=Y4 ti_m;clear hs_m ti_m tv_m hn_m;have HS:=Y4 (G.o.mapS m (Zy Hs_m.o)).1;go_wp2_with (first|(refine Xz (Hb0.o.ext (have hx:=Hx.o;xE)) rfl ?_)|(go_at_call 144;refine(Qe T _ _ (H.o.up (have hx:=Hx.o;xE))).mono ?_;rintro e w1 ⟨rfl,hx1⟩;rw[HS.o];have hc1:=fun k=>hx1.cell (p:=⟨wr.heap.size,k,none⟩) (by simp)));have hx:=Hx.o;have Hxk:=Y4 (show Ext (w.alloc (Wx T)) w1 from xE);clear hx hx1 Hx hc1 HS;have Hkl:=Y4 hlt;clear hlt;go_loopw [50] (fun o wr=>∃ i:Nat,i≤n_m∧o=.int .i64 (i:Int)∧Ext (w.alloc (Wx T)) wr) (fun o _=>n_m-(intOf o).toNat);case atStart=>exact⟨0,by omega,rfl,Hxk.o⟩
  obtain⟨j,hi_j,rfl,hx⟩:=hrel;have Hx:=Y4 hx;clear hx;by_cases hlt:j<n_m
  ·obtain⟨hd_j,i0_j,i1_j⟩:=LTl j n_m;obtain⟨c,hs_c⟩:=geX (l:=(m.to_)) (i:=j) (by have:=Hn_m.o;omega);obtain⟨g_c,o_c,c_c,hvv,_,_,_,hgl_c,a0_c⟩:=(Ti_m.o.ext Hx.o).get hs_c;simp only[Ye]at hvv;obtain⟨rfl,-,rfl⟩:=hvv;have Hs_c:=Y4 hs_c;clear hs_c;have HS:=Y4 ((G.o.mapS m (Zy Hs_m.o)).2 c (Zy Hs_c.o));go_wp2_with (first|(refine Xz (Hb0.o.ext (have hx:=Hx.o;xE)) rfl ?_)|(go_at_call 144;refine(Qe T _ _ (H.o.up (have hx:=Hx.o;xE))).mono ?_;rintro e w1 ⟨rfl,hx1⟩;rw[HS.o]));all_goals
    have hx:=Hx.o
    first
    | (go_roundw
       case rel=>exact⟨j+1,by omega,by go_num,xE⟩
       (simp[intOf];omega))
    | (go_ret;exact⟨rfl,X0.o.trans xE⟩)
  have hd_j:=GEl j n_m;have hkl:=Hkl.o;go_wp2_with fail;all_goals
   have hx:=Hx.o
   first
   | (go_roundw
      case rel=>exact⟨k+1,by omega,by go_num,xE⟩
      (simp[intOf];omega))
   | (go_ret;exact⟨rfl,X0.o.trans xE⟩)
 have hd_k:=GEl k n8;go_wp2_with fail;all_goals
  have hx:=Hx.o
  first
  | (go_roundw
     case rel=>exact⟨k+1,by omega,by go_num,xE⟩
     (simp[intOf];omega))
  | (go_ret;exact⟨rfl,X0.o.trans xE⟩)
theorem Ca{S:Nat→Prop}(T:Tbl)(hg:Fv T)(w:World)(h:Xk w S T):Calls prog 110 #[Vn T] w (Sy w):=by
 have G:=Y4 hg;have Hf:=Y4 hg.few;clear hg;obtain⟨A9,C9,e9,hl9,hc9⟩:=h.dec.shape;have h9:=h.dec.ext ((Yl w).alloc (Wx T));obtain⟨n9,hn9⟩:=gnX (T.dec.length);rw[hn9]at e9 hl9;rw[e9]at h9;have Hn9:=Y4 hn9;have E9:=Y4 e9;have H9:=Y4 h9;unfold maxLen at hc9;clear hn9 e9 h9;have X0:=Y4 ((Yl w).alloc (Wx T));have H:=Y4 (h.up X0.o);have Hb0:=Y4 (Xm w T);clear h;have Hx:=Y4 (Yl (w.alloc (Wx T)));have b9:=(Hb0.o.ext Hx.o).at_ 9 (by omega);rw[show(Qj T)[9]?=some T.decV from rfl,E9.o]at b9;go_enter func110,ntmps110;go_wp2_with (refine Xw rfl ?_);clear b9;go_loopw [14] (fun o wr=>∃ i:Nat,i≤n9∧o=.int .i64 (i:Int)∧Ext (w.alloc (Wx T)) wr) (fun o _=>n9-(intOf o).toNat);case atStart=>exact⟨0,by omega,rfl,Yl _⟩
 clear Hx;obtain⟨i,hi_i,rfl,hx⟩:=hrel;have Hx:=Y4 hx;clear hx;by_cases hlt:i<n9
 ·obtain⟨hd_i,i0_i,i1_i⟩:=LTl i n9;obtain⟨m,hs_m⟩:=geX (l:=(T.dec)) (i:=i) (by have:=Hn9.o;omega);obtain⟨g_m,o_m,c_m,hvv,_,_,_,hgl_m,a0_m,a1_m,_⟩:=(H9.o.ext Hx.o).get hs_m;simp only[Ye]at hvv;obtain⟨rfl,-,rfl⟩:=hvv;have ti_m:=H9.o.2 _ (Zy hs_m);obtain⟨A_m,C_m,tv_m,tl_m,tc_m⟩:=ti_m.shape;obtain⟨n_m,hn_m⟩:=gnX (m.to_.length);rw[tv_m]at a1_m ti_m;rw[hn_m]at a1_m tl_m;have Hn_m:=Y4 hn_m;unfold maxLen at tc_m;have Hs_m:=Y4 hs_m;have Ti_m:=Y4 ti_m;clear hs_m ti_m tv_m hn_m;have h2:=(G.o.dec2 m (Zy Hs_m.o)).1;rw[Hn_m.o]at h2;have d1:decide ((2:Int)<(n_m:Int))=false:=Yg;go_wp2_with fail;have Hxk:=Y4 (Hx.o.alloc (.cells #[.int .i64 m.fr,.slice A_m n_m C_m] 106));have Hkl:=Y4 hlt;clear Hx hlt d1 h2;go_loopw [25] (fun o wr=>∃ i:Nat,i≤n_m∧o=.int .i64 (i:Int)∧Ext (w.alloc (Wx T)) wr) (fun o _=>n_m-(intOf o).toNat);case atStart=>exact⟨0,by omega,rfl,Hxk.o⟩
  obtain⟨j,hi_j,rfl,hx⟩:=hrel;have Hx:=Y4 hx;clear hx;by_cases hlt:j<n_m
  ·obtain⟨hd_j,i0_j,i1_j⟩:=LTl j n_m;obtain⟨c,hs_c⟩:=geX (l:=(m.to_)) (i:=j) (by have:=Hn_m.o;omega);obtain⟨g_c,o_c,c_c,hvv,_,_,_,hgl_c,a0_c⟩:=(Ti_m.o.ext Hx.o).get hs_c;simp only[Ye]at hvv;obtain⟨rfl,-,rfl⟩:=hvv;have Hs_c:=Y4 hs_c;clear hs_c;obtain⟨r1,r2,r3⟩:=(G.o.dec2 m (Zy Hs_m.o)).2 c (Zy Hs_c.o);have q1:(c==46)=false:=by simp[r1]
   have HY:=Y4 r2;have HJ:=Y4 r3;clear r1 r2 r3;go_wp2_with (first|(go_at_call 113;refine(Jl _ _).mono ?_;rintro e w' ⟨rfl,rfl⟩;rw[HY.o])|(go_at_call 145;refine(Dl _ _).mono ?_;rintro e w' ⟨rfl,rfl⟩;rw[HJ.o]));all_goals
    have hx:=Hx.o
    first
    | (go_roundw
       case rel=>exact⟨j+1,by omega,by go_num,xE⟩
       (simp[intOf];omega))
    | (go_ret;exact⟨rfl,X0.o.trans xE⟩)
  have hd_j:=GEl j n_m;have hkl:=Hkl.o;go_wp2_with fail;all_goals
   have hx:=Hx.o
   first
   | (go_roundw
      case rel=>exact⟨i+1,by omega,by go_num,xE⟩
      (simp[intOf];omega))
   | (go_ret;exact⟨rfl,X0.o.trans xE⟩)
 have hd_i:=GEl i n9;have b9:=(Hb0.o.ext Hx.o).at_ 9 (by omega);rw[show(Qj T)[9]?=some T.decV from rfl,E9.o]at b9;go_wp2_with fail;have Hx1:=Y4 Hx.o;clear Hx hlt hd_i hi_i b9;go_loopw [44] (fun o wr=>∃ i:Nat,i≤n9∧o=.int .i64 (i:Int)∧Ext (w.alloc (Wx T)) wr) (fun o _=>n9-(intOf o).toNat);case atStart=>exact⟨0,by omega,rfl,Hx1.o⟩
 clear Hx1;obtain⟨k,hi_k,rfl,hx⟩:=hrel;have Hx:=Y4 hx;clear hx;by_cases hlt:k<n9
 ·obtain⟨hd_k,i0_k,i1_k⟩:=LTl k n9;obtain⟨m,hs_m⟩:=geX (l:=(T.dec)) (i:=k) (by have:=Hn9.o;omega);obtain⟨g_m,o_m,c_m,hvv,_,_,_,hgl_m,a0_m,a1_m,_⟩:=(H9.o.ext Hx.o).get hs_m;simp only[Ye]at hvv;obtain⟨rfl,-,rfl⟩:=hvv;have ti_m:=H9.o.2 _ (Zy hs_m);obtain⟨A_m,C_m,tv_m,tl_m,tc_m⟩:=ti_m.shape;obtain⟨n_m,hn_m⟩:=gnX (m.to_.length);rw[tv_m]at a1_m ti_m;rw[hn_m]at a1_m tl_m;have Hn_m:=Y4 hn_m;unfold maxLen at tc_m;have Hs_m:=Y4 hs_m;have Ti_m:=Y4 ti_m;clear hs_m ti_m tv_m hn_m;obtain⟨r,hfull⟩:=Zh4.1 (G.o.fin m (Zy Hs_m.o));have Hfull:=Y4 hfull;clear hfull;go_wp2_with (first|(refine Xz (Hb0.o.ext (have hx:=Hx.o;xE)) rfl ?_)|(go_at_call 146;refine(Ey T m.fr _ (H.o.up (have hx:=Hx.o;xE)) Hf.o).mono ?_;rintro e w5 hp;unfold Jj at hp;rw[Hfull.o]at hp;obtain⟨v5,rfl,hv5,hx5⟩:=hp));all_goals
   have hx:=Hx.o
   first
   | (go_roundw
      case rel=>exact⟨k+1,by omega,by go_num,xE⟩
      (simp[intOf];omega))
   | (go_ret;exact⟨rfl,X0.o.trans xE⟩)
 have hd_k:=GEl k n9;go_wp2_with fail;all_goals
  have hx:=Hx.o
  first
  | (go_roundw
     case rel=>exact⟨k+1,by omega,by go_num,xE⟩
     (simp[intOf];omega))
  | (go_ret;exact⟨rfl,X0.o.trans xE⟩)
