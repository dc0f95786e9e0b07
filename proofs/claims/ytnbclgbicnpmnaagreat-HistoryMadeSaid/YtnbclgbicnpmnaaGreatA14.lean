/- Lemmas of this claim. Conditions: as named. -/
import Derived.Test.YtnbclgbicnpmnaaGreatA09
import Derived.Test.YtnbclgbicnpmnaaGreatA10
namespace Go.Proofs.YtnbclgbicnpmnaaGreat
open Go.RowKit Go.Sort
set_option maxHeartbeats 0
set_option maxRecDepth 100000
set_option linter.all false
theorem Nd{S:Nat→Prop}(T:Tbl)(c:Int)(w:World)(h:Xi w S T)(hne:(Xe T.dec c).length≠2) :
 Calls Tryz.prog 112 #[Vr T,.int .i64 c] w fun e w'=>e=.returned (.bool false)∧Ext w w':=by
 obtain⟨A9,C9,e9,hl9,hc9⟩:=h.dec.shape;have h9:=h.dec.ext ((Yn w).alloc (Wx T));obtain⟨n9,hn9⟩:=gnX (T.dec.length);rw[hn9]at e9 hl9;rw[e9]at h9;have Hn9:=Ya hn9;have E9:=Ya e9;have H9:=Ya h9;unfold maxLen at hc9;clear hn9 e9 h9;have X0:=Ya ((Yn w).alloc (Wx T));have H:=Ya (h.up X0.o);have Hb0:=Ya (Xn w T);clear h;have hfa:=Qr (S:=S) (c:=c) H9.o.2;obtain⟨FA,FC,ef,_,fc⟩:=hfa.shape;obtain⟨d,hd⟩:=gnX ((Xe T.dec c).length);rw[hd]at ef hne;have Hx:=Ya (Yn (w.alloc (Wx T)));have b9:=(Hb0.o.ext Hx.o).at_ 9 (by omega);rw[show(Qs T)[9]?=some T.decV from rfl,E9.o]at b9;clear hfa Hx hd;have q1:(!((d:Int)==2))=true:=by simp;omega
 have q2:((d:Int)!=2)=true:=q1;have q3:((d:Int)==2)=false:=by simp;omega
 have Hne:=Ya hne;clear hne;go_enter Tryz.func112,Tryz.ntmps112;go_wp2_with (first|(refine Xx rfl ?_)|(go_at_call 111;refine(Ww _ T.dec c _ H9.o).mono ?_;rintro e w1 ⟨rfl,hx1⟩));have HW:=Ya (H.o.up hx1);have HD:=Ya (H9.o.ext hx1);have hun:=Yd;refine Y0 (by kernel_rfl) (by kernel_rfl) ?_;repeat((with_reducible refine Yw ?_);intro K hK;go_simp;first|((with_reducible refine hK _ ?_);clear hK K)|(apply Exists.intro;refine⟨fun _=>?_,hK _ ?_⟩;(first|(go_at_call 147;exact Y8 (Wj T _ _ (HW.o.up (⟨_,_,rfl⟩))))|(go_at_call 148;exact Y8 (Xr T _ _ (HW.o.up (⟨_,_,rfl⟩))))|(go_at_call 111;exact Y8 (Ww _ T.dec _ _ (HD.o.ext (⟨_,_,rfl⟩)))));clear hK K))
 (with_reducible refine Yv ?_)
 intro w2 hy;clear hun;go_wp2_with fail;go_ret;exact⟨rfl,X0.o.trans (hx1.trans hy)⟩
theorem Zr1{S:Nat→Prop}(T:Tbl)(hfin:Zrx T)(hf:Few T):∀ (n:Nat) (c:Int) (w:World),Dep T.dec n c→Xi w S T →
 Calls Tryz.prog 112 #[Vr T,.int .i64 c] w fun e w'=>e=.returned (.bool (Dx T (n+1) c))∧Ext w w':=by
 intro n
 induction n with
 | zero =>
  intro c w hd h;have hd':Xe T.dec c=[]:=hd;rw[F6 (by rw[hd'];simp)];exact Nd T c w h (by rw[hd'];simp)
 | succ n ih =>
  intro c w hd h;by_cases h2:(Xe T.dec c).length=2
  ·obtain⟨x,y,hxy⟩:∃ x y,Xe T.dec c=[x,y]:=by
    match hh:Xe T.dec c with
    | [x,y]=>exact⟨x,y,rfl⟩
    | []=>rw[hh]at h2;simp at h2
    | [_]=>rw[hh]at h2;simp at h2
    | _::_::_::_=>rw[hh]at h2;simp at h2
   refine Zux T hfin hf (n+1) c x y w h hxy fun hne w' hx=>?_
   refine ih x w' ?_ (h.up hx);rcases hd with hd | ⟨x',r,hd,hd2⟩
   ·rw[hxy]at hd;simp at hd
   rw[hxy]at hd;simp only[Zhr]at hd;rw[hd.1];exact hd2
  rw[F6 h2];exact Nd T c w h h2
def Gh(T:Tbl)(c:Int):Bool:=Dx T 258 c
theorem Kr{S:Nat→Prop}(T:Tbl)(hfin:Zrx T)(hf:Few T)(c:Int)(w:World)(h:Xi w S T) :
 Calls Tryz.prog 112 #[Vr T,.int .i64 c] w fun e w'=>e=.returned (.bool (Gh T c))∧Ext w w' :=
 Zr1 T hfin hf 257 c w (Zo6 hfin c) h
def Cq(T:Tbl)(c:Int):List Int:=if Ba c≠[]then Ba c else(Qj T.dec 257 [c]).getD []
theorem Zuh(c:Int):(Ba c).length≤3:=by
 unfold Ba;split
 ·split<;>simp
 simp
theorem Zyo(T:Tbl)(c:Int):(Cq T c).length≤18:=by
 unfold Cq;split
 ·have:=Zuh c;omega
 cases h:Qj T.dec 257 [c]with
 | none=>simp
 | some r=>exact Ph _ _ _ _ (by simp) h
def Zoo(T:Tbl)(c:Int)(w:World)(e:Ending)(w':World):Prop:=∃ v,e=.returned v∧RdE Wh w' (fun k=>w.heap.size≤k) v (Cq T c)∧Ext w w'
theorem Zx1{S:Nat→Prop}(T:Tbl)(hf:Few T)(c:Int)(w:World)(h:Xi w S T):Calls Tryz.prog 247 #[Vr T,.int .i64 c] w (Zoo T c w):=by
 have X0:=Ya ((Yn w).alloc (Wx T));have H:=Ya (h.up X0.o);have Hb0:=Ya (Xn w T);clear h;have Hf:=Ya hf;clear hf;go_enter Tryz.func247,Tryz.ntmps247;by_cases h0:Ba c=[]
 ·have H0:=Ya h0;go_wp2_with (first|(refine Xx rfl ?_)|(go_at_call 261;refine(Zyl _ _).mono ?_;rintro e w1 ⟨v,rfl,hv,hx1⟩;rw[H0.o]at hv;obtain⟨A1,C1,rfl,_,_⟩:=hv.shape)|(refine Y4 (Hb0.o.ext hx1) rfl ?_));cases hfull:Qj T.dec 257 [c]with
  | none =>
   have Hfull:=Ya hfull;go_wp2_with (first|(refine Y4 (Hb0.o.ext hx1) rfl ?_)|(go_at_call 146;refine(Bb T c _ (H.o.up hx1) Hf.o).mono ?_;rintro e w5 hp;unfold Jp at hp;rw[Hfull.o]at hp;obtain⟨rfl,hx5⟩:=hp));go_ret;refine⟨.slice none 0 0,rfl,?_,X0.o.trans (hx1.trans hx5)⟩;rw[show Cq T c=[] by unfold Cq;rw[Zlk (fun h=>h H0.o),Hfull.o];rfl];exact Xz.nil _ _
  | some r =>
   have Hfull:=Ya hfull;go_wp2_with (first|(refine Y4 (Hb0.o.ext hx1) rfl ?_)|(go_at_call 146;refine(Bb T c _ (H.o.up hx1) Hf.o).mono ?_;rintro e w5 hp;unfold Jp at hp;rw[Hfull.o]at hp;obtain⟨v5,rfl,hv5,hx5⟩:=hp));go_ret;refine⟨v5,rfl,?_,X0.o.trans (hx1.trans hx5)⟩;rw[show Cq T c=r by unfold Cq;rw[Zlk (fun h=>h H0.o),Hfull.o];rfl];exact Rd.mono hv5 fun k hk _=>Zlh X0.o.size (Zlh hx1.size hk)
 have H0:=Ya h0;obtain⟨n,hn⟩:=gnX ((Ba c).length);have hp:0<n:=by rw[← hn];exact Ziy.2 h0
 have Hn:=Ya hn;clear hn h0;have d1:decide ((0:Int)<(n:Int))=true:=Yh (by omega);have d2:decide (0<n)=true:=Yh hp;go_wp2_with (first|(refine Xx rfl ?_)|(go_at_call 261;refine(Zyl _ _).mono ?_;rintro e w1 ⟨v,rfl,hv,hx1⟩;obtain⟨A1,C1,rfl,_,_⟩:=hv.shape;rw[Hn.o]));go_ret;refine⟨.slice A1 n C1,rfl,?_,X0.o.trans hx1⟩;rw[show Cq T c=Ba c from Zlg H0.o,← Hn.o];exact Rd.mono hv fun k hk _=>Zlh X0.o.size hk
theorem Zst{S S':Nat→Prop}(v v':Value)(l l':List Int)(w:World)(h:Xz w S v l)(h':Xz w S' v' l'):Calls Tryz.prog 251 #[v,v'] w (V3 w):=by
 obtain⟨A,C,rfl,hlCC,hCC⟩:=h.shape;obtain⟨n,hnn⟩:=gnX ((l).length);have Hnn:=Ya hnn;have Hh:=Ya h;unfold maxLen at hCC;rw[hnn]at hlCC⊢;clear h hnn;obtain⟨B,D,rfl,hlCD,hCD⟩:=h'.shape;obtain⟨k,hnk⟩:=gnX ((l').length);have Hnk:=Ya hnk;have Hh':=Ya h';unfold maxLen at hCD;rw[hnk]at hlCD⊢;clear h' hnk;go_enter Tryz.func251,Tryz.ntmps251;by_cases hnk:n=k
 ·subst hnk;have d0:(!((n:Int)==(n:Int)))=false:=by simp
  go_wp2_with fail;go_loopw [13] (fun o wr=>∃ i:Nat,i≤n∧o=.int .i64 (i:Int)∧Ext w wr) (fun o _=>n-(intOf o).toNat);case atStart=>exact⟨0,by omega,rfl,(by repeat' first|exact Yn _|assumption|apply Ym|apply Yl|apply Yk|(refine Yj ?_ (by assumption)))⟩
  obtain⟨i,hi_i,rfl,hx⟩:=hrel;have Hx:=Ya hx;clear hx;by_cases hlt:i<n
  ·obtain⟨hd_i,i0_i,i1_i⟩:=LTl i n (by omega);obtain⟨x,hs_x⟩:=geX (l:=(l)) (i:=i) (by have:=Hnn.o;omega);obtain⟨g_x,o_x,c_x,hvv,_,_,_,hgl_x,a0_x⟩:=(Hh.o.ext Hx.o).get hs_x;simp only[Yg]at hvv;obtain⟨rfl,-,rfl⟩:=hvv;have Hs_x:=Ya hs_x;clear hs_x;obtain⟨y,hs_y⟩:=geX (l:=(l')) (i:=i) (by have:=Hnk.o;omega);obtain⟨g_y,o_y,c_y,hvv,_,_,_,hgl_y,a0_y⟩:=(Hh'.o.ext Hx.o).get hs_y;simp only[Yg]at hvv;obtain⟨rfl,-,rfl⟩:=hvv;have Hs_y:=Ya hs_y;clear hs_y;have m0:=lat a0_x;have m1:=lat a0_y;go_wp2_with fail;refine Y0 (by kernel_rfl) (by kernel_rfl) ?_;repeat((with_reducible refine Yw ?_);intro K hK;go_simp;(with_reducible refine hK _ ?_);clear hK K)
   (with_reducible refine Yv ?_)
   intro w2 hy;go_wp2_with fail;all_goals
    have hx:=Hx.o
    first
    | (go_roundw
       case rel=>exact⟨i+1,by omega,by go_num,(by repeat' first|exact Yn _|assumption|apply Ym|apply Yl|apply Yk|(refine Yj ?_ (by assumption)))⟩
       (simp[intOf];omega))
    | (go_ret;exact⟨_,rfl,(by repeat' first|exact Yn _|assumption|apply Ym|apply Yl|apply Yk|(refine Yj ?_ (by assumption)))⟩)
  have hd_i:=GEl i n (by omega);go_wp2_with fail;all_goals
   have hx:=Hx.o
   first
   | (go_roundw
      case rel=>exact⟨i+1,by omega,by go_num,(by repeat' first|exact Yn _|assumption|apply Ym|apply Yl|apply Yk|(refine Yj ?_ (by assumption)))⟩
      (simp[intOf];omega))
   | (go_ret;exact⟨_,rfl,(by repeat' first|exact Yn _|assumption|apply Ym|apply Yl|apply Yk|(refine Yj ?_ (by assumption)))⟩)
 have d0:(!((n:Int)==(k:Int)))=true:=by simp;omega
 have d1:((n:Int)!=(k:Int))=true:=d0;have d2:(!(n==k))=true:=by simp;omega
 have d3:(n !=k)=true:=d2;go_wp2_with fail;all_goals(go_ret;exact⟨_,rfl,(by repeat' first|exact Yn _|assumption|apply Ym|apply Yl|apply Yk|(refine Yj ?_ (by assumption)))⟩)
theorem Ef{ops:Array Oper}{rest:List Oper}{dst:Option Nat}{x:Operand}{t:TypeId}{pos:String}{af:Array Edge}{gd:Option (Nat×Bool)}{a:Act}{w:World}{Q:Exit→Act→World→Prop}{b:Nat}{T:Tbl}(h:Ja w b T)
 (hw:Region.wanted {dst:=dst,op:=.load 34 x,type:=t,pos:=pos,after:=af,guard:=gd} (yielded ops a.tmps)=true) (hx:a.eval x=.pointer (some ⟨b,0,none⟩)) (hK:wpList Tryz.prog ops Q rest (a.put dst (Vr T)) w) :
 wpList Tryz.prog ops Q ({dst:=dst,op:=.load 34 x,type:=t,pos:=pos,after:=af,guard:=gd}::rest) a w:=by
 have hu:=M9;rw[Zl9]at hu;obtain⟨d,hu,hd⟩:=hu;show if _ then _ else _
 rw[Zlg hw];exact .inl (Zhd _ x rfl b 0 hx (Qs T) d h.range hu hd (by rw[Gn];rfl) hK)
def Uq0(T:Tbl):Prop:=∀ m∈T.dec,Xe T.dec m.fr=m.to_
def Re(w:World)(e:Ending)(w':World):Prop:=e=.returned (.bool true)∧Ext w w'
def Dm:List Int:=[8,254,5,11,60,4,1]
structure Zlr(l:List Sp)(m:Int):Prop where
 len:l.length≤256
 in_:∀ s∈l,0≤s.fr∧s.to_=s.fr∧s.fr≤1114111∧Ij s.fr=false∧1≤s.val∧s.val≤m
 lt:∀ (i:Nat) (x y:Sp),0<i→l[i]?=some x→l[i-1]?=some y→y.fr<x.fr
structure Zln(l:List Mp)(k:Nat):Prop where
 len:l.length≤256
 in_:∀ m∈l,0≤m.fr∧m.fr≤1114111∧(Ij m.fr=false∨((k:Int)==3)=true∧Zpc m.fr=true)∧1≤m.to_.length∧m.to_.length≤18
 lt:∀ (i:Nat) (x y:Mp),0<i→l[i]?=some x→l[i-1]?=some y→y.fr<x.fr
 scr:k=0→∀ m∈l,(∀ c∈m.to_,3≤c∧c≤60)∧∀ (i:Nat) (x y:Int),0<i→m.to_[i]?=some x→m.to_[i-1]?=some y→y<x
 sca:0<k→∀ m∈l,∀ c∈m.to_,Zy9 c=true
structure Af(T:Tbl):Prop where
 sp:∀ (j:Nat) p z,(Zzd T)[j]?=some p→Dm[j]?=some z→Zlr p.2 z
 mp:∀ (j:Nat) p,(Zzw T)[j]?=some p→Zln p.2 j
 xlen:T.exc.length≤256
 xin:∀ c∈T.exc,0≤c∧c≤1114111∧Ij c=false∧Xe T.dec c≠[]
 xlt:∀ (i:Nat) (x y:Int),0<i→T.exc[i]?=some x→T.exc[i-1]?=some y→y<x
 cnt:(T.sta.filter fun s=>s.val==3).length=T.map.length
 mapS:∀ m∈T.map,Zrw T m.fr=3∧∀ c∈m.to_,Zrw T c=1
 dec2:∀ m∈T.dec,m.to_.length≤2∧∀ c∈m.to_,c≠46∧Bk c=false∧Il c=false
 fin:Zrx T
 few:Few T
 uq:Uq0 T
 r8:∀ (i j:Nat) a b,j<i→T.dec[i]?=some a→T.dec[j]?=some b→Gh T a.fr=true→Gh T b.fr=true→a.to_≠b.to_
 r9:∀ m∈T.pro,Xe T.dec m.fr=[]∧(Wk T.ign m.fr==1)=false∧∀ c∈m.to_,Xe T.dec c=[]∧(Wk T.ign c==1)=false∧Bk c=false∧Xe T.pro c=[]
theorem Zuy(c:Int)(hc:Ij c=false)(i:Nat)(h:i<6):∃ lo hi:Int,(∀ wx,(Instr.index 235 (.agg #[.int .i64 0,.int .i64 127,.int .i64 55296,.int .i64 57343,.int .i64 44032,.int .i64 55203,.int .i64 4352,.int .i64 4370,.int .i64 4449,.int .i64 4469,.int .i64 4520,.int .i64 4546]) (.int .i64 (i:Int))).run Tryz.prog wx=.ok (.agg #[.int .i64 lo,.int .i64 hi]) wx)∧((decide (c≤hi)=true∧decide (lo≤c)=false)∨decide (c≤hi)=false):=by
 have key:∀ lo hi:Int,¬ (lo≤c∧c≤hi)→((decide (c≤hi)=true∧decide (lo≤c)=false)∨decide (c≤hi)=false):=fun lo hi hn=>by
  by_cases h1:c≤hi
  ·exact .inl ⟨Yh h1,Yi fun h2=>hn ⟨h2,h1⟩⟩
  exact .inr (Yi h1)
 simp only[Ij,Bk,Il,Bool.or_eq_false_iff,Bool.and_eq_false_iff,Zl7]at hc;rcases(show i=0∨i=1∨i=2∨i=3∨i=4∨i=5 by omega)with rfl|rfl|rfl|rfl|rfl|rfl
 ·exact⟨0,127,fun _=>by kernel_rfl,key _ _ (by omega)⟩
 ·exact⟨55296,57343,fun _=>by kernel_rfl,key _ _ (by omega)⟩
 ·exact⟨44032,55203,fun _=>by kernel_rfl,key _ _ (by omega)⟩
 ·exact⟨4352,4370,fun _=>by kernel_rfl,key _ _ (by omega)⟩
 ·exact⟨4449,4469,fun _=>by kernel_rfl,key _ _ (by omega)⟩
 exact⟨4520,4546,fun _=>by kernel_rfl,key _ _ (by omega)⟩
theorem Zxe(a b c:Int)(hb:b=a)(hc:Ij a=false)(w:World):Calls Tryz.prog 140 #[.agg #[.int .i64 a,.int .i64 b,.int .i64 c]] w (Re w):=by
 subst hb;have X0:=Ya ((Yn w).alloc (.cells #[.int .i64 b,.int .i64 b,.int .i64 c] 99));have HC:=Ya hc;clear hc;go_enter Tryz.func140,Tryz.ntmps140;go_wp2_with fail;go_loopw [12] (fun o wr=>∃ i:Nat,i≤6∧o=.int .i64 (i:Int)∧Ext (w.alloc (.cells #[.int .i64 b,.int .i64 b,.int .i64 c] 99)) wr) (fun o _=>6-(intOf o).toNat);case atStart=>exact⟨0,by omega,rfl,Yn _⟩
 obtain⟨i,hi_i,rfl,hx⟩:=hrel;have Hx:=Ya hx;clear hx;have hb:=(Jh w #[.int .i64 b,.int .i64 b,.int .i64 c] 99 _ rfl).ext Hx.o
 have b0:=hb.at_ 0 _ rfl;have b1:=hb.at_ 1 _ rfl;have hbl:=hb.lt;clear hb;by_cases hlt:i<6
 ·have hd_i:decide ((i:Int)<(6:Int))=true:=Yh (by omega);have i0_i:(0:Int)≤(i:Int):=(by omega);have i1_i:(i:Int)<(6:Int):=(by omega);obtain⟨lo,up,hix,hq⟩:=Zuy b HC.o i hlt;rcases hq with⟨q1,q2⟩|q1
  ·go_wp2_with fail;all_goals
    have hx:=Hx.o
    first
    | (go_roundw
       case rel=>exact⟨i+1,by omega,by go_num,(by repeat' first|exact Yn _|assumption|apply Ym|apply Yl|apply Yk|(refine Yj ?_ (by assumption)))⟩
       (simp[intOf];omega))
    | (go_ret;exact⟨rfl,X0.o.trans (by repeat' first|exact Yn _|assumption|apply Ym|apply Yl|apply Yk|(refine Yj ?_ (by assumption)))⟩)
  go_wp2_with fail;all_goals
   have hx:=Hx.o
   first
   | (go_roundw
      case rel=>exact⟨i+1,by omega,by go_num,(by repeat' first|exact Yn _|assumption|apply Ym|apply Yl|apply Yk|(refine Yj ?_ (by assumption)))⟩
      (simp[intOf];omega))
   | (go_ret;exact⟨rfl,X0.o.trans (by repeat' first|exact Yn _|assumption|apply Ym|apply Yl|apply Yk|(refine Yj ?_ (by assumption)))⟩)
 have hd_i:decide ((i:Int)<(6:Int))=false:=Yi (by omega);go_wp2_with fail;all_goals
  have hx:=Hx.o
  first
  | (go_roundw
     case rel=>exact⟨i+1,by omega,by go_num,(by repeat' first|exact Yn _|assumption|apply Ym|apply Yl|apply Yk|(refine Yj ?_ (by assumption)))⟩
     (simp[intOf];omega))
  | (go_ret;exact⟨rfl,X0.o.trans (by repeat' first|exact Yn _|assumption|apply Ym|apply Yl|apply Yk|(refine Yj ?_ (by assumption)))⟩)
theorem Zzm{S:Nat→Prop}(v:Value)(l:List Sp)(z:Int)(w:World)(h:Vs w S v l)(ok:Zlr l z):Calls Tryz.prog 139 #[v,.int .i64 0,.int .i64 1114111] w (Re w):=by
 have OK:=Ya ok;have hlen:=ok.len;obtain⟨A,C,rfl,hlCC,hCC⟩:=h.shape;obtain⟨n,hnn⟩:=gnX ((l).length);have Hnn:=Ya hnn;have Hh:=Ya h;unfold maxLen at hCC;rw[hnn]at hlCC⊢;clear h hnn;rw[Hnn.o]at hlen;clear ok;go_enter Tryz.func139,Tryz.ntmps139;have hb:decide ((256:Int)<(n:Int))=false:=Yi (by omega);go_wp2_with fail;go_loopw [14] (fun o wr=>∃ i:Nat,i≤n∧o=.int .i64 (i:Int)∧Ext w wr) (fun o _=>n-(intOf o).toNat);case atStart=>exact⟨0,by omega,rfl,Yn _⟩
 obtain⟨i,hi,rfl,hx⟩:=hrel;have Hx:=Ya hx;clear hx;by_cases hlt:i<n
 ·have hd:=LTd i n (by omega);have i0:(0:Int)≤(i:Int):=by omega
  have i1:(i:Int)<(n:Int):=by omega
  obtain⟨x,hs⟩:=geX (l:=(l)) (i:=i) (by first|(rw[Hnn.o];exact hlt)|(have:=Hnn.o;omega));obtain⟨g,o,c',hvv,_,_,_,hgl,c0,c1,c2⟩:=(Hh.o.ext Hx.o).get hs;simp only[Yg]at hvv;obtain⟨rfl,-,rfl⟩:=hvv;have Hs:=Ya hs;clear hs;obtain⟨r1,r2,r3,_,_,_⟩:=OK.o.in_ x (Zy Hs.o);obtain⟨fr,to_,val⟩:=x;simp only at r1 r2 r3 c0 c1 c2;subst r2;go_wp2_with fail;obtain⟨W,hW⟩:=gnX (wr.alloc (.cells #[.int .i64 to_,.int .i64 to_,.int .i64 val] 99));have m0:=lat (show W.cell? ⟨wr.heap.size,0,none⟩=some (.int .i64 to_) by(rw[← hW];clear hW;go_simp));have m1:=lat (show W.cell? ⟨wr.heap.size,1,none⟩=some (.int .i64 to_) by(rw[← hW];clear hW;go_simp));have hxw:Ext wr W:=by rw[← hW];exact(Yn _).alloc _
  rw[hW];clear hW;have q1:decide (to_<0)=false:=Yi (by omega);have q2:decide (to_<to_)=false:=Yi (by omega);have q3:decide (1114111<to_)=false:=Yi (by omega);clear r1 r3;rcases Zkq i with hi0|hi0
  ·have q6:decide ((0:Int)<(i:Int))=false:=Yi (by omega);have q7:decide (0<i)=false:=Yi (by omega);clear hi0;have hun:=Yd;refine Y0 (by kernel_rfl) (by kernel_rfl) ?_;repeat((with_reducible refine Yw ?_);intro K hK;go_simp;(with_reducible refine hK _ ?_);clear hK K)
   (with_reducible refine Yv ?_);intro w1 hy
   clear hun;try simp only[Ye]
   go_wp2_with fail;all_goals
    have hx:=Hx.o
    first
    | (go_roundw
       case rel=>exact⟨i+1,by omega,by go_num,(by repeat' first|exact Yn _|assumption|apply Ym|apply Yl|apply Yk|(refine Yj ?_ (by assumption)))⟩
       (simp[intOf];omega))
    | (go_ret;exact⟨rfl,(by repeat' first|exact Yn _|assumption|apply Ym|apply Yl|apply Yk|(refine Yj ?_ (by assumption)))⟩)
  have q6:decide ((0:Int)<(i:Int))=true:=Yh (by omega);have q7:decide (0<i)=true:=Yh (by omega);obtain⟨y,hy⟩:=geX (l:=l) (i:=i-1) (by have:=Hnn.o;omega);have q8:decide (to_≤y.to_)=false:=Yi (by have h1:=OK.o.lt i _ y hi0 Hs.o hy;have h2:=(OK.o.in_ y (Zy hy)).2.1;simp only at h1;omega);obtain⟨g',o',c',hvv,_,_,_,_,_,d1,_⟩:=(Hh.o.ext Hx.o).get hy;simp only[Yg,Yf,Zld,Zl2,Zks]at hvv;obtain⟨⟨rfl,rfl⟩,rfl⟩:=hvv;have m2:=lat ((hxw.cell (p:=⟨g,o+(i-1)*3+1,none⟩) hgl).trans d1);have w1:=Vu i hi0 (by omega);have w2:(1:Int)≤(i:Int):=by omega
  have w3:(0:Int)≤((i-1:Nat):Int):=by omega
  have w4:((i-1:Nat):Int)<(n:Int):=by omega
  clear hy hi0;have hun:=Yd;refine Y0 (by kernel_rfl) (by kernel_rfl) ?_;repeat((with_reducible refine Yw ?_);intro K hK;go_simp;(with_reducible refine hK _ ?_);clear hK K)
  (with_reducible refine Yv ?_);intro w1 hy
  clear hun;try simp only[Ye]
  go_wp2_with fail;all_goals
   have hx:=Hx.o
   first
   | (go_roundw
      case rel=>exact⟨i+1,by omega,by go_num,(by repeat' first|exact Yn _|assumption|apply Ym|apply Yl|apply Yk|(refine Yj ?_ (by assumption)))⟩
      (simp[intOf];omega))
   | (go_ret;exact⟨rfl,(by repeat' first|exact Yn _|assumption|apply Ym|apply Yl|apply Yk|(refine Yj ?_ (by assumption)))⟩)
 have hd:=GEl i n (by omega);have hx:=Hx.o;go_wp2_with fail;all_goals
  have hx:=Hx.o
  first
  | (go_roundw
     case rel=>exact⟨i+1,by omega,by go_num,(by repeat' first|exact Yn _|assumption|apply Ym|apply Yl|apply Yk|(refine Yj ?_ (by assumption)))⟩
     (simp[intOf];omega))
  | (go_ret;exact⟨rfl,(by repeat' first|exact Yn _|assumption|apply Ym|apply Yl|apply Yk|(refine Yj ?_ (by assumption)))⟩)
theorem Zz1{l:List Sp}{i:Nat}{x:Sp}(h:l[i]?=some x):((l.take (i+1)).filter fun s=>s.val==3).length=((l.take i).filter fun s=>s.val==3).length+if x.val==3 then 1 else 0:=by
 rw[Za,h,Zit,Zj1,Zs];cases hb:x.val==3<;>simp[List.filter,hb]
theorem Zzx{S:Nat→Prop}(T:Tbl)(hg:Af T)(w:World)(h:Xi w S T):Calls Tryz.prog 109 #[Vr T] w (Re w):=by
 have G:=Ya hg;have hlen:T.sta.length≤256:=(hg.sp 5 _ 4 rfl rfl).len;clear hg;obtain⟨A5,C5,e5,hl5,hc5⟩:=h.sta.shape;have h5:=h.sta.ext ((Yn w).alloc (Wx T));obtain⟨n5,hn5⟩:=gnX (T.sta.length);rw[hn5]at e5 hl5;rw[e5]at h5;have Hn5:=Ya hn5;have E5:=Ya e5;have H5:=Ya h5;unfold maxLen at hc5;clear hn5 e5 h5;rw[Hn5.o]at hlen;obtain⟨A8,C8,e8,hl8,hc8⟩:=h.map.shape;have h8:=h.map.ext ((Yn w).alloc (Wx T));obtain⟨n8,hn8⟩:=gnX (T.map.length);rw[hn8]at e8 hl8;rw[e8]at h8;have Hn8:=Ya hn8;have E8:=Ya e8;have H8:=Ya h8;unfold maxLen at hc8;clear hn8 e8 h8;have X0:=Ya ((Yn w).alloc (Wx T));have H:=Ya (h.up X0.o);have Hb0:=Ya (Xn w T);clear h;have Hx:=Ya (Yn (w.alloc (Wx T)));have b5:=(Hb0.o.ext Hx.o).at_ 5 (by omega);rw[show(Qs T)[5]?=some T.staV from rfl,E5.o]at b5;go_enter Tryz.func109,Tryz.ntmps109;go_wp2_with (refine Xx rfl ?_);clear b5;go_loopw [14,3] (fun o y wr=>∃ i:Nat,i≤n5∧o=.int .i64 (i:Int)∧(∃ z:Nat,y=.int .i64 (z:Int)∧z≤i∧z=((T.sta.take i).filter fun s=>s.val==3).length)∧Ext (w.alloc (Wx T)) wr) (fun o _ _=>n5-(intOf o).toNat);case atStart=>exact⟨0,by omega,rfl,⟨0,rfl,by omega,by simp⟩,Yn _⟩
 clear Hx;obtain⟨i,hi_i,rfl,⟨z,rfl,hzi,hz⟩,hx⟩:=hrel;have Hx:=Ya hx;have Hz:=Ya hz;clear hx hz;by_cases hlt:i<n5
 ·obtain⟨hd_i,i0_i,i1_i⟩:=LTl i n5 (by omega);obtain⟨x,hs_x⟩:=geX (l:=(T.sta)) (i:=i) (by have:=Hn5.o;omega);obtain⟨g_x,o_x,c_x,hvv,_,_,_,hgl_x,a0_x,a1_x,a2_x⟩:=(H5.o.ext Hx.o).get hs_x;simp only[Yg]at hvv;obtain⟨rfl,-,rfl⟩:=hvv;have Hs_x:=Ya hs_x;clear hs_x;have r2:=((G.o.sp 5 _ 4 rfl rfl).in_ x (Zy Hs_x.o)).2.1;have Ht:=Ya (Zz1 Hs_x.o);obtain⟨fr,to_,val⟩:=x;simp only at r2 a0_x a1_x a2_x;subst r2;have p1:IntKind.i64.wrap (0+1)=1:=by rfl
  have p2:IntKind.i64.wrap 0=0:=by rfl
  have p3:IntKind.i64.wrap ((z:Int)+1)=((z+1:Nat):Int):=by rw[Yr _ (by omega)];omega
  have p4:to_-to_=0:=by omega
  cases hv:(val==3)
  ·go_wp2_with fail;have hx:=Hx.o;go_roundw;case rel=>exact⟨i+1,by omega,by go_num,⟨z,rfl,by omega,by rw[Ht.o,Hz.o];simp only;rw[hv];rfl⟩,(by repeat' first|exact Yn _|assumption|apply Ym|apply Yl|apply Yk|(refine Yj ?_ (by assumption)))⟩
   (simp[intOf];omega)
  go_wp2_with fail;have hx:=Hx.o;go_roundw;case rel=>exact⟨i+1,by omega,by go_num,⟨z+1,by first|rfl|go_num,by omega,by rw[Ht.o,Hz.o];simp only;rw[hv];rfl⟩,(by repeat' first|exact Yn _|assumption|apply Ym|apply Yl|apply Yk|(refine Yj ?_ (by assumption)))⟩
  (simp[intOf];omega)
 have hd_i:=GEl i n5 (by omega);have b8:=(Hb0.o.ext Hx.o).at_ 8 (by omega);rw[show(Qs T)[8]?=some T.mapV from rfl,E8.o]at b8;have hzm:z=n8:=by
  rw[Hz.o,Zm (by rw[Hn5.o];omega),G.o.cnt,Hn8.o]
 have hz1:((z:Int)==(n8:Int))=true:=by simp[hzm]
 have hz2:(!((z:Int)==(n8:Int)))=false:=by rw[hz1];rfl
 have hz3:((z:Int)!=(n8:Int))=false:=hz2;have hz4:(z==n8)=true:=by simp[hzm]
 clear hzm;go_wp2_with fail;have Hx1:=Ya Hx.o;clear Hx hz2 hz3 hz1 hz4 b8 hlt hd_i hi_i;go_loopw [38] (fun o wr=>∃ i:Nat,i≤n8∧o=.int .i64 (i:Int)∧Ext (w.alloc (Wx T)) wr) (fun o _=>n8-(intOf o).toNat);case atStart=>exact⟨0,by omega,rfl,Hx1.o⟩
 clear Hx1;obtain⟨k,hi_k,rfl,hx⟩:=hrel;have Hx:=Ya hx;clear hx;by_cases hlt:k<n8
 ·obtain⟨hd_k,i0_k,i1_k⟩:=LTl k n8 (by omega);obtain⟨m,hs_m⟩:=geX (l:=(T.map)) (i:=k) (by have:=Hn8.o;omega);obtain⟨g_m,o_m,c_m,hvv,_,_,_,hgl_m,a0_m,a1_m,_⟩:=(H8.o.ext Hx.o).get hs_m;simp only[Yg]at hvv;obtain⟨rfl,-,rfl⟩:=hvv;have ti_m:=H8.o.2 _ (Zy hs_m);obtain⟨A_m,C_m,tv_m,tl_m,tc_m⟩:=ti_m.shape;obtain⟨n_m,hn_m⟩:=gnX (m.to_.length);rw[tv_m]at a1_m ti_m;rw[hn_m]at a1_m tl_m;have Hn_m:=Ya hn_m;unfold maxLen at tc_m;have Hs_m:=Ya hs_m;have Ti_m:=Ya ti_m;clear hs_m ti_m tv_m hn_m;have HS:=Ya (G.o.mapS m (Zy Hs_m.o)).1;go_wp2_with (first|(refine Y4 (Hb0.o.ext (have hx:=Hx.o;(by repeat' first|exact Yn _|assumption|apply Ym|apply Yl|apply Yk|(refine Yj ?_ (by assumption))))) rfl ?_)|(go_at_call 144;refine(Qo T _ _ (H.o.up (have hx:=Hx.o;(by repeat' first|exact Yn _|assumption|apply Ym|apply Yl|apply Yk|(refine Yj ?_ (by assumption)))))).mono ?_;rintro e w1 ⟨rfl,hx1⟩;rw[HS.o];have hc1:=fun k=>hx1.cell (p:=⟨wr.heap.size,k,none⟩) (by simp)));have hx:=Hx.o;have Hxk:=Ya (show Ext (w.alloc (Wx T)) w1 from(by repeat' first|exact Yn _|assumption|apply Ym|apply Yl|apply Yk|(refine Yj ?_ (by assumption))));clear hx hx1 Hx hc1 HS;have Hkl:=Ya hlt;clear hlt;go_loopw [50] (fun o wr=>∃ i:Nat,i≤n_m∧o=.int .i64 (i:Int)∧Ext (w.alloc (Wx T)) wr) (fun o _=>n_m-(intOf o).toNat);case atStart=>exact⟨0,by omega,rfl,Hxk.o⟩
  obtain⟨j,hi_j,rfl,hx⟩:=hrel;have Hx:=Ya hx;clear hx;by_cases hlt:j<n_m
  ·obtain⟨hd_j,i0_j,i1_j⟩:=LTl j n_m (by omega);obtain⟨c,hs_c⟩:=geX (l:=(m.to_)) (i:=j) (by have:=Hn_m.o;omega);obtain⟨g_c,o_c,c_c,hvv,_,_,_,hgl_c,a0_c⟩:=(Ti_m.o.ext Hx.o).get hs_c;simp only[Yg]at hvv;obtain⟨rfl,-,rfl⟩:=hvv;have Hs_c:=Ya hs_c;clear hs_c;have HS:=Ya ((G.o.mapS m (Zy Hs_m.o)).2 c (Zy Hs_c.o));go_wp2_with (first|(refine Y4 (Hb0.o.ext (have hx:=Hx.o;(by repeat' first|exact Yn _|assumption|apply Ym|apply Yl|apply Yk|(refine Yj ?_ (by assumption))))) rfl ?_)|(go_at_call 144;refine(Qo T _ _ (H.o.up (have hx:=Hx.o;(by repeat' first|exact Yn _|assumption|apply Ym|apply Yl|apply Yk|(refine Yj ?_ (by assumption)))))).mono ?_;rintro e w1 ⟨rfl,hx1⟩;rw[HS.o]));all_goals
    have hx:=Hx.o
    first
    | (go_roundw
       case rel=>exact⟨j+1,by omega,by go_num,(by repeat' first|exact Yn _|assumption|apply Ym|apply Yl|apply Yk|(refine Yj ?_ (by assumption)))⟩
       (simp[intOf];omega))
    | (go_ret;exact⟨rfl,X0.o.trans (by repeat' first|exact Yn _|assumption|apply Ym|apply Yl|apply Yk|(refine Yj ?_ (by assumption)))⟩)
  have hd_j:=GEl j n_m (by omega);have hkl:=Hkl.o;go_wp2_with fail;all_goals
   have hx:=Hx.o
   first
   | (go_roundw
      case rel=>exact⟨k+1,by omega,by go_num,(by repeat' first|exact Yn _|assumption|apply Ym|apply Yl|apply Yk|(refine Yj ?_ (by assumption)))⟩
      (simp[intOf];omega))
   | (go_ret;exact⟨rfl,X0.o.trans (by repeat' first|exact Yn _|assumption|apply Ym|apply Yl|apply Yk|(refine Yj ?_ (by assumption)))⟩)
 have hd_k:=GEl k n8 (by omega);go_wp2_with fail;all_goals
  have hx:=Hx.o
  first
  | (go_roundw
     case rel=>exact⟨k+1,by omega,by go_num,(by repeat' first|exact Yn _|assumption|apply Ym|apply Yl|apply Yk|(refine Yj ?_ (by assumption)))⟩
     (simp[intOf];omega))
  | (go_ret;exact⟨rfl,X0.o.trans (by repeat' first|exact Yn _|assumption|apply Ym|apply Yl|apply Yk|(refine Yj ?_ (by assumption)))⟩)
theorem Cj{S:Nat→Prop}(T:Tbl)(hg:Af T)(w:World)(h:Xi w S T):Calls Tryz.prog 110 #[Vr T] w (Re w):=by
 have G:=Ya hg;have Hf:=Ya hg.few;clear hg;obtain⟨A9,C9,e9,hl9,hc9⟩:=h.dec.shape;have h9:=h.dec.ext ((Yn w).alloc (Wx T));obtain⟨n9,hn9⟩:=gnX (T.dec.length);rw[hn9]at e9 hl9;rw[e9]at h9;have Hn9:=Ya hn9;have E9:=Ya e9;have H9:=Ya h9;unfold maxLen at hc9;clear hn9 e9 h9;have X0:=Ya ((Yn w).alloc (Wx T));have H:=Ya (h.up X0.o);have Hb0:=Ya (Xn w T);clear h;have Hx:=Ya (Yn (w.alloc (Wx T)));have b9:=(Hb0.o.ext Hx.o).at_ 9 (by omega);rw[show(Qs T)[9]?=some T.decV from rfl,E9.o]at b9;go_enter Tryz.func110,Tryz.ntmps110;go_wp2_with (refine Xx rfl ?_);clear b9;go_loopw [14] (fun o wr=>∃ i:Nat,i≤n9∧o=.int .i64 (i:Int)∧Ext (w.alloc (Wx T)) wr) (fun o _=>n9-(intOf o).toNat);case atStart=>exact⟨0,by omega,rfl,Yn _⟩
 clear Hx;obtain⟨i,hi_i,rfl,hx⟩:=hrel;have Hx:=Ya hx;clear hx;by_cases hlt:i<n9
 ·obtain⟨hd_i,i0_i,i1_i⟩:=LTl i n9 (by omega);obtain⟨m,hs_m⟩:=geX (l:=(T.dec)) (i:=i) (by have:=Hn9.o;omega);obtain⟨g_m,o_m,c_m,hvv,_,_,_,hgl_m,a0_m,a1_m,_⟩:=(H9.o.ext Hx.o).get hs_m;simp only[Yg]at hvv;obtain⟨rfl,-,rfl⟩:=hvv;have ti_m:=H9.o.2 _ (Zy hs_m);obtain⟨A_m,C_m,tv_m,tl_m,tc_m⟩:=ti_m.shape;obtain⟨n_m,hn_m⟩:=gnX (m.to_.length);rw[tv_m]at a1_m ti_m;rw[hn_m]at a1_m tl_m;have Hn_m:=Ya hn_m;unfold maxLen at tc_m;have Hs_m:=Ya hs_m;have Ti_m:=Ya ti_m;clear hs_m ti_m tv_m hn_m;have h2:=(G.o.dec2 m (Zy Hs_m.o)).1;rw[Hn_m.o]at h2;have d1:decide ((2:Int)<(n_m:Int))=false:=Yi (by omega);go_wp2_with fail;have Hxk:=Ya (Hx.o.alloc (.cells #[.int .i64 m.fr,.slice A_m n_m C_m] 106));have Hkl:=Ya hlt;clear Hx hlt d1 h2;go_loopw [25] (fun o wr=>∃ i:Nat,i≤n_m∧o=.int .i64 (i:Int)∧Ext (w.alloc (Wx T)) wr) (fun o _=>n_m-(intOf o).toNat);case atStart=>exact⟨0,by omega,rfl,Hxk.o⟩
  obtain⟨j,hi_j,rfl,hx⟩:=hrel;have Hx:=Ya hx;clear hx;by_cases hlt:j<n_m
  ·obtain⟨hd_j,i0_j,i1_j⟩:=LTl j n_m (by omega);obtain⟨c,hs_c⟩:=geX (l:=(m.to_)) (i:=j) (by have:=Hn_m.o;omega);obtain⟨g_c,o_c,c_c,hvv,_,_,_,hgl_c,a0_c⟩:=(Ti_m.o.ext Hx.o).get hs_c;simp only[Yg]at hvv;obtain⟨rfl,-,rfl⟩:=hvv;have Hs_c:=Ya hs_c;clear hs_c;obtain⟨r1,r2,r3⟩:=(G.o.dec2 m (Zy Hs_m.o)).2 c (Zy Hs_c.o);have q1:(c==46)=false:=by simp[r1]
   have HY:=Ya r2;have HJ:=Ya r3;clear r1 r2 r3;go_wp2_with (first|(go_at_call 113;refine(Js _ _).mono ?_;rintro e w' ⟨rfl,rfl⟩;rw[HY.o])|(go_at_call 145;refine(Dp _ _).mono ?_;rintro e w' ⟨rfl,rfl⟩;rw[HJ.o]));all_goals
    have hx:=Hx.o
    first
    | (go_roundw
       case rel=>exact⟨j+1,by omega,by go_num,(by repeat' first|exact Yn _|assumption|apply Ym|apply Yl|apply Yk|(refine Yj ?_ (by assumption)))⟩
       (simp[intOf];omega))
    | (go_ret;exact⟨rfl,X0.o.trans (by repeat' first|exact Yn _|assumption|apply Ym|apply Yl|apply Yk|(refine Yj ?_ (by assumption)))⟩)
  have hd_j:=GEl j n_m (by omega);have hkl:=Hkl.o;go_wp2_with fail;all_goals
   have hx:=Hx.o
   first
   | (go_roundw
      case rel=>exact⟨i+1,by omega,by go_num,(by repeat' first|exact Yn _|assumption|apply Ym|apply Yl|apply Yk|(refine Yj ?_ (by assumption)))⟩
      (simp[intOf];omega))
   | (go_ret;exact⟨rfl,X0.o.trans (by repeat' first|exact Yn _|assumption|apply Ym|apply Yl|apply Yk|(refine Yj ?_ (by assumption)))⟩)
 have hd_i:=GEl i n9 (by omega);have b9:=(Hb0.o.ext Hx.o).at_ 9 (by omega);rw[show(Qs T)[9]?=some T.decV from rfl,E9.o]at b9;go_wp2_with fail;have Hx1:=Ya Hx.o;clear Hx hlt hd_i hi_i b9;go_loopw [44] (fun o wr=>∃ i:Nat,i≤n9∧o=.int .i64 (i:Int)∧Ext (w.alloc (Wx T)) wr) (fun o _=>n9-(intOf o).toNat);case atStart=>exact⟨0,by omega,rfl,Hx1.o⟩
 clear Hx1;obtain⟨k,hi_k,rfl,hx⟩:=hrel;have Hx:=Ya hx;clear hx;by_cases hlt:k<n9
 ·obtain⟨hd_k,i0_k,i1_k⟩:=LTl k n9 (by omega);obtain⟨m,hs_m⟩:=geX (l:=(T.dec)) (i:=k) (by have:=Hn9.o;omega);obtain⟨g_m,o_m,c_m,hvv,_,_,_,hgl_m,a0_m,a1_m,_⟩:=(H9.o.ext Hx.o).get hs_m;simp only[Yg]at hvv;obtain⟨rfl,-,rfl⟩:=hvv;have ti_m:=H9.o.2 _ (Zy hs_m);obtain⟨A_m,C_m,tv_m,tl_m,tc_m⟩:=ti_m.shape;obtain⟨n_m,hn_m⟩:=gnX (m.to_.length);rw[tv_m]at a1_m ti_m;rw[hn_m]at a1_m tl_m;have Hn_m:=Ya hn_m;unfold maxLen at tc_m;have Hs_m:=Ya hs_m;have Ti_m:=Ya ti_m;clear hs_m ti_m tv_m hn_m;obtain⟨r,hfull⟩:=Zix.1 (G.o.fin m (Zy Hs_m.o));have Hfull:=Ya hfull;clear hfull;go_wp2_with (first|(refine Y4 (Hb0.o.ext (have hx:=Hx.o;(by repeat' first|exact Yn _|assumption|apply Ym|apply Yl|apply Yk|(refine Yj ?_ (by assumption))))) rfl ?_)|(go_at_call 146;refine(Bb T m.fr _ (H.o.up (have hx:=Hx.o;(by repeat' first|exact Yn _|assumption|apply Ym|apply Yl|apply Yk|(refine Yj ?_ (by assumption))))) Hf.o).mono ?_;rintro e w5 hp;unfold Jp at hp;rw[Hfull.o]at hp;obtain⟨v5,rfl,hv5,hx5⟩:=hp));all_goals
   have hx:=Hx.o
   first
   | (go_roundw
      case rel=>exact⟨k+1,by omega,by go_num,(by repeat' first|exact Yn _|assumption|apply Ym|apply Yl|apply Yk|(refine Yj ?_ (by assumption)))⟩
      (simp[intOf];omega))
   | (go_ret;exact⟨rfl,X0.o.trans (by repeat' first|exact Yn _|assumption|apply Ym|apply Yl|apply Yk|(refine Yj ?_ (by assumption)))⟩)
 have hd_k:=GEl k n9 (by omega);go_wp2_with fail;all_goals
  have hx:=Hx.o
  first
  | (go_roundw
     case rel=>exact⟨k+1,by omega,by go_num,(by repeat' first|exact Yn _|assumption|apply Ym|apply Yl|apply Yk|(refine Yj ?_ (by assumption)))⟩
     (simp[intOf];omega))
  | (go_ret;exact⟨rfl,X0.o.trans (by repeat' first|exact Yn _|assumption|apply Ym|apply Yl|apply Yk|(refine Yj ?_ (by assumption)))⟩)
end Go.Proofs.YtnbclgbicnpmnaaGreat
