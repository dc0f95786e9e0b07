/- Lemmas of this claim: RH. Conditions: as named. -/
import Derived.Test.YtnbclgbicnpmnaaGreatA07
namespace Go.Proofs.YtnbclgbicnpmnaaGreat
open Go.RowKit Go.Sort Tryz
set_option maxHeartbeats 0
set_option maxRecDepth 100000
set_option linter.all false
def Dep(d:List Mp):Nat→Int→Prop
 | 0,c=>Xf d c=[]
 | k+1,c=>Xf d c=[]∨∃ x r,Xf d c=x::r∧Dep d k x
theorem Zyi(d:List Mp):∀ (k:Nat) (c:Int) (t r:List Int),Q4 d k (c::t)=some r→Dep d k c
 | 0,c,t,r,h=>by simp[Q4]at h
 | k+1,c,t,r,h=>by
  cases hc:Xf d c with
  | nil=>exact .inl hc
  | cons x q =>
   refine .inr ⟨x,q,hc,?_⟩;unfold Q4 at h;split at h
   ·rename_i hm;simp[Fp,hc]at hm
   split at h
   ·simp at h
   have e:nextL d (c::t)=x::(q++nextL d t):=by simp[nextL,hc]
   rw[e]at h;exact Zyi d k x _ r h
theorem Zmj{d:List Mp}{l:List Int}(h:l≠[]):nextL d l≠[]:=by
 cases l with
 | nil=>exact absurd rfl h
 | cons x r =>
  have e:nextL d (x::r)=(if(Xf d x).isEmpty then[x]else Xf d x)++nextL d r:=by simp[nextL]
  rw[e];split
  ·simp
  rename_i hx;intro h;have:=(List.append_eq_nil_iff.1 h).1;rw[this]at hx;simp at hx
theorem Ztv(d:List Mp):∀ (k:Nat) (l r:List Int),l≠[]→Q4 d k l=some r→r≠[]
 | 0,l,r,_,h=>by simp[Q4]at h
 | k+1,l,r,hl,h=>by
  unfold Q4 at h;split at h
  ·cases h;exact hl
  split at h
  ·simp at h
  exact Ztv d k _ r (Zmj hl) h
theorem P9(d:List Mp):∀ (k:Nat) (l r:List Int),l.length≤18→Q4 d k l=some r→r.length≤18
 | 0,l,r,_,h=>by simp[Q4]at h
 | k+1,l,r,hl,h=>by
  unfold Q4 at h;split at h
  ·cases h;exact hl
  split at h
  ·simp at h
  exact P9 d k _ r (by omega) h
def Zr2(T:Tbl):Prop:=∀ m∈T.dec,(Q4 T.dec 257 [m.fr]).isSome
theorem Zyj{d:List Mp}{c:Int}(h:Xf d c≠[]):∃ m∈d,m.fr=c:=by
 induction d with
 | nil=>simp[Xf]at h
 | cons m r ih =>
  unfold Xf at h;split at h
  ·rename_i e;exact⟨m,by simp,e⟩
  obtain⟨m',h1,h2⟩:=ih h;exact⟨m',by simp[h1],h2⟩
theorem Cf{T:Tbl}(h:Zr2 T)(c:Int):∃ r,Q4 T.dec 257 [c]=some r∧r≠[]∧r.length≤18:=by
 have h1:(Q4 T.dec 257 [c]).isSome:=by
  by_cases hc:Xf T.dec c=[]
  ·have:Q4 T.dec 257 [c]=some [c]:=by
    unfold Q4;rw[Zjx (by simp[Fp,hc])]
   rw[this];rfl
  obtain⟨m,hm,rfl⟩:=Zyj hc;exact h m hm
 obtain⟨r,hr⟩:=Zh4.1 h1;exact⟨r,hr,Ztv _ _ _ _ (by simp) hr,P9 _ _ _ _ (by simp) hr⟩
theorem Zmy{T:Tbl}(h:Zr2 T)(c:Int):Dep T.dec 257 c:=by
 obtain⟨r,hr,_⟩:=Cf h c;exact Zyi _ _ _ _ _ hr
def To(T:Tbl)(c:Int):Int:=((Q4 T.dec 257 [c]).getD []).getLastD 0
def Dv(T:Tbl):Nat→Int→Bool
 | 0,_=>false
 | n+1,c =>
  match Xf T.dec c with
  | [x,y] =>
   if Zvb T.exc c=true∨Wk T.cls c≠0∨Wk T.cls x≠0∨Xf T.dec y≠[]then false
   else if Xf T.dec x≠[]∧Dv T n x=false then false
   else Wk T.cls y==0||decide (Wk T.cls (To T x)≤Wk T.cls y)
  | _=>false
theorem Lt{T:Tbl}{n:Nat}{c:Int}(h:(Xf T.dec c).length≠2):Dv T n c=false:=by
 cases n with
 | zero=>rfl
 | succ n =>
  unfold Dv;split
  ·rename_i e;rw[e]at h;simp at h
  rfl
theorem Zpu{b:Nat}{T:Tbl}{W:World}(h:J4 W b T):(Instr.loadAt 34 (.pointer (some ⟨b,0,none⟩))).run prog W=.ok (Vn T) W:=by
 have hu:=Nl;rw[Zjl]at hu;obtain⟨d,hu,hd⟩:=hu;exact run_loadAt_mid _ b 0 _ (Qj T) d h.range hu hd (by rw[Gn];rfl)
theorem Xi{ops:Array Oper}{C:World→Prop}{Q:Act→Prop}{rest:List Oper}{dst:Option Nat}{x:Operand}{t:TypeId}{pos:String}{af:Array Edge}{gd:Option (Nat×Bool)}{a:Act}{b:Nat}{T:Tbl}
 (hw:Region.wanted {dst:=dst,op:=.load 34 x,type:=t,pos:=pos,after:=af,guard:=gd} (yielded ops a.tmps)=true) (hx:a.eval x=.pointer (some ⟨b,0,none⟩)) (hC:∀ w',C w'→J4 w' b T)
 (hK:wpQuiet prog ops C Q rest (a.put dst (Vn T))):wpQuiet prog ops C Q ({dst:=dst,op:=.load 34 x,type:=t,pos:=pos,after:=af,guard:=gd}::rest) a:=by
 have hu:=Nl;rw[Zjl]at hu;obtain⟨d,hu,hd⟩:=hu;show if _ then _ else _
 rw[Zjx hw];refine⟨Vn T,fun w' hc=>?_,hK⟩;unfold Oper.quietAt execOp;simp only[hx,Instr.loadAt,Instr.sureAddr,Zhs,Zhr,Zir,run_loadVar_mid w' b 0 _ (Qj T) d (hC w' hc).range hu hd (by rw[Gn];rfl)];exact⟨rfl,rfl⟩
theorem Ln{r:List Int}(h:r≠[]):r[r.length-1]?=some (r.getLastD 0):=by
 rw[← Zh0,Zga,List.getLast?_eq_some_getLast h];rfl
theorem Jp{T:Tbl}{n:Nat}{c x y:Int}(h:Xf T.dec c=[x,y]):Dv T (n+1) c =
 if Zvb T.exc c=true∨Wk T.cls c≠0∨Wk T.cls x≠0∨Xf T.dec y≠[]then false
 else if Xf T.dec x≠[]∧Dv T n x=false then false
 else Wk T.cls y==0||decide (Wk T.cls (To T x)≤Wk T.cls y):=by
 rw[Dv,h]
theorem Zu1{S:Nat→Prop}(T:Tbl)(hfin:Zr2 T)(hf:Few T)(n:Nat)(c x y:Int)(w:World)(h:Xk w S T)(hxy:Xf T.dec c=[x,y])
 (hrec:Xf T.dec x≠[]→∀ w',Ext w w'→Calls prog 112 #[Vn T,.int .i64 x] w' fun e w''=>e=.returned (.bool (Dv T n x))∧Ext w' w'') :
 Calls prog 112 #[Vn T,.int .i64 c] w fun e w'=>e=.returned (.bool (Dv T (n+1) c))∧Ext w w':=by
 obtain⟨A9,C9,e9,hl9,hc9⟩:=h.dec.shape;have h9:=h.dec.ext ((Yl w).alloc (Wx T));obtain⟨n9,hn9⟩:=gnX (T.dec.length);rw[hn9]at e9 hl9;rw[e9]at h9;have Hn9:=Y4 hn9;have E9:=Y4 e9;have H9:=Y4 h9;unfold maxLen at hc9;clear hn9 e9 h9;have X0:=Y4 ((Yl w).alloc (Wx T));have H:=Y4 (h.up X0.o);have Hb0:=Y4 (Xm w T);clear h;have hfa:=Qh (S:=S) (c:=c) H9.o.2;rw[hxy]at hfa;obtain⟨g,o,FC,ef,_,fc,_,hgl,c0⟩:=hfa.get (j:=0) rfl;obtain⟨g',o',FC',ef',_,_,_,_,c1⟩:=hfa.get (j:=1) rfl;rw[ef]at ef';simp only[Ye,Yd,Zjp,Zjj,Zj6]at ef';obtain⟨⟨rfl,rfl⟩,rfl⟩:=ef';rw[Zix]at c0;rw[show([x,y]:List Int).length=2 from rfl]at ef;have Hrec:=Y4 hrec;have Hxy:=Y4 hxy;have Hx:=Y4 (Yl (w.alloc (Wx T)));have b9:=(Hb0.o.ext Hx.o).at_ 9 (by omega);rw[show(Qj T)[9]?=some T.decV from rfl,E9.o]at b9;clear hrec hxy hfa Hx;go_enter func112,ntmps112;go_wp2_with (first|(refine Xw rfl ?_)|(go_at_call 111;refine(Ww _ T.dec c _ H9.o).mono ?_;rintro e w1 ⟨rfl,hx1⟩));have B9:=Y4 b9;have C0:=Y4 c0;have C1:=Y4 c1;clear b9 c0 c1;have HW:=Y4 (H.o.up hx1);have HD:=Y4 (H9.o.ext hx1);have hC:∀ w',(∃ p:Vz,w'=later w1 p.n p.os)→J4 w' w.heap.size T:=fun w' ⟨p,e⟩=>by rw[e];exact(Hb0.o.ext hx1).ext (⟨_,_,rfl⟩)
 have m9:=lat (((hx1).cell (p:=⟨w.heap.size,9,none⟩) Hb0.o.lt).trans B9.o);have m0:=lat (((hx1).cell (p:=⟨g,o,none⟩) hgl).trans C0.o);have m1:=lat (((hx1).cell (p:=⟨g,o+1,none⟩) hgl).trans C1.o);obtain⟨YA,YC,ey,yl,yc⟩:=(Qh (S:=S) (c:=y) HD.o.2).shape;obtain⟨ny,hny⟩:=gnX ((Xf T.dec y).length);rw[hny]at ey yl;have Hny:=Y4 hny;clear hny;rcases Ziv (Zvb T.exc c)with q1|q1
 ·have hun:=Yb;refine Y8 (by kernel_rfl) (by kernel_rfl) ?_;repeat(first|((with_reducible refine Xi ?_ ?_ hC ?_);(focus(go_simp;done));rfl)|((with_reducible refine Yu ?_);intro K hK;go_simp;first|((with_reducible refine hK _ ?_);clear hK K)|(apply Exists.intro;refine⟨fun _=>?_,hK _ ?_⟩;(first|(go_at_call 147;exact Xy (Wj T _ _ (HW.o.up (⟨_,_,rfl⟩))))|(go_at_call 148;exact Xy (Xo T _ _ (HW.o.up (⟨_,_,rfl⟩))))|(go_at_call 111;exact Xy (Ww _ T.dec _ _ (HD.o.ext (⟨_,_,rfl⟩)))));clear hK K)))
  (with_reducible refine Yt ?_);intro w1 hy
  clear hun;go_wp2_with fail;go_ret;exact⟨by rw[Jp Hxy.o,Zjx (.inl q1)];rfl,X0.o.trans (hx1.trans hy)⟩
 rcases Ziv (Wk T.cls c==0)with q2|q2;rotate_left
 ·have q2b:(!(Wk T.cls c==0))=true:=by rw[q2];rfl
  have q2c:(Wk T.cls c !=0)=true:=q2b;have hun:=Yb;refine Y8 (by kernel_rfl) (by kernel_rfl) ?_;repeat(first|((with_reducible refine Xi ?_ ?_ hC ?_);(focus(go_simp;done));rfl)|((with_reducible refine Yu ?_);intro K hK;go_simp;first|((with_reducible refine hK _ ?_);clear hK K)|(apply Exists.intro;refine⟨fun _=>?_,hK _ ?_⟩;(first|(go_at_call 147;exact Xy (Wj T _ _ (HW.o.up (⟨_,_,rfl⟩))))|(go_at_call 148;exact Xy (Xo T _ _ (HW.o.up (⟨_,_,rfl⟩))))|(go_at_call 111;exact Xy (Ww _ T.dec _ _ (HD.o.ext (⟨_,_,rfl⟩)))));clear hK K)))
  (with_reducible refine Yt ?_);intro w1 hy
  clear hun;go_wp2_with fail;go_ret;exact⟨by rw[Jp Hxy.o,Zjx (.inr (.inl (by simpa using q2)))];rfl,X0.o.trans (hx1.trans hy)⟩
 have q2b:(!(Wk T.cls c==0))=false:=by rw[q2];rfl
 have q2c:(Wk T.cls c !=0)=false:=q2b;rcases Ziv (Wk T.cls x==0)with q3|q3;rotate_left
 ·have q3b:(!(Wk T.cls x==0))=true:=by rw[q3];rfl
  have q3c:(Wk T.cls x !=0)=true:=q3b;have hun:=Yb;refine Y8 (by kernel_rfl) (by kernel_rfl) ?_;repeat(first|((with_reducible refine Xi ?_ ?_ hC ?_);(focus(go_simp;done));rfl)|((with_reducible refine Yu ?_);intro K hK;go_simp;first|((with_reducible refine hK _ ?_);clear hK K)|(apply Exists.intro;refine⟨fun _=>?_,hK _ ?_⟩;(first|(go_at_call 147;exact Xy (Wj T _ _ (HW.o.up (⟨_,_,rfl⟩))))|(go_at_call 148;exact Xy (Xo T _ _ (HW.o.up (⟨_,_,rfl⟩))))|(go_at_call 111;exact Xy (Ww _ T.dec _ _ (HD.o.ext (⟨_,_,rfl⟩)))));clear hK K)))
  (with_reducible refine Yt ?_);intro w1 hy
  clear hun;go_wp2_with fail;go_ret;exact⟨by rw[Jp Hxy.o,Zjx (.inr (.inr (.inl (by simpa using q3))))];rfl,X0.o.trans (hx1.trans hy)⟩
 have q3b:(!(Wk T.cls x==0))=false:=by rw[q3];rfl
 have q3c:(Wk T.cls x !=0)=false:=q3b;by_cases hy0:0<ny
 ·have q4:decide ((0:Int)<(ny:Int))=true:=Yf;have q5:decide (0<ny)=true:=Yf hy0;have Hy0:=Y4 (show Xf T.dec y≠[] by intro hh;have:=Hny.o;rw[hh]at this;simp at this;omega);have hun:=Yb;refine Y8 (by kernel_rfl) (by kernel_rfl) ?_;repeat(first|((with_reducible refine Xi ?_ ?_ hC ?_);(focus(go_simp;done));rfl)|((with_reducible refine Yu ?_);intro K hK;go_simp;first|((with_reducible refine hK _ ?_);clear hK K)|(apply Exists.intro;refine⟨fun _=>?_,hK _ ?_⟩;(first|(go_at_call 147;exact Xy (Wj T _ _ (HW.o.up (⟨_,_,rfl⟩))))|(go_at_call 148;exact Xy (Xo T _ _ (HW.o.up (⟨_,_,rfl⟩))))|(go_at_call 111;exact Xy (Ww _ T.dec _ _ (HD.o.ext (⟨_,_,rfl⟩)))));clear hK K)))
  (with_reducible refine Yt ?_);intro w1 hy
  clear hun;go_wp2_with fail;go_ret;exact⟨by rw[Jp Hxy.o,Zjx (.inr (.inr (.inr Hy0.o)))];rfl,X0.o.trans (hx1.trans hy)⟩
 have q4:decide ((0:Int)<(ny:Int))=false:=Yg;have q5:decide (0<ny)=false:=Yg hy0;have Hy0:=Y4 (show Xf T.dec y=[] from Zjk (by rw[Hny.o];omega));have hun:=Yb;refine Y8 (by kernel_rfl) (by kernel_rfl) ?_;repeat(first|((with_reducible refine Xi ?_ ?_ hC ?_);(focus(go_simp;done));rfl)|((with_reducible refine Yu ?_);intro K hK;go_simp;first|((with_reducible refine hK _ ?_);clear hK K)|(apply Exists.intro;refine⟨fun _=>?_,hK _ ?_⟩;(first|(go_at_call 147;exact Xy (Wj T _ _ (HW.o.up (⟨_,_,rfl⟩))))|(go_at_call 148;exact Xy (Xo T _ _ (HW.o.up (⟨_,_,rfl⟩))))|(go_at_call 111;exact Xy (Ww _ T.dec _ _ (HD.o.ext (⟨_,_,rfl⟩)))));clear hK K)))
 (with_reducible refine Yt ?_)
 intro w2 hy2;have Hx2:=Y4 (hx1.trans hy2);clear hun hx1 hy2 HW HD hC m9 m0 m1;have Hno:=Y4 (show ¬ (Zvb T.exc c=true∨Wk T.cls c≠0∨Wk T.cls x≠0∨Xf T.dec y≠[]) from by
  have h1:Wk T.cls c=0:=by simpa using q2
  have h2:Wk T.cls x=0:=by simpa using q3
  rw[q1,h1,h2,Hy0.o];simp)
 clear q1 q2 q3 q2b q2c q3b q3c q4 q5 ey;have HW:=Y4 (H.o.up Hx2.o);have HD:=Y4 (H9.o.ext Hx2.o);have hC:∀ w',(∃ p:Vz,w'=later w2 p.n p.os)→J4 w' w.heap.size T:=fun w' ⟨p,e⟩=>by rw[e];exact(Hb0.o.ext Hx2.o).ext (⟨_,_,rfl⟩)
 have m9:=lat (((Hx2.o).cell (p:=⟨w.heap.size,9,none⟩) Hb0.o.lt).trans B9.o);have m0:=lat (((Hx2.o).cell (p:=⟨g,o,none⟩) hgl).trans C0.o);have m1:=lat (((Hx2.o).cell (p:=⟨g,o+1,none⟩) hgl).trans C1.o);go_wp2_with fail;obtain⟨XA,XC,ex,xl,xc⟩:=(Qh (S:=S) (c:=x) HD.o.2).shape;obtain⟨nx,hnx⟩:=gnX ((Xf T.dec x).length);rw[hnx]at ex xl;have Hnx:=Y4 hnx;clear hnx;by_cases hx0:0<nx
 ·have q4:decide ((0:Int)<(nx:Int))=true:=Yf;have q5:decide (0<nx)=true:=Yf hx0;have Hxn:=Y4 (show Xf T.dec x≠[] by intro hh;have:=Hnx.o;rw[hh]at this;simp at this;omega);have Hrc:=Y4 (fun n' os=>Hrec.o Hxn.o (later w2 n' os) (X0.o.trans (Hx2.o.trans ⟨n',os,rfl⟩)));cases hcb:Dv T n x
  ·have Hcb:=Y4 hcb;have hun:=Yb;refine Y8 (by kernel_rfl) (by kernel_rfl) ?_;repeat(first|((with_reducible refine Xi ?_ ?_ hC ?_);(focus(go_simp;done));rfl)|((with_reducible refine Yu ?_);intro K hK;go_simp;first|((with_reducible refine hK _ ?_);clear hK K)|(apply Exists.intro;refine⟨fun _=>?_,hK _ ?_⟩;(first|(go_at_call 112;exact Xy (Hrc.o _ _))|(go_at_call 111;exact Xy (Ww _ T.dec _ _ (HD.o.ext (⟨_,_,rfl⟩)))));clear hK K)))
   (with_reducible refine Yt ?_);intro w1 hy
   clear hun;go_wp2_with fail;go_ret;exact⟨by rw[Jp Hxy.o,Zk9 Hno.o,Zjx ⟨Hxn.o,Hcb.o⟩];rfl,X0.o.trans (Hx2.o.trans hy)⟩
  have Hno2:=Y4 (show ¬ (Xf T.dec x≠[]∧Dv T n x=false) from fun h=>by rw[hcb]at h;exact absurd h.2 (by simp));have hun:=Yb;refine Y8 (by kernel_rfl) (by kernel_rfl) ?_;repeat(first|((with_reducible refine Xi ?_ ?_ hC ?_);(focus(go_simp;done));rfl)|((with_reducible refine Yu ?_);intro K hK;go_simp;first|((with_reducible refine hK _ ?_);clear hK K)|(apply Exists.intro;refine⟨fun _=>?_,hK _ ?_⟩;(first|(go_at_call 112;exact Xy (Hrc.o _ _))|(go_at_call 111;exact Xy (Ww _ T.dec _ _ (HD.o.ext (⟨_,_,rfl⟩)))));clear hK K)))
  (with_reducible refine Yt ?_)
  intro w3 hy3;clear hun;go_wp2_with fail;have Hx3:=Y4 (Hx2.o.trans hy3);clear hy3 HW HD hC m9 m0 m1;obtain⟨r,hfull,hne,hr18⟩:=Cf hfin x;have Hfull:=Y4 hfull;have z0:(w3).cell? ⟨w.heap.size,0,none⟩=some T.catV:=(Hb0.o.ext Hx3.o).at_ 0 (by omega);have z1:(w3).cell? ⟨w.heap.size,1,none⟩=some T.clsV:=(Hb0.o.ext Hx3.o).at_ 1 (by omega);have z2:(w3).cell? ⟨w.heap.size,2,none⟩=some T.joiV:=(Hb0.o.ext Hx3.o).at_ 2 (by omega);have z3:(w3).cell? ⟨w.heap.size,3,none⟩=some T.bidV:=(Hb0.o.ext Hx3.o).at_ 3 (by omega);have z4:(w3).cell? ⟨w.heap.size,4,none⟩=some T.scrV:=(Hb0.o.ext Hx3.o).at_ 4 (by omega);have z5:(w3).cell? ⟨w.heap.size,5,none⟩=some T.staV:=(Hb0.o.ext Hx3.o).at_ 5 (by omega);have z6:(w3).cell? ⟨w.heap.size,6,none⟩=some T.ignV:=(Hb0.o.ext Hx3.o).at_ 6 (by omega);have z7:(w3).cell? ⟨w.heap.size,7,none⟩=some T.extV:=(Hb0.o.ext Hx3.o).at_ 7 (by omega);have z8:(w3).cell? ⟨w.heap.size,8,none⟩=some T.mapV:=(Hb0.o.ext Hx3.o).at_ 8 (by omega);have z9:(w3).cell? ⟨w.heap.size,9,none⟩=some T.decV:=(Hb0.o.ext Hx3.o).at_ 9 (by omega);have z10:(w3).cell? ⟨w.heap.size,10,none⟩=some T.excV:=(Hb0.o.ext Hx3.o).at_ 10 (by omega);have z11:(w3).cell? ⟨w.heap.size,11,none⟩=some T.proV:=(Hb0.o.ext Hx3.o).at_ 11 (by omega);have n0:=(Hx3.o.cell (p:=⟨g,o,none⟩) hgl).trans C0.o;have n1:=(Hx3.o.cell (p:=⟨g,o+1,none⟩) hgl).trans C1.o;clear hfull;go_region_with (go_at_call 146;refine(Ey T x _ (H.o.up (have hx:=Hx3.o;xE)) hf).mono ?_;rintro e w5 hp;unfold Jj at hp;rw[Hfull.o]at hp;obtain⟨v5,rfl,hv5,hx5⟩:=hp);all_goals
   have Hx5:=Y4 (Hx3.o.drew.trans hx5);obtain⟨A5,C5,rfl,hl5,hc5⟩:=hv5.shape;have Hv5:=Y4 hv5;clear z0 z1 z2 z3 z4 z5 z6 z7 z8 z9 z10 z11 n0 n1 hx5 hv5;go_simp;go_wp2_with fail;have hrp:0<r.length:=Zh2.2 hne;have hlast:r[r.length-1]?=some (To T x):=by
    unfold To;rw[Hfull.o];exact Ln hne
   have HW:=Y4 (H.o.up Hx5.o);have HD:=Y4 (H9.o.ext Hx5.o);have hC:∀ w',(∃ p:Vz,w'=later w5 p.n p.os)→J4 w' w.heap.size T:=fun w' ⟨p,e⟩=>by rw[e];exact(Hb0.o.ext Hx5.o).ext (⟨_,_,rfl⟩)
   have m9:=lat (((Hx5.o).cell (p:=⟨w.heap.size,9,none⟩) Hb0.o.lt).trans B9.o);have m0:=lat (((Hx5.o).cell (p:=⟨g,o,none⟩) hgl).trans C0.o);have m1:=lat (((Hx5.o).cell (p:=⟨g,o+1,none⟩) hgl).trans C1.o);obtain⟨g5,o5,c5,e5,_,_,_,_,k5⟩:=Hv5.o.get hlast;simp only[Ye]at e5;obtain⟨rfl,-,rfl⟩:=e5;have m5:=lat k5;have Hlast:=Y4 hlast;obtain⟨nr,hnr⟩:=gnX (r.length);rw[hnr]at m5 hrp hr18⊢;have Hnr:=Y4 hnr;clear hlast k5 hnr hl5;have p1:=Vl nr hrp (by omega);have p2:(1:Int)≤(nr:Int):=by omega
   have p3:(0:Int)≤((nr-1:Nat):Int):=by omega
   have p4:((nr-1:Nat):Int)<(nr:Int):=by omega
   have p5:IntKind.i64.wrap ((nr-1:Nat):Int)=((nr-1:Nat):Int):=Yp _ (by omega);have p6:nr-1<nr:=by omega
   rcases Ziv (Wk T.cls y==0)with u1|u1
   ·have U1:=Y4 u1;have hun:=Yb;refine Y8 (by kernel_rfl) (by kernel_rfl) ?_;repeat(first|((with_reducible refine Xi ?_ ?_ hC ?_);(focus(go_simp;done));rfl)|((with_reducible refine Yu ?_);intro K hK;go_simp;first|((with_reducible refine hK _ ?_);clear hK K)|(apply Exists.intro;refine⟨fun _=>?_,hK _ ?_⟩;(first|(go_at_call 147;exact Xy (Wj T _ _ (HW.o.up (⟨_,_,rfl⟩))))|(go_at_call 148;exact Xy (Xo T _ _ (HW.o.up (⟨_,_,rfl⟩))))|(go_at_call 111;exact Xy (Ww _ T.dec _ _ (HD.o.ext (⟨_,_,rfl⟩)))));clear hK K)))
    (with_reducible refine Yt ?_);intro w1 hy
    clear hun;go_wp2_with fail;go_ret;exact⟨by rw[Jp Hxy.o,Zk9 Hno.o,Zk9 Hno2.o];first|(rw[U1.o,U2.o];rfl)|(rw[U1.o];rfl),X0.o.trans (Hx5.o.trans hy)⟩
   rcases Ziv (decide (Wk T.cls (To T x)≤Wk T.cls y))with u2|u2
   ·have U1:=Y4 u1;have U2:=Y4 u2;have hun:=Yb;refine Y8 (by kernel_rfl) (by kernel_rfl) ?_;repeat(first|((with_reducible refine Xi ?_ ?_ hC ?_);(focus(go_simp;done));rfl)|((with_reducible refine Yu ?_);intro K hK;go_simp;first|((with_reducible refine hK _ ?_);clear hK K)|(apply Exists.intro;refine⟨fun _=>?_,hK _ ?_⟩;(first|(go_at_call 147;exact Xy (Wj T _ _ (HW.o.up (⟨_,_,rfl⟩))))|(go_at_call 148;exact Xy (Xo T _ _ (HW.o.up (⟨_,_,rfl⟩))))|(go_at_call 111;exact Xy (Ww _ T.dec _ _ (HD.o.ext (⟨_,_,rfl⟩)))));clear hK K)))
    (with_reducible refine Yt ?_);intro w1 hy
    clear hun;go_wp2_with fail;go_ret;exact⟨by rw[Jp Hxy.o,Zk9 Hno.o,Zk9 Hno2.o];first|(rw[U1.o,U2.o];rfl)|(rw[U1.o];rfl),X0.o.trans (Hx5.o.trans hy)⟩
   have U1:=Y4 u1;have U2:=Y4 u2;have hun:=Yb;refine Y8 (by kernel_rfl) (by kernel_rfl) ?_;repeat(first|((with_reducible refine Xi ?_ ?_ hC ?_);(focus(go_simp;done));rfl)|((with_reducible refine Yu ?_);intro K hK;go_simp;first|((with_reducible refine hK _ ?_);clear hK K)|(apply Exists.intro;refine⟨fun _=>?_,hK _ ?_⟩;(first|(go_at_call 147;exact Xy (Wj T _ _ (HW.o.up (⟨_,_,rfl⟩))))|(go_at_call 148;exact Xy (Xo T _ _ (HW.o.up (⟨_,_,rfl⟩))))|(go_at_call 111;exact Xy (Ww _ T.dec _ _ (HD.o.ext (⟨_,_,rfl⟩)))));clear hK K)))
   (with_reducible refine Yt ?_);intro w1 hy
   clear hun;go_wp2_with fail;go_ret;exact⟨by rw[Jp Hxy.o,Zk9 Hno.o,Zk9 Hno2.o];first|(rw[U1.o,U2.o];rfl)|(rw[U1.o];rfl),X0.o.trans (Hx5.o.trans hy)⟩
 have q4:decide ((0:Int)<(nx:Int))=false:=Yg;have q5:decide (0<nx)=false:=Yg hx0;have hun:=Yb;refine Y8 (by kernel_rfl) (by kernel_rfl) ?_;repeat(first|((with_reducible refine Xi ?_ ?_ hC ?_);(focus(go_simp;done));rfl)|((with_reducible refine Yu ?_);intro K hK;go_simp;first|((with_reducible refine hK _ ?_);clear hK K)|(apply Exists.intro;refine⟨fun _=>?_,hK _ ?_⟩;(first|(go_at_call 147;exact Xy (Wj T _ _ (HW.o.up (⟨_,_,rfl⟩))))|(go_at_call 148;exact Xy (Xo T _ _ (HW.o.up (⟨_,_,rfl⟩))))|(go_at_call 111;exact Xy (Ww _ T.dec _ _ (HD.o.ext (⟨_,_,rfl⟩)))));clear hK K)))
 (with_reducible refine Yt ?_)
 intro w3 hy3;clear hun;go_wp2_with fail;have Hno2:=Y4 (show ¬ (Xf T.dec x≠[]∧Dv T n x=false) from fun h=>h.1 (Zjk (by rw[Hnx.o];omega)));have Hx3:=Y4 (Hx2.o.trans hy3);clear hy3 HW HD hC m9 m0 m1;obtain⟨r,hfull,hne,hr18⟩:=Cf hfin x;have Hfull:=Y4 hfull;have z0:(w3).cell? ⟨w.heap.size,0,none⟩=some T.catV:=(Hb0.o.ext Hx3.o).at_ 0 (by omega);have z1:(w3).cell? ⟨w.heap.size,1,none⟩=some T.clsV:=(Hb0.o.ext Hx3.o).at_ 1 (by omega);have z2:(w3).cell? ⟨w.heap.size,2,none⟩=some T.joiV:=(Hb0.o.ext Hx3.o).at_ 2 (by omega);have z3:(w3).cell? ⟨w.heap.size,3,none⟩=some T.bidV:=(Hb0.o.ext Hx3.o).at_ 3 (by omega);have z4:(w3).cell? ⟨w.heap.size,4,none⟩=some T.scrV:=(Hb0.o.ext Hx3.o).at_ 4 (by omega);have z5:(w3).cell? ⟨w.heap.size,5,none⟩=some T.staV:=(Hb0.o.ext Hx3.o).at_ 5 (by omega);have z6:(w3).cell? ⟨w.heap.size,6,none⟩=some T.ignV:=(Hb0.o.ext Hx3.o).at_ 6 (by omega);have z7:(w3).cell? ⟨w.heap.size,7,none⟩=some T.extV:=(Hb0.o.ext Hx3.o).at_ 7 (by omega);have z8:(w3).cell? ⟨w.heap.size,8,none⟩=some T.mapV:=(Hb0.o.ext Hx3.o).at_ 8 (by omega);have z9:(w3).cell? ⟨w.heap.size,9,none⟩=some T.decV:=(Hb0.o.ext Hx3.o).at_ 9 (by omega);have z10:(w3).cell? ⟨w.heap.size,10,none⟩=some T.excV:=(Hb0.o.ext Hx3.o).at_ 10 (by omega);have z11:(w3).cell? ⟨w.heap.size,11,none⟩=some T.proV:=(Hb0.o.ext Hx3.o).at_ 11 (by omega);have n0:=(Hx3.o.cell (p:=⟨g,o,none⟩) hgl).trans C0.o;have n1:=(Hx3.o.cell (p:=⟨g,o+1,none⟩) hgl).trans C1.o;clear hfull;go_region_with (go_at_call 146;refine(Ey T x _ (H.o.up (have hx:=Hx3.o;xE)) hf).mono ?_;rintro e w5 hp;unfold Jj at hp;rw[Hfull.o]at hp;obtain⟨v5,rfl,hv5,hx5⟩:=hp);all_goals
  have Hx5:=Y4 (Hx3.o.drew.trans hx5);obtain⟨A5,C5,rfl,hl5,hc5⟩:=hv5.shape;have Hv5:=Y4 hv5;clear z0 z1 z2 z3 z4 z5 z6 z7 z8 z9 z10 z11 n0 n1 hx5 hv5;go_simp;go_wp2_with fail;have hrp:0<r.length:=Zh2.2 hne;have hlast:r[r.length-1]?=some (To T x):=by
   unfold To;rw[Hfull.o];exact Ln hne
  have HW:=Y4 (H.o.up Hx5.o);have HD:=Y4 (H9.o.ext Hx5.o);have hC:∀ w',(∃ p:Vz,w'=later w5 p.n p.os)→J4 w' w.heap.size T:=fun w' ⟨p,e⟩=>by rw[e];exact(Hb0.o.ext Hx5.o).ext (⟨_,_,rfl⟩)
  have m9:=lat (((Hx5.o).cell (p:=⟨w.heap.size,9,none⟩) Hb0.o.lt).trans B9.o);have m0:=lat (((Hx5.o).cell (p:=⟨g,o,none⟩) hgl).trans C0.o);have m1:=lat (((Hx5.o).cell (p:=⟨g,o+1,none⟩) hgl).trans C1.o);obtain⟨g5,o5,c5,e5,_,_,_,_,k5⟩:=Hv5.o.get hlast;simp only[Ye]at e5;obtain⟨rfl,-,rfl⟩:=e5;have m5:=lat k5;have Hlast:=Y4 hlast;obtain⟨nr,hnr⟩:=gnX (r.length);rw[hnr]at m5 hrp hr18⊢;have Hnr:=Y4 hnr;clear hlast k5 hnr hl5;have p1:=Vl nr hrp (by omega);have p2:(1:Int)≤(nr:Int):=by omega
  have p3:(0:Int)≤((nr-1:Nat):Int):=by omega
  have p4:((nr-1:Nat):Int)<(nr:Int):=by omega
  have p5:IntKind.i64.wrap ((nr-1:Nat):Int)=((nr-1:Nat):Int):=Yp _ (by omega);have p6:nr-1<nr:=by omega
  rcases Ziv (Wk T.cls y==0)with u1|u1
  ·have U1:=Y4 u1;have hun:=Yb;refine Y8 (by kernel_rfl) (by kernel_rfl) ?_;repeat(first|((with_reducible refine Xi ?_ ?_ hC ?_);(focus(go_simp;done));rfl)|((with_reducible refine Yu ?_);intro K hK;go_simp;first|((with_reducible refine hK _ ?_);clear hK K)|(apply Exists.intro;refine⟨fun _=>?_,hK _ ?_⟩;(first|(go_at_call 147;exact Xy (Wj T _ _ (HW.o.up (⟨_,_,rfl⟩))))|(go_at_call 148;exact Xy (Xo T _ _ (HW.o.up (⟨_,_,rfl⟩))))|(go_at_call 111;exact Xy (Ww _ T.dec _ _ (HD.o.ext (⟨_,_,rfl⟩)))));clear hK K)))
   (with_reducible refine Yt ?_);intro w1 hy
   clear hun;go_wp2_with fail;go_ret;exact⟨by rw[Jp Hxy.o,Zk9 Hno.o,Zk9 Hno2.o];first|(rw[U1.o,U2.o];rfl)|(rw[U1.o];rfl),X0.o.trans (Hx5.o.trans hy)⟩
  rcases Ziv (decide (Wk T.cls (To T x)≤Wk T.cls y))with u2|u2
  ·have U1:=Y4 u1;have U2:=Y4 u2;have hun:=Yb;refine Y8 (by kernel_rfl) (by kernel_rfl) ?_;repeat(first|((with_reducible refine Xi ?_ ?_ hC ?_);(focus(go_simp;done));rfl)|((with_reducible refine Yu ?_);intro K hK;go_simp;first|((with_reducible refine hK _ ?_);clear hK K)|(apply Exists.intro;refine⟨fun _=>?_,hK _ ?_⟩;(first|(go_at_call 147;exact Xy (Wj T _ _ (HW.o.up (⟨_,_,rfl⟩))))|(go_at_call 148;exact Xy (Xo T _ _ (HW.o.up (⟨_,_,rfl⟩))))|(go_at_call 111;exact Xy (Ww _ T.dec _ _ (HD.o.ext (⟨_,_,rfl⟩)))));clear hK K)))
   (with_reducible refine Yt ?_);intro w1 hy
   clear hun;go_wp2_with fail;go_ret;exact⟨by rw[Jp Hxy.o,Zk9 Hno.o,Zk9 Hno2.o];first|(rw[U1.o,U2.o];rfl)|(rw[U1.o];rfl),X0.o.trans (Hx5.o.trans hy)⟩
  have U1:=Y4 u1;have U2:=Y4 u2;have hun:=Yb;refine Y8 (by kernel_rfl) (by kernel_rfl) ?_;repeat(first|((with_reducible refine Xi ?_ ?_ hC ?_);(focus(go_simp;done));rfl)|((with_reducible refine Yu ?_);intro K hK;go_simp;first|((with_reducible refine hK _ ?_);clear hK K)|(apply Exists.intro;refine⟨fun _=>?_,hK _ ?_⟩;(first|(go_at_call 147;exact Xy (Wj T _ _ (HW.o.up (⟨_,_,rfl⟩))))|(go_at_call 148;exact Xy (Xo T _ _ (HW.o.up (⟨_,_,rfl⟩))))|(go_at_call 111;exact Xy (Ww _ T.dec _ _ (HD.o.ext (⟨_,_,rfl⟩)))));clear hK K)))
  (with_reducible refine Yt ?_);intro w1 hy
  clear hun;go_wp2_with fail;go_ret;exact⟨by rw[Jp Hxy.o,Zk9 Hno.o,Zk9 Hno2.o];first|(rw[U1.o,U2.o];rfl)|(rw[U1.o];rfl),X0.o.trans (Hx5.o.trans hy)⟩
