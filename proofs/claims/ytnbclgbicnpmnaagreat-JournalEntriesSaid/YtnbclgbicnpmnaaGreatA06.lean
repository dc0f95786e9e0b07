/- Lemmas of this claim: RH, RI, Gt, Gb, RP, RQ. Conditions: as named. -/
import Derived.Test.YtnbclgbicnpmnaaGreatA05
namespace Go.Proofs.YtnbclgbicnpmnaaGreat
open Go.RowKit Go.Sort
open List renaming getElem?_eq_getElem → Zz, mem_of_getElem? → Zy, getElem?_map → Zn
open Lib renaming hid → Yw
open Go renaming wpQuiet_step → Yv, wpQuiet_nil → Yu, bodyPost_ret → Yt
open IntWalk renaming i64_in → Yq
open Nat renaming le_refl → Yo
open Ext renaming refl → Yl, alloc → Yk, drewN → Yj, drew → Yi, trans → Yh
set_option maxHeartbeats 40000000
set_option maxRecDepth 100000
set_option linter.all false
def Dep (d:List Mp):Nat→Int→Prop
 | 0,c=>Xg d c=[]
 | k+1,c=>Xg d c=[]∨∃ x r,Xg d c=x::r∧Dep d k x
theorem Cv (d:List Mp):∀ (k:Nat) (c:Int) (t r:List Int),V6 d k (c::t)=some r→Dep d k c
 | 0,c,t,r,h=>by simp [V6] at h
 | k+1,c,t,r,h=>by
  cases hc:Xg d c with
  | nil=>exact .inl hc
  | cons x q =>
   refine .inr ⟨x,q,hc,?_⟩
   unfold V6 at h
   split at h
   ·rename_i hm
    simp [Ed,hc] at hm
   split at h
   ·simp at h
   have e:nextL d (c::t)=x::(q++nextL d t):=by simp [nextL,hc]
   rw [e] at h
   exact Cv d k x _ r h
theorem Zqf {d:List Mp} {l:List Int} (h:l≠[]):nextL d l≠[]:=by
 cases l with
 | nil=>exact absurd rfl h
 | cons x r =>
  have e:nextL d (x::r)=(if (Xg d x).isEmpty then [x] else Xg d x)++nextL d r:=by simp [nextL]
  rw [e]
  split
  ·simp
  rename_i hx
  intro h
  have:=(List.append_eq_nil_iff.1 h).1
  rw [this] at hx
  simp at hx
theorem Zua (d:List Mp):∀ (k:Nat) (l r:List Int),l≠[]→V6 d k l=some r→r≠[]
 | 0,l,r,_,h=>by simp [V6] at h
 | k+1,l,r,hl,h=>by
  unfold V6 at h
  split at h
  ·cases h;exact hl
  split at h
  ·simp at h
  exact Zua d k _ r (Zqf hl) h
theorem Mh (d:List Mp):∀ (k:Nat) (l r:List Int),l.length≤18→V6 d k l=some r→r.length≤18
 | 0,l,r,_,h=>by simp [V6] at h
 | k+1,l,r,hl,h=>by
  unfold V6 at h
  split at h
  ·cases h;exact hl
  split at h
  ·simp at h
  exact Mh d k _ r (by omega) h
def Zu9 (T:Tbl):Prop:=∀ m∈T.dec,(V6 T.dec 257 [m.fr]).isSome
theorem Ig {d:List Mp} {c:Int} (h:Xg d c≠[]):∃ m∈d,m.fr=c:=by
 induction d with
 | nil=>simp [Xg] at h
 | cons m r ih =>
  unfold Xg at h
  split at h
  ·rename_i e;exact ⟨m,by simp,e⟩
  obtain ⟨m',h1,h2⟩:=ih h
  exact ⟨m',by simp [h1],h2⟩
theorem Se {T:Tbl} (h:Zu9 T) (c:Int):∃ r,V6 T.dec 257 [c]=some r∧r≠[]∧r.length≤18:=by
 have h1:(V6 T.dec 257 [c]).isSome:=by
  by_cases hc:Xg T.dec c=[]
  ·have:V6 T.dec 257 [c]=some [c]:=by
    unfold V6
    rw [if_pos (by simp [Ed,hc])]
   rw [this];rfl
  obtain ⟨m,hm,rfl⟩:=Ig hc
  exact h m hm
 obtain ⟨r,hr⟩:=Option.isSome_iff_exists.1 h1
 exact ⟨r,hr,Zua _ _ _ _ (by simp) hr,Mh _ _ _ _ (by simp) hr⟩
theorem Zq1 {T:Tbl} (h:Zu9 T) (c:Int):Dep T.dec 257 c:=by
 obtain ⟨r,hr,_⟩:=Se h c
 exact Cv _ _ _ _ _ hr
def O0 (T:Tbl) (c:Int):Int:=((V6 T.dec 257 [c]).getD []).getLastD 0
def Be (T:Tbl):Nat→Int→Bool
 | 0,_=>false
 | n+1,c =>
  match Xg T.dec c with
  | [x,y] =>
   if Zyc T.exc c=true∨Wv T.cls c≠0∨Wv T.cls x≠0∨Xg T.dec y≠[] then false
   else if Xg T.dec x≠[]∧Be T n x=false then false
   else Wv T.cls y == 0 || decide (Wv T.cls (O0 T x)≤Wv T.cls y)
  | _=>false
theorem Dj {T:Tbl} {n:Nat} {c:Int} (h:(Xg T.dec c).length≠2):Be T n c=false:=by
 cases n with
 | zero=>rfl
 | succ n =>
  unfold Be
  split
  ·rename_i e;rw [e] at h;simp at h
  rfl
theorem Ztq {b:Nat} {T:Tbl} {W:World} (h:Q9 W b T):(Instr.loadAt 34 (.pointer (some ⟨b,0,none⟩))).run Tryz.prog W=.ok (Wc T) W:=by
 have hu:=Df
 rw [Option.map_eq_some_iff] at hu
 obtain ⟨d,hu,hd⟩:=hu
 exact run_loadAt_mid _ b 0 _ (Ve T) d h.range hu hd (by rw [Ux];rfl)
theorem Xi {ops:Array Oper} {C:World→Prop} {Q:Act→Prop} {rest:List Oper} {dst:Option Nat} {x:Operand} {t:TypeId} {pos:String} {af:Array Edge} {gd:Option (Nat×Bool)} {a:Act} {b:Nat} {T:Tbl}
 (hw:Region.wanted {dst:=dst,op:=.load 34 x,type:=t,pos:=pos,after:=af,guard:=gd} (yielded ops a.tmps)=true) (hx:a.eval x=.pointer (some ⟨b,0,none⟩)) (hC:∀ w',C w'→Q9 w' b T)
 (hK:wpQuiet Tryz.prog ops C Q rest (a.put dst (Wc T))):wpQuiet Tryz.prog ops C Q ({dst:=dst,op:=.load 34 x,type:=t,pos:=pos,after:=af,guard:=gd}::rest) a:=by
 have hu:=Df
 rw [Option.map_eq_some_iff] at hu
 obtain ⟨d,hu,hd⟩:=hu
 show if _ then _ else _
 rw [if_pos hw]
 refine ⟨Wc T,fun w' hc=>?_,hK⟩
 unfold Oper.quietAt execOp
 simp only [hx,Instr.loadAt,Instr.sureAddr,Sem.run_bind,Sem.run_pure,Result.andThen_ok,run_loadVar_mid w' b 0 _ (Ve T) d (hC w' hc).range hu hd (by rw [Ux];rfl)]
 exact ⟨rfl,rfl⟩
theorem Lz {r:List Int} (h:r≠[]):r[r.length - 1]?=some (r.getLastD 0):=by
 rw [← List.getLast?_eq_getElem?,List.getLastD_eq_getLast?,List.getLast?_eq_some_getLast h]
 rfl
theorem Qm {T:Tbl} {n:Nat} {c x y:Int} (h:Xg T.dec c=[x,y]):Be T (n+1) c =
 if Zyc T.exc c=true∨Wv T.cls c≠0∨Wv T.cls x≠0∨Xg T.dec y≠[] then false
 else if Xg T.dec x≠[]∧Be T n x=false then false
 else Wv T.cls y == 0 || decide (Wv T.cls (O0 T x)≤Wv T.cls y):=by
 rw [Be,h]
theorem Zuw {S:Nat→Prop} (T:Tbl) (hfin:Zu9 T) (hf:Few T) (n:Nat) (c x y:Int) (w:World) (h:Xm w S T) (hxy:Xg T.dec c=[x,y])
 (hrec:Xg T.dec x≠[]→∀ w',Ext w w'→Calls Tryz.prog 112 #[Wc T,.int .i64 x] w' fun e w''=>e=.returned (.bool (Be T n x))∧Ext w' w'') :
 Calls Tryz.prog 112 #[Wc T,.int .i64 c] w fun e w'=>e=.returned (.bool (Be T (n+1) c))∧Ext w w':=by
 obtain ⟨A9,C9,e9,hl9,hc9⟩:=h.dec.shape
 have h9:=h.dec.ext ((Yl w).alloc (Xf T))
 obtain ⟨n9,hn9⟩:∃ n,T.dec.length=n:=⟨_,rfl⟩
 rw [hn9] at e9 hl9
 rw [e9] at h9
 have Hn9:=Yw hn9
 have E9:=Yw e9
 have H9:=Yw h9
 unfold maxLen at hc9
 clear hn9 e9 h9
 have X0:=Yw ((Yl w).alloc (Xf T))
 have H:=Yw (h.up X0.out)
 have Hb0:=Yw (Xq w T)
 clear h
 have hfa:=Vd (S:=S) (c:=c) H9.out.2
 rw [hxy] at hfa
 obtain ⟨g,o,FC,ef,_,fc,_,hgl,c0⟩:=hfa.get (j:=0) rfl
 obtain ⟨g',o',FC',ef',_,_,_,_,c1⟩:=hfa.get (j:=1) rfl
 rw [ef] at ef'
 simp only [Ye,Yd,Addr.mk.injEq,true_and,and_true] at ef'
 obtain ⟨⟨rfl,rfl⟩,rfl⟩:=ef'
 rw [Nat.add_zero] at c0
 rw [show ([x,y]:List Int).length=2 from rfl] at ef
 have Hrec:=Yw hrec
 have Hxy:=Yw hxy
 have Hx:=Yw (Yl (w.alloc (Xf T)))
 have b9:=(Hb0.out.ext Hx.out).at_ 9 (by omega)
 rw [show (Ve T)[9]?=some T.decV from rfl,E9.out] at b9
 clear hrec hxy hfa Hx
 go_enter Tryz.func112,Tryz.ntmps112
 go_wp2_with (first|(refine Xy rfl ?_)|(go_at_call 111;refine (Xc _ T.dec c _ H9.out).mono ?_;rintro e w1 ⟨rfl,hx1⟩))
 have B9:=Yw b9
 have C0:=Yw c0
 have C1:=Yw c1
 clear b9 c0 c1
 have HW:=Yw (H.out.up hx1)
 have HD:=Yw (H9.out.ext hx1)
 have hC:∀ w',(∃ p:Wj,w'=later w1 p.n p.os)→Q9 w' w.heap.size T:=fun w' ⟨p,e⟩=>by rw [e];exact (Hb0.out.ext hx1).ext (⟨_,_,rfl⟩)
 have m9:=lat (((hx1).cell (p:=⟨w.heap.size,9,none⟩) Hb0.out.lt).trans B9.out)
 have m0:=lat (((hx1).cell (p:=⟨g,o,none⟩) hgl).trans C0.out)
 have m1:=lat (((hx1).cell (p:=⟨g,o+1,none⟩) hgl).trans C1.out)
 obtain ⟨YA,YC,ey,yl,yc⟩:=(Vd (S:=S) (c:=y) HD.out.2).shape
 obtain ⟨ny,hny⟩:∃ k,(Xg T.dec y).length=k:=⟨_,rfl⟩
 rw [hny] at ey yl
 have Hny:=Yw hny
 clear hny
 rcases Bool.eq_false_or_eq_true (Zyc T.exc c) with q1|q1
 ·have hun:=Yb
  refine Y0 (by kernel_rfl) (by kernel_rfl) ?_
  repeat (first|((with_reducible refine Xi ?_ ?_ hC ?_);(focus (go_simp;done));rfl)|((with_reducible refine Yv ?_);intro K hK;go_simp;first|((with_reducible refine hK _ ?_);clear hK K)|(apply Exists.intro;refine ⟨fun _=>?_,hK _ ?_⟩;(first|(go_at_call 147;exact Y8 (Wu T _ _ (HW.out.up (⟨_,_,rfl⟩))))|(go_at_call 148;exact Y8 (Xr T _ _ (HW.out.up (⟨_,_,rfl⟩))))|(go_at_call 111;exact Y8 (Xc _ T.dec _ _ (HD.out.ext (⟨_,_,rfl⟩)))));clear hK K)))
  (with_reducible refine Yu ?_);intro w1 hy
  clear hun
  go_wp2_with fail
  go_ret
  exact ⟨by rw [Qm Hxy.out,if_pos (.inl q1)];rfl,X0.out.trans (hx1.trans hy)⟩
 rcases Bool.eq_false_or_eq_true (Wv T.cls c == 0) with q2|q2
 rotate_left
 ·have q2b:(!(Wv T.cls c == 0))=true:=by rw [q2];rfl
  have q2c:(Wv T.cls c != 0)=true:=q2b
  have hun:=Yb
  refine Y0 (by kernel_rfl) (by kernel_rfl) ?_
  repeat (first|((with_reducible refine Xi ?_ ?_ hC ?_);(focus (go_simp;done));rfl)|((with_reducible refine Yv ?_);intro K hK;go_simp;first|((with_reducible refine hK _ ?_);clear hK K)|(apply Exists.intro;refine ⟨fun _=>?_,hK _ ?_⟩;(first|(go_at_call 147;exact Y8 (Wu T _ _ (HW.out.up (⟨_,_,rfl⟩))))|(go_at_call 148;exact Y8 (Xr T _ _ (HW.out.up (⟨_,_,rfl⟩))))|(go_at_call 111;exact Y8 (Xc _ T.dec _ _ (HD.out.ext (⟨_,_,rfl⟩)))));clear hK K)))
  (with_reducible refine Yu ?_);intro w1 hy
  clear hun
  go_wp2_with fail
  go_ret
  exact ⟨by rw [Qm Hxy.out,if_pos (.inr (.inl (by simpa using q2)))];rfl,X0.out.trans (hx1.trans hy)⟩
 have q2b:(!(Wv T.cls c == 0))=false:=by rw [q2];rfl
 have q2c:(Wv T.cls c != 0)=false:=q2b
 rcases Bool.eq_false_or_eq_true (Wv T.cls x == 0) with q3|q3
 rotate_left
 ·have q3b:(!(Wv T.cls x == 0))=true:=by rw [q3];rfl
  have q3c:(Wv T.cls x != 0)=true:=q3b
  have hun:=Yb
  refine Y0 (by kernel_rfl) (by kernel_rfl) ?_
  repeat (first|((with_reducible refine Xi ?_ ?_ hC ?_);(focus (go_simp;done));rfl)|((with_reducible refine Yv ?_);intro K hK;go_simp;first|((with_reducible refine hK _ ?_);clear hK K)|(apply Exists.intro;refine ⟨fun _=>?_,hK _ ?_⟩;(first|(go_at_call 147;exact Y8 (Wu T _ _ (HW.out.up (⟨_,_,rfl⟩))))|(go_at_call 148;exact Y8 (Xr T _ _ (HW.out.up (⟨_,_,rfl⟩))))|(go_at_call 111;exact Y8 (Xc _ T.dec _ _ (HD.out.ext (⟨_,_,rfl⟩)))));clear hK K)))
  (with_reducible refine Yu ?_);intro w1 hy
  clear hun
  go_wp2_with fail
  go_ret
  exact ⟨by rw [Qm Hxy.out,if_pos (.inr (.inr (.inl (by simpa using q3))))];rfl,X0.out.trans (hx1.trans hy)⟩
 have q3b:(!(Wv T.cls x == 0))=false:=by rw [q3];rfl
 have q3c:(Wv T.cls x != 0)=false:=q3b
 by_cases hy0:0 < ny
 ·have q4:decide ((0:Int) < (ny:Int))=true:=Yf (by omega)
  have q5:decide (0 < ny)=true:=Yf hy0
  have Hy0:=Yw (show Xg T.dec y≠[] by intro hh;have:=Hny.out;rw [hh] at this;simp at this;omega)
  have hun:=Yb
  refine Y0 (by kernel_rfl) (by kernel_rfl) ?_
  repeat (first|((with_reducible refine Xi ?_ ?_ hC ?_);(focus (go_simp;done));rfl)|((with_reducible refine Yv ?_);intro K hK;go_simp;first|((with_reducible refine hK _ ?_);clear hK K)|(apply Exists.intro;refine ⟨fun _=>?_,hK _ ?_⟩;(first|(go_at_call 147;exact Y8 (Wu T _ _ (HW.out.up (⟨_,_,rfl⟩))))|(go_at_call 148;exact Y8 (Xr T _ _ (HW.out.up (⟨_,_,rfl⟩))))|(go_at_call 111;exact Y8 (Xc _ T.dec _ _ (HD.out.ext (⟨_,_,rfl⟩)))));clear hK K)))
  (with_reducible refine Yu ?_);intro w1 hy
  clear hun
  go_wp2_with fail
  go_ret
  exact ⟨by rw [Qm Hxy.out,if_pos (.inr (.inr (.inr Hy0.out)))];rfl,X0.out.trans (hx1.trans hy)⟩
 have q4:decide ((0:Int) < (ny:Int))=false:=Yg (by omega)
 have q5:decide (0 < ny)=false:=Yg hy0
 have Hy0:=Yw (show Xg T.dec y=[] from List.eq_nil_of_length_eq_zero (by rw [Hny.out];omega))
 have hun:=Yb
 refine Y0 (by kernel_rfl) (by kernel_rfl) ?_
 repeat (first|((with_reducible refine Xi ?_ ?_ hC ?_);(focus (go_simp;done));rfl)|((with_reducible refine Yv ?_);intro K hK;go_simp;first|((with_reducible refine hK _ ?_);clear hK K)|(apply Exists.intro;refine ⟨fun _=>?_,hK _ ?_⟩;(first|(go_at_call 147;exact Y8 (Wu T _ _ (HW.out.up (⟨_,_,rfl⟩))))|(go_at_call 148;exact Y8 (Xr T _ _ (HW.out.up (⟨_,_,rfl⟩))))|(go_at_call 111;exact Y8 (Xc _ T.dec _ _ (HD.out.ext (⟨_,_,rfl⟩)))));clear hK K)))
 (with_reducible refine Yu ?_)
 intro w2 hy2
 have Hx2:=Yw (hx1.trans hy2)
 clear hun hx1 hy2 HW HD hC m9 m0 m1
 have Hno:=Yw (show ¬ (Zyc T.exc c=true∨Wv T.cls c≠0∨Wv T.cls x≠0∨Xg T.dec y≠[]) from by
  have h1:Wv T.cls c=0:=by simpa using q2
  have h2:Wv T.cls x=0:=by simpa using q3
  rw [q1,h1,h2,Hy0.out]
  simp)
 clear q1 q2 q3 q2b q2c q3b q3c q4 q5 ey
 have HW:=Yw (H.out.up Hx2.out)
 have HD:=Yw (H9.out.ext Hx2.out)
 have hC:∀ w',(∃ p:Wj,w'=later w2 p.n p.os)→Q9 w' w.heap.size T:=fun w' ⟨p,e⟩=>by rw [e];exact (Hb0.out.ext Hx2.out).ext (⟨_,_,rfl⟩)
 have m9:=lat (((Hx2.out).cell (p:=⟨w.heap.size,9,none⟩) Hb0.out.lt).trans B9.out)
 have m0:=lat (((Hx2.out).cell (p:=⟨g,o,none⟩) hgl).trans C0.out)
 have m1:=lat (((Hx2.out).cell (p:=⟨g,o+1,none⟩) hgl).trans C1.out)
 go_wp2_with fail
 obtain ⟨XA,XC,ex,xl,xc⟩:=(Vd (S:=S) (c:=x) HD.out.2).shape
 obtain ⟨nx,hnx⟩:∃ k,(Xg T.dec x).length=k:=⟨_,rfl⟩
 rw [hnx] at ex xl
 have Hnx:=Yw hnx
 clear hnx
 by_cases hx0:0 < nx
 ·have q4:decide ((0:Int) < (nx:Int))=true:=Yf (by omega)
  have q5:decide (0 < nx)=true:=Yf hx0
  have Hxn:=Yw (show Xg T.dec x≠[] by intro hh;have:=Hnx.out;rw [hh] at this;simp at this;omega)
  have Hrc:=Yw (fun n' os=>Hrec.out Hxn.out (later w2 n' os) (X0.out.trans (Hx2.out.trans ⟨n',os,rfl⟩)))
  cases hcb:Be T n x
  ·have Hcb:=Yw hcb
   have hun:=Yb
   refine Y0 (by kernel_rfl) (by kernel_rfl) ?_
   repeat (first|((with_reducible refine Xi ?_ ?_ hC ?_);(focus (go_simp;done));rfl)|((with_reducible refine Yv ?_);intro K hK;go_simp;first|((with_reducible refine hK _ ?_);clear hK K)|(apply Exists.intro;refine ⟨fun _=>?_,hK _ ?_⟩;(first|(go_at_call 112;exact Y8 (Hrc.out _ _))|(go_at_call 111;exact Y8 (Xc _ T.dec _ _ (HD.out.ext (⟨_,_,rfl⟩)))));clear hK K)))
   (with_reducible refine Yu ?_);intro w1 hy
   clear hun
   go_wp2_with fail
   go_ret
   exact ⟨by rw [Qm Hxy.out,if_neg Hno.out,if_pos ⟨Hxn.out,Hcb.out⟩];rfl,X0.out.trans (Hx2.out.trans hy)⟩
  have Hno2:=Yw (show ¬ (Xg T.dec x≠[]∧Be T n x=false) from fun h=>by rw [hcb] at h;exact absurd h.2 (by simp))
  have hun:=Yb
  refine Y0 (by kernel_rfl) (by kernel_rfl) ?_
  repeat (first|((with_reducible refine Xi ?_ ?_ hC ?_);(focus (go_simp;done));rfl)|((with_reducible refine Yv ?_);intro K hK;go_simp;first|((with_reducible refine hK _ ?_);clear hK K)|(apply Exists.intro;refine ⟨fun _=>?_,hK _ ?_⟩;(first|(go_at_call 112;exact Y8 (Hrc.out _ _))|(go_at_call 111;exact Y8 (Xc _ T.dec _ _ (HD.out.ext (⟨_,_,rfl⟩)))));clear hK K)))
  (with_reducible refine Yu ?_)
  intro w3 hy3
  clear hun
  go_wp2_with fail
  have Hx3:=Yw (Hx2.out.trans hy3)
  clear hy3 HW HD hC m9 m0 m1
  obtain ⟨r,hfull,hne,hr18⟩:=Se hfin x
  have Hfull:=Yw hfull
  have z0:(w3).cell? ⟨w.heap.size,0,none⟩=some T.catV:=(Hb0.out.ext Hx3.out).at_ 0 (by omega)
  have z1:(w3).cell? ⟨w.heap.size,1,none⟩=some T.clsV:=(Hb0.out.ext Hx3.out).at_ 1 (by omega)
  have z2:(w3).cell? ⟨w.heap.size,2,none⟩=some T.joiV:=(Hb0.out.ext Hx3.out).at_ 2 (by omega)
  have z3:(w3).cell? ⟨w.heap.size,3,none⟩=some T.bidV:=(Hb0.out.ext Hx3.out).at_ 3 (by omega)
  have z4:(w3).cell? ⟨w.heap.size,4,none⟩=some T.scrV:=(Hb0.out.ext Hx3.out).at_ 4 (by omega)
  have z5:(w3).cell? ⟨w.heap.size,5,none⟩=some T.staV:=(Hb0.out.ext Hx3.out).at_ 5 (by omega)
  have z6:(w3).cell? ⟨w.heap.size,6,none⟩=some T.ignV:=(Hb0.out.ext Hx3.out).at_ 6 (by omega)
  have z7:(w3).cell? ⟨w.heap.size,7,none⟩=some T.extV:=(Hb0.out.ext Hx3.out).at_ 7 (by omega)
  have z8:(w3).cell? ⟨w.heap.size,8,none⟩=some T.mapV:=(Hb0.out.ext Hx3.out).at_ 8 (by omega)
  have z9:(w3).cell? ⟨w.heap.size,9,none⟩=some T.decV:=(Hb0.out.ext Hx3.out).at_ 9 (by omega)
  have z10:(w3).cell? ⟨w.heap.size,10,none⟩=some T.excV:=(Hb0.out.ext Hx3.out).at_ 10 (by omega)
  have z11:(w3).cell? ⟨w.heap.size,11,none⟩=some T.proV:=(Hb0.out.ext Hx3.out).at_ 11 (by omega)
  have n0:=(Hx3.out.cell (p:=⟨g,o,none⟩) hgl).trans C0.out
  have n1:=(Hx3.out.cell (p:=⟨g,o+1,none⟩) hgl).trans C1.out
  clear hfull
  go_region_with (go_at_call 146;refine (Bs T x _ (H.out.up (have hx:=Hx3.out;(by repeat' first|exact Yl _|assumption|apply Yk|apply Yj|apply Yi|(refine Yh ?_ (by assumption))))) hf).mono ?_;rintro e w5 hp;unfold Qf at hp;rw [Hfull.out] at hp;obtain ⟨v5,rfl,hv5,hx5⟩:=hp)
  all_goals
   have Hx5:=Yw (Hx3.out.drew.trans hx5)
   obtain ⟨A5,C5,rfl,hl5,hc5⟩:=hv5.shape
   have Hv5:=Yw hv5
   clear z0 z1 z2 z3 z4 z5 z6 z7 z8 z9 z10 z11 n0 n1 hx5 hv5
   go_simp
   go_wp2_with fail
   have hrp:0 < r.length:=List.length_pos_iff.2 hne
   have hlast:r[r.length - 1]?=some (O0 T x):=by
    unfold O0
    rw [Hfull.out]
    exact Lz hne
   have HW:=Yw (H.out.up Hx5.out)
   have HD:=Yw (H9.out.ext Hx5.out)
   have hC:∀ w',(∃ p:Wj,w'=later w5 p.n p.os)→Q9 w' w.heap.size T:=fun w' ⟨p,e⟩=>by rw [e];exact (Hb0.out.ext Hx5.out).ext (⟨_,_,rfl⟩)
   have m9:=lat (((Hx5.out).cell (p:=⟨w.heap.size,9,none⟩) Hb0.out.lt).trans B9.out)
   have m0:=lat (((Hx5.out).cell (p:=⟨g,o,none⟩) hgl).trans C0.out)
   have m1:=lat (((Hx5.out).cell (p:=⟨g,o+1,none⟩) hgl).trans C1.out)
   obtain ⟨g5,o5,c5,e5,_,_,_,_,k5⟩:=Hv5.out.get hlast
   simp only [Ye] at e5
   obtain ⟨rfl,-,rfl⟩:=e5
   have m5:=lat k5
   have Hlast:=Yw hlast
   obtain ⟨nr,hnr⟩:∃ k,r.length=k:=⟨_,rfl⟩
   rw [hnr] at m5 hrp hr18 ⊢
   have Hnr:=Yw hnr
   clear hlast k5 hnr hl5
   have p1:=Vx nr hrp (by omega)
   have p2:(1:Int)≤(nr:Int):=by omega
   have p3:(0:Int)≤((nr - 1:Nat):Int):=by omega
   have p4:((nr - 1:Nat):Int) < (nr:Int):=by omega
   have p5:IntKind.i64.wrap ((nr - 1:Nat):Int)=((nr - 1:Nat):Int):=Yq _ (by omega)
   have p6:nr - 1 < nr:=by omega
   rcases Bool.eq_false_or_eq_true (Wv T.cls y == 0) with u1|u1
   ·have U1:=Yw u1
    have hun:=Yb
    refine Y0 (by kernel_rfl) (by kernel_rfl) ?_
    repeat (first|((with_reducible refine Xi ?_ ?_ hC ?_);(focus (go_simp;done));rfl)|((with_reducible refine Yv ?_);intro K hK;go_simp;first|((with_reducible refine hK _ ?_);clear hK K)|(apply Exists.intro;refine ⟨fun _=>?_,hK _ ?_⟩;(first|(go_at_call 147;exact Y8 (Wu T _ _ (HW.out.up (⟨_,_,rfl⟩))))|(go_at_call 148;exact Y8 (Xr T _ _ (HW.out.up (⟨_,_,rfl⟩))))|(go_at_call 111;exact Y8 (Xc _ T.dec _ _ (HD.out.ext (⟨_,_,rfl⟩)))));clear hK K)))
    (with_reducible refine Yu ?_);intro w1 hy
    clear hun
    go_wp2_with fail
    go_ret
    exact ⟨by rw [Qm Hxy.out,if_neg Hno.out,if_neg Hno2.out];first|(rw [U1.out,U2.out];rfl)|(rw [U1.out];rfl),X0.out.trans (Hx5.out.trans hy)⟩
   rcases Bool.eq_false_or_eq_true (decide (Wv T.cls (O0 T x)≤Wv T.cls y)) with u2|u2
   ·have U1:=Yw u1
    have U2:=Yw u2
    have hun:=Yb
    refine Y0 (by kernel_rfl) (by kernel_rfl) ?_
    repeat (first|((with_reducible refine Xi ?_ ?_ hC ?_);(focus (go_simp;done));rfl)|((with_reducible refine Yv ?_);intro K hK;go_simp;first|((with_reducible refine hK _ ?_);clear hK K)|(apply Exists.intro;refine ⟨fun _=>?_,hK _ ?_⟩;(first|(go_at_call 147;exact Y8 (Wu T _ _ (HW.out.up (⟨_,_,rfl⟩))))|(go_at_call 148;exact Y8 (Xr T _ _ (HW.out.up (⟨_,_,rfl⟩))))|(go_at_call 111;exact Y8 (Xc _ T.dec _ _ (HD.out.ext (⟨_,_,rfl⟩)))));clear hK K)))
    (with_reducible refine Yu ?_);intro w1 hy
    clear hun
    go_wp2_with fail
    go_ret
    exact ⟨by rw [Qm Hxy.out,if_neg Hno.out,if_neg Hno2.out];first|(rw [U1.out,U2.out];rfl)|(rw [U1.out];rfl),X0.out.trans (Hx5.out.trans hy)⟩
   have U1:=Yw u1
   have U2:=Yw u2
   have hun:=Yb
   refine Y0 (by kernel_rfl) (by kernel_rfl) ?_
   repeat (first|((with_reducible refine Xi ?_ ?_ hC ?_);(focus (go_simp;done));rfl)|((with_reducible refine Yv ?_);intro K hK;go_simp;first|((with_reducible refine hK _ ?_);clear hK K)|(apply Exists.intro;refine ⟨fun _=>?_,hK _ ?_⟩;(first|(go_at_call 147;exact Y8 (Wu T _ _ (HW.out.up (⟨_,_,rfl⟩))))|(go_at_call 148;exact Y8 (Xr T _ _ (HW.out.up (⟨_,_,rfl⟩))))|(go_at_call 111;exact Y8 (Xc _ T.dec _ _ (HD.out.ext (⟨_,_,rfl⟩)))));clear hK K)))
   (with_reducible refine Yu ?_);intro w1 hy
   clear hun
   go_wp2_with fail
   go_ret
   exact ⟨by rw [Qm Hxy.out,if_neg Hno.out,if_neg Hno2.out];first|(rw [U1.out,U2.out];rfl)|(rw [U1.out];rfl),X0.out.trans (Hx5.out.trans hy)⟩
 have q4:decide ((0:Int) < (nx:Int))=false:=Yg (by omega)
 have q5:decide (0 < nx)=false:=Yg hx0
 have hun:=Yb
 refine Y0 (by kernel_rfl) (by kernel_rfl) ?_
 repeat (first|((with_reducible refine Xi ?_ ?_ hC ?_);(focus (go_simp;done));rfl)|((with_reducible refine Yv ?_);intro K hK;go_simp;first|((with_reducible refine hK _ ?_);clear hK K)|(apply Exists.intro;refine ⟨fun _=>?_,hK _ ?_⟩;(first|(go_at_call 147;exact Y8 (Wu T _ _ (HW.out.up (⟨_,_,rfl⟩))))|(go_at_call 148;exact Y8 (Xr T _ _ (HW.out.up (⟨_,_,rfl⟩))))|(go_at_call 111;exact Y8 (Xc _ T.dec _ _ (HD.out.ext (⟨_,_,rfl⟩)))));clear hK K)))
 (with_reducible refine Yu ?_)
 intro w3 hy3
 clear hun
 go_wp2_with fail
 have Hno2:=Yw (show ¬ (Xg T.dec x≠[]∧Be T n x=false) from fun h=>h.1 (List.eq_nil_of_length_eq_zero (by rw [Hnx.out];omega)))
 have Hx3:=Yw (Hx2.out.trans hy3)
 clear hy3 HW HD hC m9 m0 m1
 obtain ⟨r,hfull,hne,hr18⟩:=Se hfin x
 have Hfull:=Yw hfull
 have z0:(w3).cell? ⟨w.heap.size,0,none⟩=some T.catV:=(Hb0.out.ext Hx3.out).at_ 0 (by omega)
 have z1:(w3).cell? ⟨w.heap.size,1,none⟩=some T.clsV:=(Hb0.out.ext Hx3.out).at_ 1 (by omega)
 have z2:(w3).cell? ⟨w.heap.size,2,none⟩=some T.joiV:=(Hb0.out.ext Hx3.out).at_ 2 (by omega)
 have z3:(w3).cell? ⟨w.heap.size,3,none⟩=some T.bidV:=(Hb0.out.ext Hx3.out).at_ 3 (by omega)
 have z4:(w3).cell? ⟨w.heap.size,4,none⟩=some T.scrV:=(Hb0.out.ext Hx3.out).at_ 4 (by omega)
 have z5:(w3).cell? ⟨w.heap.size,5,none⟩=some T.staV:=(Hb0.out.ext Hx3.out).at_ 5 (by omega)
 have z6:(w3).cell? ⟨w.heap.size,6,none⟩=some T.ignV:=(Hb0.out.ext Hx3.out).at_ 6 (by omega)
 have z7:(w3).cell? ⟨w.heap.size,7,none⟩=some T.extV:=(Hb0.out.ext Hx3.out).at_ 7 (by omega)
 have z8:(w3).cell? ⟨w.heap.size,8,none⟩=some T.mapV:=(Hb0.out.ext Hx3.out).at_ 8 (by omega)
 have z9:(w3).cell? ⟨w.heap.size,9,none⟩=some T.decV:=(Hb0.out.ext Hx3.out).at_ 9 (by omega)
 have z10:(w3).cell? ⟨w.heap.size,10,none⟩=some T.excV:=(Hb0.out.ext Hx3.out).at_ 10 (by omega)
 have z11:(w3).cell? ⟨w.heap.size,11,none⟩=some T.proV:=(Hb0.out.ext Hx3.out).at_ 11 (by omega)
 have n0:=(Hx3.out.cell (p:=⟨g,o,none⟩) hgl).trans C0.out
 have n1:=(Hx3.out.cell (p:=⟨g,o+1,none⟩) hgl).trans C1.out
 clear hfull
 go_region_with (go_at_call 146;refine (Bs T x _ (H.out.up (have hx:=Hx3.out;(by repeat' first|exact Yl _|assumption|apply Yk|apply Yj|apply Yi|(refine Yh ?_ (by assumption))))) hf).mono ?_;rintro e w5 hp;unfold Qf at hp;rw [Hfull.out] at hp;obtain ⟨v5,rfl,hv5,hx5⟩:=hp)
 all_goals
  have Hx5:=Yw (Hx3.out.drew.trans hx5)
  obtain ⟨A5,C5,rfl,hl5,hc5⟩:=hv5.shape
  have Hv5:=Yw hv5
  clear z0 z1 z2 z3 z4 z5 z6 z7 z8 z9 z10 z11 n0 n1 hx5 hv5
  go_simp
  go_wp2_with fail
  have hrp:0 < r.length:=List.length_pos_iff.2 hne
  have hlast:r[r.length - 1]?=some (O0 T x):=by
   unfold O0
   rw [Hfull.out]
   exact Lz hne
  have HW:=Yw (H.out.up Hx5.out)
  have HD:=Yw (H9.out.ext Hx5.out)
  have hC:∀ w',(∃ p:Wj,w'=later w5 p.n p.os)→Q9 w' w.heap.size T:=fun w' ⟨p,e⟩=>by rw [e];exact (Hb0.out.ext Hx5.out).ext (⟨_,_,rfl⟩)
  have m9:=lat (((Hx5.out).cell (p:=⟨w.heap.size,9,none⟩) Hb0.out.lt).trans B9.out)
  have m0:=lat (((Hx5.out).cell (p:=⟨g,o,none⟩) hgl).trans C0.out)
  have m1:=lat (((Hx5.out).cell (p:=⟨g,o+1,none⟩) hgl).trans C1.out)
  obtain ⟨g5,o5,c5,e5,_,_,_,_,k5⟩:=Hv5.out.get hlast
  simp only [Ye] at e5
  obtain ⟨rfl,-,rfl⟩:=e5
  have m5:=lat k5
  have Hlast:=Yw hlast
  obtain ⟨nr,hnr⟩:∃ k,r.length=k:=⟨_,rfl⟩
  rw [hnr] at m5 hrp hr18 ⊢
  have Hnr:=Yw hnr
  clear hlast k5 hnr hl5
  have p1:=Vx nr hrp (by omega)
  have p2:(1:Int)≤(nr:Int):=by omega
  have p3:(0:Int)≤((nr - 1:Nat):Int):=by omega
  have p4:((nr - 1:Nat):Int) < (nr:Int):=by omega
  have p5:IntKind.i64.wrap ((nr - 1:Nat):Int)=((nr - 1:Nat):Int):=Yq _ (by omega)
  have p6:nr - 1 < nr:=by omega
  rcases Bool.eq_false_or_eq_true (Wv T.cls y == 0) with u1|u1
  ·have U1:=Yw u1
   have hun:=Yb
   refine Y0 (by kernel_rfl) (by kernel_rfl) ?_
   repeat (first|((with_reducible refine Xi ?_ ?_ hC ?_);(focus (go_simp;done));rfl)|((with_reducible refine Yv ?_);intro K hK;go_simp;first|((with_reducible refine hK _ ?_);clear hK K)|(apply Exists.intro;refine ⟨fun _=>?_,hK _ ?_⟩;(first|(go_at_call 147;exact Y8 (Wu T _ _ (HW.out.up (⟨_,_,rfl⟩))))|(go_at_call 148;exact Y8 (Xr T _ _ (HW.out.up (⟨_,_,rfl⟩))))|(go_at_call 111;exact Y8 (Xc _ T.dec _ _ (HD.out.ext (⟨_,_,rfl⟩)))));clear hK K)))
   (with_reducible refine Yu ?_);intro w1 hy
   clear hun
   go_wp2_with fail
   go_ret
   exact ⟨by rw [Qm Hxy.out,if_neg Hno.out,if_neg Hno2.out];first|(rw [U1.out,U2.out];rfl)|(rw [U1.out];rfl),X0.out.trans (Hx5.out.trans hy)⟩
  rcases Bool.eq_false_or_eq_true (decide (Wv T.cls (O0 T x)≤Wv T.cls y)) with u2|u2
  ·have U1:=Yw u1
   have U2:=Yw u2
   have hun:=Yb
   refine Y0 (by kernel_rfl) (by kernel_rfl) ?_
   repeat (first|((with_reducible refine Xi ?_ ?_ hC ?_);(focus (go_simp;done));rfl)|((with_reducible refine Yv ?_);intro K hK;go_simp;first|((with_reducible refine hK _ ?_);clear hK K)|(apply Exists.intro;refine ⟨fun _=>?_,hK _ ?_⟩;(first|(go_at_call 147;exact Y8 (Wu T _ _ (HW.out.up (⟨_,_,rfl⟩))))|(go_at_call 148;exact Y8 (Xr T _ _ (HW.out.up (⟨_,_,rfl⟩))))|(go_at_call 111;exact Y8 (Xc _ T.dec _ _ (HD.out.ext (⟨_,_,rfl⟩)))));clear hK K)))
   (with_reducible refine Yu ?_);intro w1 hy
   clear hun
   go_wp2_with fail
   go_ret
   exact ⟨by rw [Qm Hxy.out,if_neg Hno.out,if_neg Hno2.out];first|(rw [U1.out,U2.out];rfl)|(rw [U1.out];rfl),X0.out.trans (Hx5.out.trans hy)⟩
  have U1:=Yw u1
  have U2:=Yw u2
  have hun:=Yb
  refine Y0 (by kernel_rfl) (by kernel_rfl) ?_
  repeat (first|((with_reducible refine Xi ?_ ?_ hC ?_);(focus (go_simp;done));rfl)|((with_reducible refine Yv ?_);intro K hK;go_simp;first|((with_reducible refine hK _ ?_);clear hK K)|(apply Exists.intro;refine ⟨fun _=>?_,hK _ ?_⟩;(first|(go_at_call 147;exact Y8 (Wu T _ _ (HW.out.up (⟨_,_,rfl⟩))))|(go_at_call 148;exact Y8 (Xr T _ _ (HW.out.up (⟨_,_,rfl⟩))))|(go_at_call 111;exact Y8 (Xc _ T.dec _ _ (HD.out.ext (⟨_,_,rfl⟩)))));clear hK K)))
  (with_reducible refine Yu ?_);intro w1 hy
  clear hun
  go_wp2_with fail
  go_ret
  exact ⟨by rw [Qm Hxy.out,if_neg Hno.out,if_neg Hno2.out];first|(rw [U1.out,U2.out];rfl)|(rw [U1.out];rfl),X0.out.trans (Hx5.out.trans hy)⟩
theorem Lg {S:Nat→Prop} (T:Tbl) (c:Int) (w:World) (h:Xm w S T) (hne:(Xg T.dec c).length≠2) :
 Calls Tryz.prog 112 #[Wc T,.int .i64 c] w fun e w'=>e=.returned (.bool false)∧Ext w w':=by
 obtain ⟨A9,C9,e9,hl9,hc9⟩:=h.dec.shape
 have h9:=h.dec.ext ((Yl w).alloc (Xf T))
 obtain ⟨n9,hn9⟩:∃ n,T.dec.length=n:=⟨_,rfl⟩
 rw [hn9] at e9 hl9
 rw [e9] at h9
 have Hn9:=Yw hn9
 have E9:=Yw e9
 have H9:=Yw h9
 unfold maxLen at hc9
 clear hn9 e9 h9
 have X0:=Yw ((Yl w).alloc (Xf T))
 have H:=Yw (h.up X0.out)
 have Hb0:=Yw (Xq w T)
 clear h
 have hfa:=Vd (S:=S) (c:=c) H9.out.2
 obtain ⟨FA,FC,ef,_,fc⟩:=hfa.shape
 obtain ⟨d,hd⟩:∃ d,(Xg T.dec c).length=d:=⟨_,rfl⟩
 rw [hd] at ef hne
 have Hx:=Yw (Yl (w.alloc (Xf T)))
 have b9:=(Hb0.out.ext Hx.out).at_ 9 (by omega)
 rw [show (Ve T)[9]?=some T.decV from rfl,E9.out] at b9
 clear hfa Hx hd
 have q1:(!((d:Int) == 2))=true:=by simp;omega
 have q2:((d:Int) != 2)=true:=q1
 have q3:((d:Int) == 2)=false:=by simp;omega
 have Hne:=Yw hne
 clear hne
 go_enter Tryz.func112,Tryz.ntmps112
 go_wp2_with (first|(refine Xy rfl ?_)|(go_at_call 111;refine (Xc _ T.dec c _ H9.out).mono ?_;rintro e w1 ⟨rfl,hx1⟩))
 have HW:=Yw (H.out.up hx1)
 have HD:=Yw (H9.out.ext hx1)
 have hun:=Yb
 refine Y0 (by kernel_rfl) (by kernel_rfl) ?_
 repeat ((with_reducible refine Yv ?_);intro K hK;go_simp;first|((with_reducible refine hK _ ?_);clear hK K)|(apply Exists.intro;refine ⟨fun _=>?_,hK _ ?_⟩;(first|(go_at_call 147;exact Y8 (Wu T _ _ (HW.out.up (⟨_,_,rfl⟩))))|(go_at_call 148;exact Y8 (Xr T _ _ (HW.out.up (⟨_,_,rfl⟩))))|(go_at_call 111;exact Y8 (Xc _ T.dec _ _ (HD.out.ext (⟨_,_,rfl⟩)))));clear hK K))
 (with_reducible refine Yu ?_)
 intro w2 hy
 clear hun
 go_wp2_with fail
 go_ret
 exact ⟨rfl,X0.out.trans (hx1.trans hy)⟩
theorem Zsa {S:Nat→Prop} (T:Tbl) (hfin:Zu9 T) (hf:Few T):∀ (n:Nat) (c:Int) (w:World),Dep T.dec n c→Xm w S T →
 Calls Tryz.prog 112 #[Wc T,.int .i64 c] w fun e w'=>e=.returned (.bool (Be T (n+1) c))∧Ext w w':=by
 intro n
 induction n with
 | zero =>
  intro c w hd h
  have hd':Xg T.dec c=[]:=hd
  rw [Dj (by rw [hd'];simp)]
  exact Lg T c w h (by rw [hd'];simp)
 | succ n ih =>
  intro c w hd h
  by_cases h2:(Xg T.dec c).length=2
  ·obtain ⟨x,y,hxy⟩:∃ x y,Xg T.dec c=[x,y]:=by
    match hh:Xg T.dec c with
    | [x,y]=>exact ⟨x,y,rfl⟩
    | []=>rw [hh] at h2;simp at h2
    | [_]=>rw [hh] at h2;simp at h2
    | _::_::_::_=>rw [hh] at h2;simp at h2
   refine Zuw T hfin hf (n+1) c x y w h hxy fun hne w' hx=>?_
   refine ih x w' ?_ (h.up hx)
   rcases hd with hd | ⟨x',r,hd,hd2⟩
   ·rw [hxy] at hd;simp at hd
   rw [hxy] at hd
   simp only [List.cons.injEq] at hd
   rw [hd.1]
   exact hd2
  rw [Dj h2]
  exact Lg T c w h h2
def Uo (T:Tbl) (c:Int):Bool:=Be T 258 c
theorem Jg {S:Nat→Prop} (T:Tbl) (hfin:Zu9 T) (hf:Few T) (c:Int) (w:World) (h:Xm w S T) :
 Calls Tryz.prog 112 #[Wc T,.int .i64 c] w fun e w'=>e=.returned (.bool (Uo T c))∧Ext w w' :=
 Zsa T hfin hf 257 c w (Zq1 hfin c) h
theorem Gf {ops:Array Oper} {rest:List Oper} {dst:Option Nat} {x:Operand} {t:TypeId} {pos:String} {af:Array Edge} {gd:Option (Nat×Bool)} {a:Act} {w:World} {Q:Exit→Act→World→Prop} {b:Nat} {T:Tbl} (h:Q9 w b T)
 (hw:Region.wanted {dst:=dst,op:=.load 34 x,type:=t,pos:=pos,after:=af,guard:=gd} (yielded ops a.tmps)=true) (hx:a.eval x=.pointer (some ⟨b,0,none⟩)) (hK:wpList Tryz.prog ops Q rest (a.put dst (Wc T)) w) :
 wpList Tryz.prog ops Q ({dst:=dst,op:=.load 34 x,type:=t,pos:=pos,after:=af,guard:=gd}::rest) a w:=by
 have hu:=Df
 rw [Option.map_eq_some_iff] at hu
 obtain ⟨d,hu,hd⟩:=hu
 show if _ then _ else _
 rw [if_pos hw]
 exact .inl (wp_load_mid _ x rfl b 0 hx (Ve T) d h.range hu hd (by rw [Ux];rfl) hK)
def Uq0 (T:Tbl):Prop:=∀ m∈T.dec,Xg T.dec m.fr=m.to_
def Pg (w:World) (e:Ending) (w':World):Prop:=e=.returned (.bool true)∧Ext w w'
def Bg:List Int:=[8,254,5,11,60,4,1]
structure Znx (l:List Sp) (m:Int):Prop where
 len:l.length≤256
 in_:∀ s∈l,0≤s.fr∧s.to_=s.fr∧s.fr≤1114111∧P9 s.fr=false∧1≤s.val∧s.val≤m
 lt:∀ (i:Nat) (x y:Sp),0 < i→l[i]?=some x→l[i - 1]?=some y→y.fr < x.fr
structure Zns (l:List Mp) (k:Nat):Prop where
 len:l.length≤256
 in_:∀ m∈l,0≤m.fr∧m.fr≤1114111∧(P9 m.fr=false∨((k:Int) == 3)=true∧Zrf m.fr=true)∧1≤m.to_.length∧m.to_.length≤18
 lt:∀ (i:Nat) (x y:Mp),0 < i→l[i]?=some x→l[i - 1]?=some y→y.fr < x.fr
 scr:k=0→∀ m∈l,(∀ c∈m.to_,3≤c∧c≤60)∧∀ (i:Nat) (x y:Int),0 < i→m.to_[i]?=some x→m.to_[i - 1]?=some y→y < x
 sca:0 < k→∀ m∈l,∀ c∈m.to_,Rp c=true
structure Eu (T:Tbl):Prop where
 sp:∀ (j:Nat) p z,(Su T)[j]?=some p→Bg[j]?=some z→Znx p.2 z
 mp:∀ (j:Nat) p,(Sj T)[j]?=some p→Zns p.2 j
 xlen:T.exc.length≤256
 xin:∀ c∈T.exc,0≤c∧c≤1114111∧P9 c=false∧Xg T.dec c≠[]
 xlt:∀ (i:Nat) (x y:Int),0 < i→T.exc[i]?=some x→T.exc[i - 1]?=some y→y < x
 cnt:(T.sta.filter fun s=>s.val == 3).length=T.map.length
 mapS:∀ m∈T.map,Ztx T m.fr=3∧∀ c∈m.to_,Ztx T c=1
 dec2:∀ m∈T.dec,m.to_.length≤2∧∀ c∈m.to_,c≠46∧Gs c=false∧P7 c=false
 fin:Zu9 T
 few:Few T
 uq:Uq0 T
 r8:∀ (i j:Nat) a b,j < i→T.dec[i]?=some a→T.dec[j]?=some b→Uo T a.fr=true→Uo T b.fr=true→a.to_≠b.to_
 r9:∀ m∈T.pro,Xg T.dec m.fr=[]∧(Wv T.ign m.fr == 1)=false∧∀ c∈m.to_,Xg T.dec c=[]∧(Wv T.ign c == 1)=false∧Gs c=false∧Xg T.pro c=[]
theorem Zwm (c:Int) (hc:P9 c=false) (i:Nat) (h:i < 6):∃ lo hi:Int,(∀ wx,(Instr.index 235 (.agg #[.int .i64 0,.int .i64 127,.int .i64 55296,.int .i64 57343,.int .i64 44032,.int .i64 55203,.int .i64 4352,.int .i64 4370,.int .i64 4449,.int .i64 4469,.int .i64 4520,.int .i64 4546]) (.int .i64 (i:Int))).run Tryz.prog wx=.ok (.agg #[.int .i64 lo,.int .i64 hi]) wx)∧((decide (c≤hi)=true∧decide (lo≤c)=false)∨decide (c≤hi)=false):=by
 have key:∀ lo hi:Int,¬ (lo≤c∧c≤hi)→((decide (c≤hi)=true∧decide (lo≤c)=false)∨decide (c≤hi)=false):=fun lo hi hn=>by
  by_cases h1:c≤hi
  ·exact .inl ⟨Yf h1,Yg fun h2=>hn ⟨h2,h1⟩⟩
  exact .inr (Yg h1)
 simp only [P9,Gs,P7,Bool.or_eq_false_iff,Bool.and_eq_false_iff,decide_eq_false_iff_not] at hc
 rcases (show i=0∨i=1∨i=2∨i=3∨i=4∨i=5 by omega) with rfl|rfl|rfl|rfl|rfl|rfl
 ·exact ⟨0,127,fun _=>by kernel_rfl,key _ _ (by omega)⟩
 ·exact ⟨55296,57343,fun _=>by kernel_rfl,key _ _ (by omega)⟩
 ·exact ⟨44032,55203,fun _=>by kernel_rfl,key _ _ (by omega)⟩
 ·exact ⟨4352,4370,fun _=>by kernel_rfl,key _ _ (by omega)⟩
 ·exact ⟨4449,4469,fun _=>by kernel_rfl,key _ _ (by omega)⟩
 exact ⟨4520,4546,fun _=>by kernel_rfl,key _ _ (by omega)⟩
theorem Zyn (a b c:Int) (hb:b=a) (hc:P9 a=false) (w:World):Calls Tryz.prog 140 #[.agg #[.int .i64 a,.int .i64 b,.int .i64 c]] w (Pg w):=by
 subst hb
 have X0:=Yw ((Yl w).alloc (.cells #[.int .i64 b,.int .i64 b,.int .i64 c] 99))
 have HC:=Yw hc
 clear hc
 go_enter Tryz.func140,Tryz.ntmps140
 go_wp2_with fail
 go_loopw [12] (fun o wr=>∃ i:Nat,i≤6∧o=.int .i64 (i:Int)∧Ext (w.alloc (.cells #[.int .i64 b,.int .i64 b,.int .i64 c] 99)) wr) (fun o _=>6 - (intOf o).toNat)
 case atStart=>exact ⟨0,by omega,rfl,Yl _⟩
 obtain ⟨i,hi_i,rfl,hx⟩:=hrel
 have Hx:=Yw hx
 clear hx
 have hb:=(Q4 w #[.int .i64 b,.int .i64 b,.int .i64 c] 99 _ rfl).ext Hx.out
 have b0:=hb.at_ 0 _ rfl
 have b1:=hb.at_ 1 _ rfl
 have hbl:=hb.lt
 clear hb
 by_cases hlt:i < 6
 ·have hd_i:decide ((i:Int) < (6:Int))=true:=Yf (by omega)
  have i0_i:(0:Int)≤(i:Int):=by omega
  have i1_i:(i:Int) < (6:Int):=by omega
  obtain ⟨lo,up,hix,hq⟩:=Zwm b HC.out i hlt
  rcases hq with ⟨q1,q2⟩|q1
  ·go_wp2_with fail
   all_goals
    have hx:=Hx.out
    first
    | (go_roundw
       case rel=>exact ⟨i+1,by omega,by go_num,(by repeat' first|exact Yl _|assumption|apply Yk|apply Yj|apply Yi|(refine Yh ?_ (by assumption)))⟩
       case measure=>(simp [intOf];omega))
    | (go_ret;exact ⟨rfl,X0.out.trans (by repeat' first|exact Yl _|assumption|apply Yk|apply Yj|apply Yi|(refine Yh ?_ (by assumption)))⟩)
  go_wp2_with fail
  all_goals
   have hx:=Hx.out
   first
   | (go_roundw
      case rel=>exact ⟨i+1,by omega,by go_num,(by repeat' first|exact Yl _|assumption|apply Yk|apply Yj|apply Yi|(refine Yh ?_ (by assumption)))⟩
      case measure=>(simp [intOf];omega))
   | (go_ret;exact ⟨rfl,X0.out.trans (by repeat' first|exact Yl _|assumption|apply Yk|apply Yj|apply Yi|(refine Yh ?_ (by assumption)))⟩)
 have hd_i:decide ((i:Int) < (6:Int))=false:=Yg (by omega)
 go_wp2_with fail
 all_goals
  have hx:=Hx.out
  first
  | (go_roundw
     case rel=>exact ⟨i+1,by omega,by go_num,(by repeat' first|exact Yl _|assumption|apply Yk|apply Yj|apply Yi|(refine Yh ?_ (by assumption)))⟩
     case measure=>(simp [intOf];omega))
  | (go_ret;exact ⟨rfl,X0.out.trans (by repeat' first|exact Yl _|assumption|apply Yk|apply Yj|apply Yi|(refine Yh ?_ (by assumption)))⟩)
theorem Ra {S:Nat→Prop} (v:Value) (l:List Sp) (z:Int) (w:World) (h:Vz w S v l) (ok:Znx l z):Calls Tryz.prog 139 #[v,.int .i64 0,.int .i64 1114111] w (Pg w):=by
 have OK:=Yw ok
 have hlen:=ok.len
 obtain ⟨A,C,rfl,hlCC,hCC⟩:=h.shape
 obtain ⟨n,hnn⟩:∃ n,(l).length=n:=⟨_,rfl⟩
 have Hnn:=Yw hnn
 have Hh:=Yw h
 unfold maxLen at hCC
 rw [hnn] at hlCC ⊢
 clear h hnn
 rw [Hnn.out] at hlen
 clear ok
 go_enter Tryz.func139,Tryz.ntmps139
 have hb:decide ((256:Int) < (n:Int))=false:=Yg (by omega)
 go_wp2_with fail
 go_loopw [14] (fun o wr=>∃ i:Nat,i≤n∧o=.int .i64 (i:Int)∧Ext w wr) (fun o _=>n - (intOf o).toNat)
 case atStart=>exact ⟨0,by omega,rfl,Yl _⟩
 obtain ⟨i,hi,rfl,hx⟩:=hrel
 have Hx:=Yw hx
 clear hx
 by_cases hlt:i < n
 ·have hd:decide ((i:Int) < (n:Int))=true:=Yf (by omega)
  have i0:(0:Int)≤(i:Int):=by omega
  have i1:(i:Int) < (n:Int):=by omega
  obtain ⟨x,hs⟩:∃ s,(l)[i]?=some s:=⟨(l)[i]'(by first|(rw [Hnn.out];exact hlt)|(have:=Hnn.out;omega)),Zz _⟩
  obtain ⟨g,o,c',hvv,_,_,_,hgl,c0,c1,c2⟩:=(Hh.out.ext Hx.out).get hs
  simp only [Ye] at hvv
  obtain ⟨rfl,-,rfl⟩:=hvv
  have Hs:=Yw hs
  clear hs
  obtain ⟨r1,r2,r3,_,_,_⟩:=OK.out.in_ x (Zy Hs.out)
  obtain ⟨fr,to_,val⟩:=x
  simp only at r1 r2 r3 c0 c1 c2
  subst r2
  go_wp2_with fail
  obtain ⟨W,hW⟩:∃ W,wr.alloc (.cells #[.int .i64 to_,.int .i64 to_,.int .i64 val] 99)=W:=⟨_,rfl⟩
  have m0:=lat (show W.cell? ⟨wr.heap.size,0,none⟩=some (.int .i64 to_) by (rw [← hW];clear hW;go_simp))
  have m1:=lat (show W.cell? ⟨wr.heap.size,1,none⟩=some (.int .i64 to_) by (rw [← hW];clear hW;go_simp))
  have hxw:Ext wr W:=by rw [← hW];exact (Yl _).alloc _
  rw [hW]
  clear hW
  have q1:decide (to_ < 0)=false:=Yg (by omega)
  have q2:decide (to_ < to_)=false:=Yg (by omega)
  have q3:decide (1114111 < to_)=false:=Yg (by omega)
  clear r1 r3
  rcases Nat.eq_zero_or_pos i with hi0|hi0
  ·have q6:decide ((0:Int) < (i:Int))=false:=Yg (by omega)
   have q7:decide (0 < i)=false:=Yg (by omega)
   clear hi0
   have hun:=Yb
   refine Y0 (by kernel_rfl) (by kernel_rfl) ?_
   repeat ((with_reducible refine Yv ?_);intro K hK;go_simp;(with_reducible refine hK _ ?_);clear hK K)
   (with_reducible refine Yu ?_);intro w1 hy
   clear hun
   try simp only [Yc]
   go_wp2_with fail
   all_goals
    have hx:=Hx.out
    first
    | (go_roundw
       case rel=>exact ⟨i+1,by omega,by go_num,(by repeat' first|exact Yl _|assumption|apply Yk|apply Yj|apply Yi|(refine Yh ?_ (by assumption)))⟩
       case measure=>(simp [intOf];omega))
    | (go_ret;exact ⟨rfl,(by repeat' first|exact Yl _|assumption|apply Yk|apply Yj|apply Yi|(refine Yh ?_ (by assumption)))⟩)
  have q6:decide ((0:Int) < (i:Int))=true:=Yf (by omega)
  have q7:decide (0 < i)=true:=Yf (by omega)
  obtain ⟨y,hy⟩:∃ s,l[i - 1]?=some s:=⟨l[i - 1]'(by have:=Hnn.out;omega),Zz _⟩
  have q8:decide (to_≤y.to_)=false:=Yg (by have h1:=OK.out.lt i _ y hi0 Hs.out hy;have h2:=(OK.out.in_ y (Zy hy)).2.1;simp only at h1;omega)
  obtain ⟨g',o',c',hvv,_,_,_,_,_,d1,_⟩:=(Hh.out.ext Hx.out).get hy
  simp only [Ye,Yd,Addr.mk.injEq,true_and,and_true] at hvv
  obtain ⟨⟨rfl,rfl⟩,rfl⟩:=hvv
  have m2:=lat ((hxw.cell (p:=⟨g,o+(i - 1) * 3+1,none⟩) hgl).trans d1)
  have w1:=Vx i hi0 (by omega)
  have w2:(1:Int)≤(i:Int):=by omega
  have w3:(0:Int)≤((i - 1:Nat):Int):=by omega
  have w4:((i - 1:Nat):Int) < (n:Int):=by omega
  clear hy hi0
  have hun:=Yb
  refine Y0 (by kernel_rfl) (by kernel_rfl) ?_
  repeat ((with_reducible refine Yv ?_);intro K hK;go_simp;(with_reducible refine hK _ ?_);clear hK K)
  (with_reducible refine Yu ?_);intro w1 hy
  clear hun
  try simp only [Yc]
  go_wp2_with fail
  all_goals
   have hx:=Hx.out
   first
   | (go_roundw
      case rel=>exact ⟨i+1,by omega,by go_num,(by repeat' first|exact Yl _|assumption|apply Yk|apply Yj|apply Yi|(refine Yh ?_ (by assumption)))⟩
      case measure=>(simp [intOf];omega))
   | (go_ret;exact ⟨rfl,(by repeat' first|exact Yl _|assumption|apply Yk|apply Yj|apply Yi|(refine Yh ?_ (by assumption)))⟩)
 have hd:decide ((i:Int) < (n:Int))=false:=Yg (by omega)
 have hx:=Hx.out
 go_wp2_with fail
 all_goals
  have hx:=Hx.out
  first
  | (go_roundw
     case rel=>exact ⟨i+1,by omega,by go_num,(by repeat' first|exact Yl _|assumption|apply Yk|apply Yj|apply Yi|(refine Yh ?_ (by assumption)))⟩
     case measure=>(simp [intOf];omega))
  | (go_ret;exact ⟨rfl,(by repeat' first|exact Yl _|assumption|apply Yk|apply Yj|apply Yi|(refine Yh ?_ (by assumption)))⟩)
theorem Rj {S:Nat→Prop} (T:Tbl) (hg:Eu T) (w:World) (h:Xm w S T):Calls Tryz.prog 107 #[Wc T] w (Pg w):=by
 have G:=Yw hg
 clear hg
 have X0:=Yw ((Yl w).alloc (Xf T))
 have H:=Yw (h.up X0.out)
 have Hb0:=Yw (Xq w T)
 clear h
 go_enter Tryz.func107,Tryz.ntmps107
 go_wp2_with (first|(refine Xy rfl ?_)|(refine Y4 Hb0.out rfl ?_)|(go_at_call 137;refine (F8 T _ H.out).mono ?_;rintro e w1 ⟨g1,g2,rfl,hc,hc2,hx1⟩))
 have Hc:=Yw hc
 have Hc2:=Yw hc2
 have Hx1:=Yw hx1
 clear hc hx1 hc2
 go_loopw [16] (fun o wr=>∃ i:Nat,i≤7∧o=.int .i64 (i:Int)∧Ext w1 wr) (fun o _=>7 - (intOf o).toNat)
 case atStart=>exact ⟨0,by omega,rfl,Yl _⟩
 obtain ⟨k,hi_k,rfl,hx⟩:=hrel
 have Hx:=Yw hx
 clear hx
 have Hy:=Yw (Hx1.out.trans Hx.out)
 by_cases hlt:k < 7
 ·have hd_k:decide ((k:Int) < (7:Int))=true:=Yf (by omega)
  have i0_k:(0:Int)≤(k:Int):=by omega
  have i1_k:(k:Int) < (7:Int):=by omega
  obtain ⟨p,hp⟩:∃ p,(Su T)[k]?=some p:=⟨(Su T)[k]'(by have:(Su T).length=7:=rfl;omega),Zz _⟩
  have hrow:=Zuv H.out p (Zy hp)
  have c0:=(Hc.out.ext Hx.out).at_ k p.1 (by simp [hp])
  obtain ⟨A1,C1,e1,hl1,hc1⟩:=hrow.shape
  rw [e1] at c0 hrow
  unfold maxLen at hc1
  obtain ⟨m,hm⟩:∃ m,p.2.length=m:=⟨_,rfl⟩
  have Hm:=Yw hm
  have Hp:=Yw hp
  have Hrow:=Yw hrow
  rw [hm] at c0 hl1
  clear hrow hm hp e1
  obtain ⟨z,hz⟩:∃ z:Int,([8,254,5,11,60,4,1]:List Int)[k]?=some z:=⟨([8,254,5,11,60,4,1]:List Int)[k]'(by simpa using hlt),Zz _⟩
  have Hcz:=Yw (Hc2.out.at_ k (.int .i64 z) (by rw [Zn,hz];rfl))
  have OK:=Yw (G.out.sp k p z Hp.out hz)
  go_wp2_with fail
  have Hz:=Yw Hx.out
  have Hlt:=Yw hlt
  clear Hx Hy hlt hz
  go_loopw [23] (fun o wr=>∃ i:Nat,i≤m∧o=.int .i64 (i:Int)∧Ext w1 wr) (fun o _=>m - (intOf o).toNat)
  case atStart=>exact ⟨0,by omega,rfl,Hz.out⟩
  obtain ⟨j,hi_j,rfl,hx⟩:=hrel
  have Hx:=Yw hx
  clear hx
  have Hy:=Yw (Hx1.out.trans Hx.out)
  by_cases hlt:j < m
  ·have hd_j:decide ((j:Int) < (m:Int))=true:=Yf (by omega)
   have i0_j:(0:Int)≤(j:Int):=by omega
   have i1_j:(j:Int) < (m:Int):=by omega
   obtain ⟨x,hs_x⟩:∃ s,(p.2)[j]?=some s:=⟨(p.2)[j]'(by have:=Hm.out;omega),Zz _⟩
   obtain ⟨g_x,o_x,c_x,hvv,_,_,_,hgl_x,a0_x,a1_x,a2_x⟩:=(Hrow.out.ext Hy.out).get hs_x
   simp only [Ye] at hvv
   obtain ⟨rfl,-,rfl⟩:=hvv
   have Hs_x:=Yw hs_x
   clear hs_x
   have hkl:=Hlt.out
   go_wp2_with fail
   obtain ⟨W,hW⟩:∃ W,wr.alloc (.cells #[.int .i64 x.fr,.int .i64 x.to_,.int .i64 x.val] 99)=W:=⟨_,rfl⟩
   have m0:=lat (show W.cell? ⟨wr.heap.size,2,none⟩=some (.int .i64 x.val) by (rw [← hW];clear hW;go_simp))
   have hxw:Ext wr W:=by rw [← hW];exact (Yl _).alloc _
   have m1:=lat (((Hx.out.trans hxw).cell (p:=⟨g2,k,none⟩) Hc2.out.lt).trans Hcz.out)
   rw [hW]
   clear hW
   obtain ⟨_,_,_,_,r1,r2⟩:=OK.out.in_ x (Zy Hs_x.out)
   have q1:decide (x.val < 0)=false:=Yg (by omega)
   have q2:decide (z < x.val)=false:=Yg (by omega)
   have q3:(x.val == 0)=false:=by simp;omega
   clear r1 r2
   have hun:=Yb
   refine Y0 (by kernel_rfl) (by kernel_rfl) ?_
   repeat ((with_reducible refine Yv ?_);intro K hK;go_simp;(with_reducible refine hK _ ?_);clear hK K)
   (with_reducible refine Yu ?_)
   intro w9 hy9
   clear hun
   try simp only [Yc]
   go_wp2_with fail
   all_goals
    have hx:=Hx.out
    first
    | (go_roundw
       case rel=>exact ⟨j+1,by omega,by go_num,(by repeat' first|exact Yl _|assumption|apply Yk|apply Yj|apply Yi|(refine Yh ?_ (by assumption)))⟩
       case measure=>(simp [intOf];omega))
    | (go_ret;exact ⟨rfl,X0.out.trans (Hx1.out.trans (by repeat' first|exact Yl _|assumption|apply Yk|apply Yj|apply Yi|(refine Yh ?_ (by assumption))))⟩)
  have hd_j:decide ((j:Int) < (m:Int))=false:=Yg (by omega)
  have hlt2:=Hlt.out
  go_wp2_with fail
  all_goals
   have hx:=Hx.out
   first
   | (go_roundw
      case rel=>exact ⟨k+1,by omega,by go_num,(by repeat' first|exact Yl _|assumption|apply Yk|apply Yj|apply Yi|(refine Yh ?_ (by assumption)))⟩
      case measure=>(simp [intOf];omega))
   | (go_ret;exact ⟨rfl,X0.out.trans (Hx1.out.trans (by repeat' first|exact Yl _|assumption|apply Yk|apply Yj|apply Yi|(refine Yh ?_ (by assumption))))⟩)
 have hd_k:decide ((k:Int) < (7:Int))=false:=Yg (by omega)
 go_wp2_with fail
 all_goals
  have hx:=Hx.out
  first
  | (go_roundw
     case rel=>exact ⟨k+1,by omega,by go_num,(by repeat' first|exact Yl _|assumption|apply Yk|apply Yj|apply Yi|(refine Yh ?_ (by assumption)))⟩
     case measure=>(simp [intOf];omega))
  | (go_ret;exact ⟨rfl,X0.out.trans (Hx1.out.trans (by repeat' first|exact Yl _|assumption|apply Yk|apply Yj|apply Yi|(refine Yh ?_ (by assumption))))⟩)
theorem Zzx {S:Nat→Prop} (T:Tbl) (hg:Eu T) (w:World) (h:Xm w S T):Calls Tryz.prog 108 #[Wc T] w (Pg w):=by
 have G:=Yw hg
 clear hg
 have X0:=Yw ((Yl w).alloc (Xf T))
 have H:=Yw (h.up X0.out)
 have Hb0:=Yw (Xq w T)
 clear h
 go_enter Tryz.func108,Tryz.ntmps108
 go_wp2_with (first|(refine Xy rfl ?_)|(refine Y4 Hb0.out rfl ?_)|(go_at_call 138;refine (Kf T _ H.out).mono ?_;rintro e w1 ⟨g1,rfl,hc,hx1⟩))
 have Hc:=Yw hc
 have Hx1:=Yw hx1
 clear hc hx1
 go_loopw [14] (fun o wr=>∃ i:Nat,i≤4∧o=.int .i64 (i:Int)∧Ext w1 wr) (fun o _=>4 - (intOf o).toNat)
 case atStart=>exact ⟨0,by omega,rfl,Yl _⟩
 obtain ⟨k,hi_k,rfl,hx⟩:=hrel
 have Hx:=Yw hx
 clear hx
 have Hy:=Yw (Hx1.out.trans Hx.out)
 by_cases hlt:k < 4
 ·have hd_k:decide ((k:Int) < (4:Int))=true:=Yf (by omega)
  have i0_k:(0:Int)≤(k:Int):=by omega
  have i1_k:(k:Int) < (4:Int):=by omega
  obtain ⟨p,hp⟩:∃ p,(Sj T)[k]?=some p:=⟨(Sj T)[k]'(by have:(Sj T).length=4:=rfl;omega),Zz _⟩
  have hrow:=Zxf H.out p (Zy hp)
  have c0:=(Hc.out.ext Hx.out).at_ k p.1 (by simp [hp])
  obtain ⟨A1,C1,e1,hl1,hc1⟩:=hrow.shape
  rw [e1] at c0 hrow
  unfold maxLen at hc1
  obtain ⟨m,hm⟩:∃ m,p.2.length=m:=⟨_,rfl⟩
  have Hm:=Yw hm
  have Hp:=Yw hp
  have Hrow:=Yw hrow
  rw [hm] at c0 hl1
  clear hrow hm hp e1
  have OK:=Yw (G.out.mp k p Hp.out)
  go_wp2_with fail
  have Hz:=Yw Hx.out
  have Hlt:=Yw hlt
  clear Hx Hy hlt
  go_loopw [21] (fun o wr=>∃ i:Nat,i≤m∧o=.int .i64 (i:Int)∧Ext w1 wr) (fun o _=>m - (intOf o).toNat)
  case atStart=>exact ⟨0,by omega,rfl,Hz.out⟩
  obtain ⟨j,hi_j,rfl,hx⟩:=hrel
  have Hx:=Yw hx
  clear hx
  have Hy:=Yw (Hx1.out.trans Hx.out)
  by_cases hlt:j < m
  ·have hd_j:decide ((j:Int) < (m:Int))=true:=Yf (by omega)
   have i0_j:(0:Int)≤(j:Int):=by omega
   have i1_j:(j:Int) < (m:Int):=by omega
   obtain ⟨x,hs_x⟩:∃ s,(p.2)[j]?=some s:=⟨(p.2)[j]'(by have:=Hm.out;omega),Zz _⟩
   obtain ⟨g_x,o_x,c_x,hvv,_,_,_,hgl_x,a0_x,a1_x,_⟩:=(Hrow.out.ext Hy.out).get hs_x
   simp only [Ye] at hvv
   obtain ⟨rfl,-,rfl⟩:=hvv
   have ti_x:=Hrow.out.2 _ (Zy hs_x)
   obtain ⟨A_x,C_x,tv_x,tl_x,tc_x⟩:=ti_x.shape
   obtain ⟨n_x,hn_x⟩:∃ n,x.to_.length=n:=⟨_,rfl⟩
   rw [tv_x] at a1_x ti_x
   rw [hn_x] at a1_x tl_x
   have Hn_x:=Yw hn_x
   unfold maxLen at tc_x
   have Hs_x:=Yw hs_x
   have Ti_x:=Yw ti_x
   clear hs_x ti_x tv_x hn_x
   obtain ⟨_,_,_,r1,r2⟩:=OK.out.in_ x (Zy Hs_x.out)
   rw [Hn_x.out] at r1 r2
   have d1:decide ((n_x:Int) < (1:Int))=false:=Yg (by omega)
   have d2:decide ((18:Int) < (n_x:Int))=false:=Yg (by omega)
   have d3:¬ n_x=0:=by omega
   go_wp2_with fail
   have Hza:=Yw (Hx.out.alloc (.cells #[.int .i64 x.fr,.slice A_x n_x C_x] 106))
   have Hbx:=Yw (Q4 wr #[.int .i64 x.fr,.slice A_x n_x C_x] 106 _ rfl)
   have Hlj:=Yw hlt
   clear Hx Hy hlt d1 d2 d3 r1 r2
   rename World=>wo
   go_loopw [38] (fun o wr=>∃ i:Nat,i≤n_x∧o=.int .i64 (i:Int)∧Ext (wo.alloc (.cells #[.int .i64 x.fr,.slice A_x n_x C_x] 106)) wr) (fun o _=>n_x - (intOf o).toNat)
   case atStart=>exact ⟨0,by omega,rfl,Yl _⟩
   obtain ⟨i,hi_i,rfl,hx⟩:=hrel
   have Hx:=Yw hx
   clear hx
   have Hw:=Yw (Hza.out.trans Hx.out)
   have Hy:=Yw (Hx1.out.trans (Hza.out.trans Hx.out))
   by_cases hlt:i < n_x
   ·have hd_i:decide ((i:Int) < (n_x:Int))=true:=Yf (by omega)
    have i0_i:(0:Int)≤(i:Int):=by omega
    have i1_i:(i:Int) < (n_x:Int):=by omega
    obtain ⟨c,hs_c⟩:∃ s,(x.to_)[i]?=some s:=⟨(x.to_)[i]'(by have:=Hn_x.out;omega),Zz _⟩
    obtain ⟨g_c,o_c,c_c,hvv,_,_,_,hgl_c,a0_c⟩:=(Ti_x.out.ext Hy.out).get hs_c
    simp only [Ye] at hvv
    obtain ⟨rfl,-,rfl⟩:=hvv
    have Hs_c:=Yw hs_c
    clear hs_c
    have bx:=(Hbx.out.ext Hx.out).at_ 1 _ rfl
    rcases Nat.eq_zero_or_pos i with hj0|hj0
    ·have q6:decide ((0:Int) < (i:Int))=false:=Yg (by omega)
     have q7:decide (0 < i)=false:=Yg (by omega)
     clear hj0
     rcases Nat.eq_zero_or_pos k with hk0|hk0
     ·have k1:((k:Int) == 0)=true:=by simp;omega
      have k2:(k == 0)=true:=by simp;omega
      have k3:decide (k=0)=true:=Yf hk0
      have k4:decide ((0:Int) < (k:Int))=false:=Yg (by omega)
      have k5:decide (0 < k)=false:=Yg (by omega)
      have hsc:=OK.out.scr hk0 x (Zy Hs_x.out)
      have hs1:=hsc.1 c (Zy Hs_c.out)
      have e1':decide (c < 3)=false:=Yg (by omega)
      have e2':decide (60 < c)=false:=Yg (by omega)
      skip
      clear hk0 hsc hs1
      go_wp2_with fail
      all_goals
       have hx:=Hx.out
       first
       | (go_roundw
          case rel=>exact ⟨i+1,by omega,by go_num,(by repeat' first|exact Yl _|assumption|apply Yk|apply Yj|apply Yi|(refine Yh ?_ (by assumption)))⟩
          case measure=>(simp [intOf];omega))
       | (go_ret;exact ⟨rfl,X0.out.trans (Hx1.out.trans (Hza.out.trans (by repeat' first|exact Yl _|assumption|apply Yk|apply Yj|apply Yi|(refine Yh ?_ (by assumption)))))⟩)
     have k1:((k:Int) == 0)=false:=by simp;omega
     have k2:(k == 0)=false:=by simp;omega
     have k3:decide (k=0)=false:=Yg (by omega)
     have k4:decide ((0:Int) < (k:Int))=true:=Yf (by omega)
     have k5:decide (0 < k)=true:=Yf (by omega)
     have HS:=Yw (OK.out.sca hk0 x (Zy Hs_x.out) c (Zy Hs_c.out))
     go_wp2_with (go_at_call 143;refine (Qv _ _).mono ?_;rintro e w' ⟨rfl,rfl⟩;rw [HS.out])
     all_goals
      have hx:=Hx.out
      first
      | (go_roundw
         case rel=>exact ⟨i+1,by omega,by go_num,(by repeat' first|exact Yl _|assumption|apply Yk|apply Yj|apply Yi|(refine Yh ?_ (by assumption)))⟩
         case measure=>(simp [intOf];omega))
      | (go_ret;exact ⟨rfl,X0.out.trans (Hx1.out.trans (Hza.out.trans (by repeat' first|exact Yl _|assumption|apply Yk|apply Yj|apply Yi|(refine Yh ?_ (by assumption)))))⟩)
    have q6:decide ((0:Int) < (i:Int))=true:=Yf (by omega)
    have q7:decide (0 < i)=true:=Yf (by omega)
    obtain ⟨y,hy⟩:∃ s,x.to_[i - 1]?=some s:=⟨x.to_[i - 1]'(by have:=Hn_x.out;omega),Zz _⟩
    obtain ⟨g',o',c',hvv,_,_,_,_,e1⟩:=(Ti_x.out.ext Hy.out).get hy
    simp only [Ye,Yd,Addr.mk.injEq,true_and,and_true] at hvv
    obtain ⟨⟨rfl,rfl⟩,rfl⟩:=hvv
    have w1':=Vx i hj0 (by omega)
    have w2':(1:Int)≤(i:Int):=by omega
    have w3':(0:Int)≤((i - 1:Nat):Int):=by omega
    have w4':((i - 1:Nat):Int) < (n_x:Int):=by omega
    have Hye:=Yw hy
    have Hj0:=Yw hj0
    clear hy hj0
    rcases Nat.eq_zero_or_pos k with hk0|hk0
    ·have k1:((k:Int) == 0)=true:=by simp;omega
     have k2:(k == 0)=true:=by simp;omega
     have k3:decide (k=0)=true:=Yf hk0
     have k4:decide ((0:Int) < (k:Int))=false:=Yg (by omega)
     have k5:decide (0 < k)=false:=Yg (by omega)
     have hsc:=OK.out.scr hk0 x (Zy Hs_x.out)
     have hs1:=hsc.1 c (Zy Hs_c.out)
     have e1':decide (c < 3)=false:=Yg (by omega)
     have e2':decide (60 < c)=false:=Yg (by omega)
     have e3':decide (c≤y)=false:=Yg (by have:=hsc.2 i c y Hj0.out Hs_c.out Hye.out;omega)
     clear hk0 hsc hs1
     go_wp2_with fail
     all_goals
      have hx:=Hx.out
      first
      | (go_roundw
         case rel=>exact ⟨i+1,by omega,by go_num,(by repeat' first|exact Yl _|assumption|apply Yk|apply Yj|apply Yi|(refine Yh ?_ (by assumption)))⟩
         case measure=>(simp [intOf];omega))
      | (go_ret;exact ⟨rfl,X0.out.trans (Hx1.out.trans (Hza.out.trans (by repeat' first|exact Yl _|assumption|apply Yk|apply Yj|apply Yi|(refine Yh ?_ (by assumption)))))⟩)
    have k1:((k:Int) == 0)=false:=by simp;omega
    have k2:(k == 0)=false:=by simp;omega
    have k3:decide (k=0)=false:=Yg (by omega)
    have k4:decide ((0:Int) < (k:Int))=true:=Yf (by omega)
    have k5:decide (0 < k)=true:=Yf (by omega)
    have HS:=Yw (OK.out.sca hk0 x (Zy Hs_x.out) c (Zy Hs_c.out))
    go_wp2_with (go_at_call 143;refine (Qv _ _).mono ?_;rintro e w' ⟨rfl,rfl⟩;rw [HS.out])
    all_goals
     have hx:=Hx.out
     first
     | (go_roundw
        case rel=>exact ⟨i+1,by omega,by go_num,(by repeat' first|exact Yl _|assumption|apply Yk|apply Yj|apply Yi|(refine Yh ?_ (by assumption)))⟩
        case measure=>(simp [intOf];omega))
     | (go_ret;exact ⟨rfl,X0.out.trans (Hx1.out.trans (Hza.out.trans (by repeat' first|exact Yl _|assumption|apply Yk|apply Yj|apply Yi|(refine Yh ?_ (by assumption)))))⟩)
   have hd_i:decide ((i:Int) < (n_x:Int))=false:=Yg (by omega)
   have hlj:=Hlj.out
   have hx:=Hw.out
   go_wp2_with fail
   go_roundw
   case rel=>exact ⟨j+1,by omega,by go_num,(by repeat' first|exact Yl _|assumption|apply Yk|apply Yj|apply Yi|(refine Yh ?_ (by assumption)))⟩
   case measure=>(simp [intOf];omega)
  have hd_j:decide ((j:Int) < (m:Int))=false:=Yg (by omega)
  have hlt2:=Hlt.out
  go_wp2_with fail
  all_goals
   have hx:=Hx.out
   first
   | (go_roundw
      case rel=>exact ⟨k+1,by omega,by go_num,(by repeat' first|exact Yl _|assumption|apply Yk|apply Yj|apply Yi|(refine Yh ?_ (by assumption)))⟩
      case measure=>(simp [intOf];omega))
   | (go_ret;exact ⟨rfl,X0.out.trans (Hx1.out.trans (by repeat' first|exact Yl _|assumption|apply Yk|apply Yj|apply Yi|(refine Yh ?_ (by assumption))))⟩)
 have hd_k:decide ((k:Int) < (4:Int))=false:=Yg (by omega)
 go_wp2_with fail
 all_goals
  have hx:=Hx.out
  first
  | (go_roundw
     case rel=>exact ⟨k+1,by omega,by go_num,(by repeat' first|exact Yl _|assumption|apply Yk|apply Yj|apply Yi|(refine Yh ?_ (by assumption)))⟩
     case measure=>(simp [intOf];omega))
  | (go_ret;exact ⟨rfl,X0.out.trans (Hx1.out.trans (by repeat' first|exact Yl _|assumption|apply Yk|apply Yj|apply Yi|(refine Yh ?_ (by assumption))))⟩)
theorem Mr {fn:Func} {t u v x:Tmp} (h:fn.results = #[.tmp t,.tmp u,.tmp v,.tmp x]) (tmps:Array Value) (P:Program) (w:World) :
 (results fn tmps).run P w=.ok (.tuple #[tmps.getD t undef,tmps.getD u undef,tmps.getD v undef,tmps.getD x undef]) w:=by
 simp [results,h]
theorem Ww (w:World) (t:TypeId) (zs:List Int) (n:Nat) (hn:zs.length=n) (cs:Array Value) (hcs:cs=(zs.map (Value.int .i64)).toArray) (h18:n≤1000):RdE Xe (w.alloc (.cells cs t)) (fun k=>w.heap.size≤k) (.slice (some ⟨w.heap.size,0,none⟩) n n) zs:=by
 subst hn hcs
 have h1:(w.alloc (.cells (zs.map (Value.int .i64)).toArray t)).heap[w.heap.size]?=some (.cells (zs.map (Value.int .i64)).toArray t):=heap_alloc_new w _
 show Rd _ _ 1 _ _ (zs.map (Value.int .i64))
 refine ⟨by simp,_,_,rfl,Yo _,by unfold maxLen;omega,fun _=>⟨_,_,rfl,Yo _,(Array.getElem?_eq_some_iff.1 h1).1,fun j u hu=>?_⟩⟩
 simp only [World.cell?,h1]
 rw [Nat.zero_add,← hu]
 simp
theorem Nl (c:Int):Gs c=true↔44032≤c∧c≤55203:=by simp [Gs]
def Ec (c:Int):Int :=
 if 4352≤c∧c≤4370 then 1 else if 4449≤c∧c≤4469 then 2 else if 4520≤c∧c≤4546 then 3 else if Gs c=false then 0 else if (c - 44032) % 28=0 then 4 else 5
theorem Ga (c:Int) (w:World):Calls Tryz.prog 262 #[.int .i64 c] w fun e w'=>e=.returned (.int .i64 (Ec c))∧w=w':=by
 go_enter Tryz.func262,Tryz.ntmps262
 cases hs:Gs c
 ·have Hs:=Yw hs
  go_wp2_with (go_at_call 113;refine (Ql _ _).mono ?_;rintro e w' ⟨rfl,rfl⟩;rw [hs])
  all_goals
   go_ret
   refine ⟨Nz ?_,rfl⟩
   unfold Ec
   rw [Hs.out]
   simp
   try (repeat' split)
   all_goals (simp at *;try omega)
 obtain ⟨hc1,hc2⟩:=(Nl c).1 hs
 have Hs:=Yw hs
 go_wp2_with (go_at_call 113;refine (Ql _ _).mono ?_;rintro e w' ⟨rfl,rfl⟩;rw [hs])
 all_goals
  go_ret
  refine ⟨Nz ?_,rfl⟩
  unfold Ec
  rw [Hs.out]
  simp
  try (repeat' split)
  all_goals (simp at *;try omega)
def Fb (c:Int):Value:=if Gs c=true then .tuple #[.int .i64 ((c - 44032) / 588),.int .i64 ((c - 44032) / 28 % 21),.int .i64 ((c - 44032) % 28),.bool true] else .tuple #[.int .i64 0,.int .i64 0,.int .i64 0,.bool false]
theorem Zs4 (c:Int) (w:World) (hs:Gs c=false):Calls Tryz.prog 270 #[.int .i64 c] w fun e w'=>e=.returned (Fb c)∧w=w':=by
 have Hv:=Yw (show Fb c=.tuple #[.int .i64 0,.int .i64 0,.int .i64 0,.bool false] by unfold Fb;rw [if_neg (by rw [hs];simp)])
 go_enter Tryz.func270,Tryz.ntmps270
 go_wp2_with fail
 go_loopw [6] (fun o wr=>∃ i:Nat,i≤19∧o=.int .i64 (i:Int)∧w=wr) (fun o _=>19 - (intOf o).toNat)
 case atStart=>exact ⟨0,by omega,rfl,rfl⟩
 obtain ⟨i,hi,rfl,rfl⟩:=hrel
 by_cases hlt:i < 19
 ·have hd_i:decide ((i:Int) < (19:Int))=true:=Yf (by omega)
  have i0_i:(0:Int)≤(i:Int):=by omega
  have i1_i:(i:Int) < (19:Int):=by omega
  go_wp2_with fail
  go_loopw [7] (fun o wr=>∃ j:Nat,j≤21∧o=.int .i64 (j:Int)∧w=wr) (fun o _=>21 - (intOf o).toNat)
  case atStart=>exact ⟨0,by omega,rfl,rfl⟩
  obtain ⟨j,hj,rfl,rfl⟩:=hrel
  by_cases hlj:j < 21
  ·have hd_j:decide ((j:Int) < (21:Int))=true:=Yf (by omega)
   have i0_j:(0:Int)≤(j:Int):=by omega
   have i1_j:(j:Int) < (21:Int):=by omega
   go_wp2_with (go_at_call 113;refine (Ql _ _).mono ?_;rintro e w' ⟨rfl,rfl⟩;rw [hs])
   go_roundw
   case rel=>exact ⟨j+1,by omega,by go_num,by first|rfl|trivial⟩
   case measure=>(simp [intOf];omega)
  have hd_j:decide ((j:Int) < (21:Int))=false:=Yg (by omega)
  go_wp2_with fail
  go_roundw
  case rel=>exact ⟨i+1,by omega,by go_num,by first|rfl|trivial⟩
  case measure=>(simp [intOf];omega)
 have hd_i:decide ((i:Int) < (19:Int))=false:=Yg (by omega)
 go_wp2_with fail
 (((try simp only [Exit.inBlock,Exit.then]);refine Yt (Mr rfl _ _ _) rfl ?_))
 exact ⟨by rw [Hv.out];rfl,rfl⟩
theorem Zwr (c:Int) (w:World) (hs:Gs c=true):Calls Tryz.prog 270 #[.int .i64 c] w fun e w'=>e=.returned (Fb c)∧w=w':=by
 have Hv:=Yw (show Fb c=.tuple #[.int .i64 ((c - 44032) / 588),.int .i64 ((c - 44032) / 28 % 21),.int .i64 ((c - 44032) % 28),.bool true] by unfold Fb;rw [if_pos hs])
 obtain ⟨hc1,hc2⟩:=(Nl c).1 hs
 go_enter Tryz.func270,Tryz.ntmps270
 go_wp2_with fail
 go_loopw [6] (fun o wr=>∃ i:Nat,i≤19∧o=.int .i64 (i:Int)∧Aside (21 * (i:Int)≤(c - 44032) / 28)∧w=wr) (fun o _=>19 - (intOf o).toNat)
 case atStart=>exact ⟨0,by omega,rfl,by show _≤_;omega,rfl⟩
 obtain ⟨i,hi,rfl,hq,rfl⟩:=hrel
 have Hq:=Yw hq.out
 clear hq
 by_cases hlt:i < 19
 ·have hd_i:decide ((i:Int) < (19:Int))=true:=Yf (by omega)
  have i0_i:(0:Int)≤(i:Int):=by omega
  have i1_i:(i:Int) < (19:Int):=by omega
  go_wp2_with fail
  go_loopw [7] (fun o wr=>∃ j:Nat,j≤21∧o=.int .i64 (j:Int)∧Aside (21 * (i:Int)+j≤(c - 44032) / 28)∧w=wr) (fun o _=>21 - (intOf o).toNat)
  case atStart=>exact ⟨0,by omega,rfl,by have:=Hq.out;show _≤_;omega,rfl⟩
  obtain ⟨j,hj,rfl,hqj,rfl⟩:=hrel
  have Hqj:=Yw hqj.out
  clear hqj
  by_cases hlj:j < 21
  ·have hd_j:decide ((j:Int) < (21:Int))=true:=Yf (by omega)
   have i0_j:(0:Int)≤(j:Int):=by omega
   have i1_j:(j:Int) < (21:Int):=by omega
   have hqj:=Hqj.out
   go_wp2_with (go_at_call 113;refine (Ql _ _).mono ?_;rintro e w' ⟨rfl,rfl⟩;rw [hs])
   all_goals
    first
    | (go_roundw
       case rel=>exact ⟨j+1,by omega,by go_num,by show _≤_;omega,by first|rfl|trivial⟩
       case measure=>(simp [intOf];omega))
    | ((((try simp only [Exit.inBlock,Exit.then]);refine Yt (Mr rfl _ _ _) rfl ?_))
       refine ⟨?_,rfl⟩
       rw [Hv.out,show (c - 44032) / 588=(i:Int) by omega,show (c - 44032) / 28 % 21=(j:Int) by omega,show (c - 44032) % 28=c - 44032 - (21 * (i:Int)+j) * 28 by omega]
       rfl)
  have hd_j:decide ((j:Int) < (21:Int))=false:=Yg (by omega)
  go_wp2_with fail
  go_roundw
  case rel=>exact ⟨i+1,by omega,by go_num,by have:=Hqj.out;show _≤_;omega,by first|rfl|trivial⟩
  case measure=>(simp [intOf];omega)
 exfalso
 have:=Hq.out
 omega
theorem F9 (c:Int) (w:World):Calls Tryz.prog 270 #[.int .i64 c] w fun e w'=>e=.returned (Fb c)∧w=w':=by
 cases hs:Gs c
 ·exact Zs4 c w hs
 exact Zwr c w hs
def Bu (c:Int):List Int:=if Gs c=true then (if (c - 44032) % 28=0 then [4352+(c - 44032) / 588,4449+(c - 44032) / 28 % 21] else [4352+(c - 44032) / 588,4449+(c - 44032) / 28 % 21,4519+(c - 44032) % 28]) else []
def Zt4 (c:Int) (w:World) (e:Ending) (w':World):Prop:=∃ v,e=.returned v∧RdE Xe w' (fun k=>w.heap.size≤k) v (Bu c)∧Ext w w'
theorem Ir (c:Int) (w:World):Calls Tryz.prog 261 #[.int .i64 c] w (Zt4 c w):=by
 go_enter Tryz.func261,Tryz.ntmps261
 cases hs:Gs c
 ·have hv:Fb c=.tuple #[.int .i64 0,.int .i64 0,.int .i64 0,.bool false]:=by unfold Fb;rw [if_neg (by rw [hs];simp)]
  have Hl:=Yw (show Bu c=[] by unfold Bu;rw [if_neg (by rw [hs];simp)])
  go_wp2_with (go_at_call 270;refine (F9 _ _).mono ?_;rintro e w' ⟨rfl,rfl⟩;rw [hv])
  go_ret
  refine ⟨.slice none 0 0,rfl,?_,Yl _⟩
  rw [Hl.out]
  exact Xz.nil _ _
 obtain ⟨hc1,hc2⟩:=(Nl c).1 hs
 have hv:Fb c=.tuple #[.int .i64 ((c - 44032) / 588),.int .i64 ((c - 44032) / 28 % 21),.int .i64 ((c - 44032) % 28),.bool true]:=by unfold Fb;rw [if_pos hs]
 have Hsy:=Yw hs
 by_cases h0:(c - 44032) % 28=0
 ·have Hl:=Yw (show Bu c=[4352+(c - 44032) / 588,4449+(c - 44032) / 28 % 21] by unfold Bu;rw [if_pos Hsy.out,if_pos h0])
  have q1:((c - 44032) % 28 == 0)=true:=by simpa using h0
  go_wp2_with (go_at_call 270;refine (F9 _ _).mono ?_;rintro e w' ⟨rfl,rfl⟩;rw [hv])
  go_ret
  refine ⟨.slice (some ⟨w.heap.size,0,none⟩) 2 2,rfl,?_,(Yl w).alloc _⟩
  rw [Hl.out]
  exact Ww w _ _ 2 rfl _ rfl (by omega)
 have Hl:=Yw (show Bu c=[4352+(c - 44032) / 588,4449+(c - 44032) / 28 % 21,4519+(c - 44032) % 28] by unfold Bu;rw [if_pos Hsy.out,if_neg h0])
 have q1:((c - 44032) % 28 == 0)=false:=by simpa using h0
 go_wp2_with (go_at_call 270;refine (F9 _ _).mono ?_;rintro e w' ⟨rfl,rfl⟩;rw [hv])
 go_ret
 refine ⟨.slice (some ⟨w.heap.size,0,none⟩) 3 3,rfl,?_,(Yl w).alloc _⟩
 rw [Hl.out]
 exact Ww w _ _ 3 rfl _ rfl (by omega)
def Sz (T:Tbl) (c:Int):List Int:=if Bu c≠[] then Bu c else (V6 T.dec 257 [c]).getD []
theorem Zvy (c:Int):(Bu c).length≤3:=by
 unfold Bu
 split
 ·split<;>simp
 simp
theorem Cu (T:Tbl) (c:Int):(Sz T c).length≤18:=by
 unfold Sz
 split
 ·have:=Zvy c;omega
 cases h:V6 T.dec 257 [c] with
 | none=>simp
 | some r=>exact Mh _ _ _ _ (by simp) h
def Zpd (T:Tbl) (c:Int) (w:World) (e:Ending) (w':World):Prop:=∃ v,e=.returned v∧RdE Xe w' (fun k=>w.heap.size≤k) v (Sz T c)∧Ext w w'
theorem Zzc {S:Nat→Prop} (T:Tbl) (hf:Few T) (c:Int) (w:World) (h:Xm w S T):Calls Tryz.prog 247 #[Wc T,.int .i64 c] w (Zpd T c w):=by
 have X0:=Yw ((Yl w).alloc (Xf T))
 have H:=Yw (h.up X0.out)
 have Hb0:=Yw (Xq w T)
 clear h
 have Hf:=Yw hf
 clear hf
 go_enter Tryz.func247,Tryz.ntmps247
 by_cases h0:Bu c=[]
 ·have H0:=Yw h0
  go_wp2_with (first|(refine Xy rfl ?_)|(go_at_call 261;refine (Ir _ _).mono ?_;rintro e w1 ⟨v,rfl,hv,hx1⟩;rw [H0.out] at hv;obtain ⟨A1,C1,rfl,_,_⟩:=hv.shape)|(refine Y4 (Hb0.out.ext hx1) rfl ?_))
  cases hfull:V6 T.dec 257 [c] with
  | none =>
   have Hfull:=Yw hfull
   go_wp2_with (first|(refine Y4 (Hb0.out.ext hx1) rfl ?_)|(go_at_call 146;refine (Bs T c _ (H.out.up hx1) Hf.out).mono ?_;rintro e w5 hp;unfold Qf at hp;rw [Hfull.out] at hp;obtain ⟨rfl,hx5⟩:=hp))
   go_ret
   refine ⟨.slice none 0 0,rfl,?_,X0.out.trans (hx1.trans hx5)⟩
   rw [show Sz T c=[] by unfold Sz;rw [if_neg (fun h=>h H0.out),Hfull.out];rfl]
   exact Xz.nil _ _
  | some r =>
   have Hfull:=Yw hfull
   go_wp2_with (first|(refine Y4 (Hb0.out.ext hx1) rfl ?_)|(go_at_call 146;refine (Bs T c _ (H.out.up hx1) Hf.out).mono ?_;rintro e w5 hp;unfold Qf at hp;rw [Hfull.out] at hp;obtain ⟨v5,rfl,hv5,hx5⟩:=hp))
   go_ret
   refine ⟨v5,rfl,?_,X0.out.trans (hx1.trans hx5)⟩
   rw [show Sz T c=r by unfold Sz;rw [if_neg (fun h=>h H0.out),Hfull.out];rfl]
   exact Rd.mono hv5 fun k hk _=>Nat.le_trans X0.out.size (Nat.le_trans hx1.size hk)
 have H0:=Yw h0
 obtain ⟨n,hn⟩:∃ n,(Bu c).length=n:=⟨_,rfl⟩
 have hp:0 < n:=by rw [← hn];exact List.length_pos_iff.2 h0
 have Hn:=Yw hn
 clear hn h0
 have d1:decide ((0:Int) < (n:Int))=true:=Yf (by omega)
 have d2:decide (0 < n)=true:=Yf hp
 go_wp2_with (first|(refine Xy rfl ?_)|(go_at_call 261;refine (Ir _ _).mono ?_;rintro e w1 ⟨v,rfl,hv,hx1⟩;obtain ⟨A1,C1,rfl,_,_⟩:=hv.shape;rw [Hn.out]))
 go_ret
 refine ⟨.slice A1 n C1,rfl,?_,X0.out.trans hx1⟩
 rw [show Sz T c=Bu c from if_pos H0.out,← Hn.out]
 exact Rd.mono hv fun k hk _=>Nat.le_trans X0.out.size hk
theorem Zvj {S S':Nat→Prop} (v v':Value) (l l':List Int) (w:World) (h:Xz w S v l) (h':Xz w S' v' l'):Calls Tryz.prog 251 #[v,v'] w (Vi w):=by
 obtain ⟨A,C,rfl,hlCC,hCC⟩:=h.shape
 obtain ⟨n,hnn⟩:∃ n,(l).length=n:=⟨_,rfl⟩
 have Hnn:=Yw hnn
 have Hh:=Yw h
 unfold maxLen at hCC
 rw [hnn] at hlCC ⊢
 clear h hnn
 obtain ⟨B,D,rfl,hlCD,hCD⟩:=h'.shape
 obtain ⟨k,hnk⟩:∃ n,(l').length=n:=⟨_,rfl⟩
 have Hnk:=Yw hnk
 have Hh':=Yw h'
 unfold maxLen at hCD
 rw [hnk] at hlCD ⊢
 clear h' hnk
 go_enter Tryz.func251,Tryz.ntmps251
 by_cases hnk:n=k
 ·subst hnk
  have d0:(!((n:Int) == (n:Int)))=false:=by simp
  go_wp2_with fail
  go_loopw [13] (fun o wr=>∃ i:Nat,i≤n∧o=.int .i64 (i:Int)∧Ext w wr) (fun o _=>n - (intOf o).toNat)
  case atStart=>exact ⟨0,by omega,rfl,(by repeat' first|exact Yl _|assumption|apply Yk|apply Yj|apply Yi|(refine Yh ?_ (by assumption)))⟩
  obtain ⟨i,hi_i,rfl,hx⟩:=hrel
  have Hx:=Yw hx
  clear hx
  by_cases hlt:i < n
  ·have hd_i:decide ((i:Int) < (n:Int))=true:=Yf (by omega)
   have i0_i:(0:Int)≤(i:Int):=by omega
   have i1_i:(i:Int) < (n:Int):=by omega
   obtain ⟨x,hs_x⟩:∃ s,(l)[i]?=some s:=⟨(l)[i]'(by have:=Hnn.out;omega),Zz _⟩
   obtain ⟨g_x,o_x,c_x,hvv,_,_,_,hgl_x,a0_x⟩:=(Hh.out.ext Hx.out).get hs_x
   simp only [Ye] at hvv
   obtain ⟨rfl,-,rfl⟩:=hvv
   have Hs_x:=Yw hs_x
   clear hs_x
   obtain ⟨y,hs_y⟩:∃ s,(l')[i]?=some s:=⟨(l')[i]'(by have:=Hnk.out;omega),Zz _⟩
   obtain ⟨g_y,o_y,c_y,hvv,_,_,_,hgl_y,a0_y⟩:=(Hh'.out.ext Hx.out).get hs_y
   simp only [Ye] at hvv
   obtain ⟨rfl,-,rfl⟩:=hvv
   have Hs_y:=Yw hs_y
   clear hs_y
   have m0:=lat a0_x
   have m1:=lat a0_y
   go_wp2_with fail
   refine Y0 (by kernel_rfl) (by kernel_rfl) ?_
   repeat ((with_reducible refine Yv ?_);intro K hK;go_simp;(with_reducible refine hK _ ?_);clear hK K)
   (with_reducible refine Yu ?_)
   intro w2 hy
   go_wp2_with fail
   all_goals
    have hx:=Hx.out
    first
    | (go_roundw
       case rel=>exact ⟨i+1,by omega,by go_num,(by repeat' first|exact Yl _|assumption|apply Yk|apply Yj|apply Yi|(refine Yh ?_ (by assumption)))⟩
       case measure=>(simp [intOf];omega))
    | (go_ret;exact ⟨_,rfl,(by repeat' first|exact Yl _|assumption|apply Yk|apply Yj|apply Yi|(refine Yh ?_ (by assumption)))⟩)
  have hd_i:decide ((i:Int) < (n:Int))=false:=Yg (by omega)
  go_wp2_with fail
  all_goals
   have hx:=Hx.out
   first
   | (go_roundw
      case rel=>exact ⟨i+1,by omega,by go_num,(by repeat' first|exact Yl _|assumption|apply Yk|apply Yj|apply Yi|(refine Yh ?_ (by assumption)))⟩
      case measure=>(simp [intOf];omega))
   | (go_ret;exact ⟨_,rfl,(by repeat' first|exact Yl _|assumption|apply Yk|apply Yj|apply Yi|(refine Yh ?_ (by assumption)))⟩)
 have d0:(!((n:Int) == (k:Int)))=true:=by simp;omega
 have d1:((n:Int) != (k:Int))=true:=d0
 have d2:(!(n == k))=true:=by simp;omega
 have d3:(n != k)=true:=d2
 go_wp2_with fail
 all_goals (go_ret;exact ⟨_,rfl,(by repeat' first|exact Yl _|assumption|apply Yk|apply Yj|apply Yi|(refine Yh ?_ (by assumption)))⟩)
end Go.Proofs.YtnbclgbicnpmnaaGreat
