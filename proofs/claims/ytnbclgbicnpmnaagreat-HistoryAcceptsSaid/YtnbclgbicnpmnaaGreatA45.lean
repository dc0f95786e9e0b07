/- Lemmas of this claim: Ne, Nf. Conditions: as named. -/
import Derived.Test.YtnbclgbicnpmnaaGreatA19
import Derived.Test.YtnbclgbicnpmnaaGreatA22
import Derived.Test.YtnbclgbicnpmnaaGreatA26
namespace Go.Proofs.YtnbclgbicnpmnaaGreat
open Go.RowKit Go.Sort
set_option maxHeartbeats 0
set_option maxRecDepth 100000
set_option linter.all false
section
def Lj(n:Nat):Array Value:=madeCells #[.slice none 0 0] n
theorem N0(n:Nat):(Lj n).toList=(List.replicate n (⟨none,0,0⟩:Sl)).map Sl.v:=by
 unfold Lj madeCells;apply Zid
 ·simp
 intro i h1 h2;simp[Nat.mod_one,Sl.v]
theorem Zrn(n:Nat)(hn:n≤4096)(w:World):(Instr.makeSlice 143 (.int .i64 (n:Int)) (.int .i64 (n:Int))).run Tryz.prog w=.ok (.slice (some ⟨w.heap.size,0,none⟩) n n) (w.alloc (.cells (Lj n) 24)):=by
 obtain⟨i0,hi,hz0,hz1,hz2⟩:=Zm7 Ef;have h:=run_make w 143 24 i0 _ Zq8 hi hz0 .i64 .i64 n n (by omega) (by omega) (by rw[hz2];omega) (by omega);simp only[Zin,hz1,Zii]at h;exact h
theorem Zod(w:World)(n:Nat)(hn:n≤4096):Own ssE (w.alloc (.cells (Lj n) 24)) w.heap.size (.slice (some ⟨w.heap.size,0,none⟩) n n) (List.replicate n ⟨none,0,0⟩):=by
 refine⟨by rw[ssE.len],.inr ⟨w.heap.size,n,Lj n,by rw[Z2],Yn _,Zlo w _,by rw[Z2];exact Yn _,by unfold maxLen;omega,?_,?_⟩⟩
 ·rw[← Zjl,N0];simp[ssE]
 rw[N0];show _=(List.replicate n (⟨none,0,0⟩:Sl)).map Sl.v;rw[Zm (by simp[ssE])]
structure Mj(w0 w:World)(T:Tbl)(b xb gb:Nat)(cp:Int)(n k j:Nat)(mv lv:Value)(ms:List (Nat×Vt)):Prop where
 ext:Ext w0 w
 cells:Xo w b [.pointer (some ⟨xb,0,none⟩),mv,.slice (some ⟨gb,0,none⟩) n n,.slice none 0 0,lv,.int .i64 0]
 box:Own ssE w w0.heap.size (.slice (some ⟨gb,0,none⟩) n n) (List.replicate n ⟨none,0,0⟩)
 shr:Xo w xb (Znk (Zwu n cp))
 mOwn:Own Zr1 w gb mv (ms.map Prod.fst)
 lOwn:Own Wi w gb lv (List.replicate j (-1))
 len:ms.length=k
 mach:∀ (i:Nat) p,ms[i]?=some p→p.2=O5 i∧Xo w p.1 (machC T p.2)
 ge:∀ q∈b::xb::gb::ms.map Prod.fst,w0.heap.size≤q
 dis:(b::xb::gb::ms.map Prod.fst).Nodup
 dm:∀ q,mv.ownBlock=some q→q ∉ b::xb::gb::ms.map Prod.fst
 dl:∀ q,lv.ownBlock=some q→q ∉ b::xb::gb::ms.map Prod.fst∧mv.ownBlock≠some q
section
variable {w0 w w2 w5:World} {T:Tbl} {b xb gb n k j:Nat} {cp:Int} {mv lv:Value} {ms:List (Nat×Vt)}
theorem Mj.lt(h:Mj w0 w T b xb gb cp n k j mv lv ms):∀ q∈b::xb::gb::ms.map Prod.fst,q<w.heap.size:=by
 intro q hq;simp only[Zg,Zlw]at hq;rcases hq with rfl|rfl|rfl | ⟨p,hp,rfl⟩
 ·exact h.cells.lt
 ·exact h.shr.lt
 ·exact h.box.blk.2
 obtain⟨i,hi⟩:=Zlr hp;exact(h.mach i p hi).2.lt
theorem Mj.chg{S:Nat→Prop}(h:Mj w0 w T b xb gb cp n k j mv lv ms)(x:Ext w0 w2)(c:Chg S w w2)(hS:∀ q∈b::xb::gb::ms.map Prod.fst,¬ S q)(hm:Own Zr1 w2 gb mv (ms.map Prod.fst))(hl:Own Wi w2 gb lv (List.replicate j (-1))):Mj w0 w2 T b xb gb cp n k j mv lv ms where
 ext:=x
 cells:=h.cells.chg c (hS b (by simp))
 box:=h.box.chg c (by intro q hq e;simp only[Value.ownBlock,Yd]at hq;exact hS gb (by simp) (hq▸e))
 shr:=h.shr.chg c (hS xb (by simp))
 mOwn:=hm
 lOwn:=hl
 len:=h.len
 mach i p hp:=⟨(h.mach i p hp).1,(h.mach i p hp).2.chg c (hS _ (by simp only[Zg,Zlw];exact .inr (.inr (.inr ⟨p,Zy hp,rfl⟩))))⟩
 ge:=h.ge
 dis:=h.dis
 dm:=h.dm
 dl:=h.dl
theorem Mj.up(h:Mj w0 w T b xb gb cp n k j mv lv ms)(x:Ext w w2):Mj w0 w2 T b xb gb cp n k j mv lv ms :=
 h.chg (h.ext.trans x) (x.chg fun _=>False) (fun _ _ e=>e) (h.mOwn.ext x) (h.lOwn.ext x)
theorem Mj.bne(h:Mj w0 w T b xb gb cp n k j mv lv ms):b≠xb∧b≠gb∧(∀ p∈ms,b≠p.1):=by
 have:=(Zlm.1 h.dis).1;simp only[Zg,Zlw,not_or,not_exists,not_and]at this;exact⟨this.1,this.2.1,fun p hp e=>this.2.2 p hp e.symm⟩
theorem Mj.growM{mb n' c:Nat}{A:Option Addr}{o:Obj}(h:Mj w0 w T b xb gb cp n k j mv lv ms)(x:Ext w w2)(hb:Xo w2 mb (machC T (O5 k)))(hge:w.heap.size≤mb)(hg:Grew Zr1 (w2.alloc o) gb mv (ms.map Prod.fst++[mb]) A n' c w5) :
 Mj w0 (w5.setCell ⟨b,1,none⟩ (.slice A n' c)) T b xb gb cp n (k+1) j (.slice A n' c) lv (ms++[(mb,O5 k)]):=by
 have h2:=h.up x;have x2:=(Yl w2).alloc o;have hlt:=h.lt;have hlt2:=h2.lt;have hsz:=x.size;have hat:∀ q,(Value.slice A n' c).ownBlock=some q→mv.ownBlock=some q∨q=(w2.alloc o).heap.size:=fun q hq=>by
  rcases hg.at_ with h1|h1
  ·exact .inl (by rw[← h1];exact hq)
  rw[hq]at h1;exact .inr (Zm6 h1)
 have hS:∀ q∈b::xb::gb::ms.map Prod.fst,¬ mv.ownBlock=some q:=fun q hq e=>h.dm q e hq
 have hmbS:¬ mv.ownBlock=some mb:=fun e=>by have:=(h.mOwn.lt mb e).2;omega
 have x5:Ext w0 w5:=hg.ext w0 ((h2.ext).trans x2) (h.ge gb (by simp));have l5:Own Wi w5 gb lv (List.replicate j (-1)):=(h2.lOwn.ext x2).chg hg.chg (fun q hq e=>(h.dl q hq).2 e);have b5:=(h2.cells.ext x2).chg hg.chg (hS b (by simp));have bge:=h.ge b (by simp);obtain⟨n1,n2,n3⟩:=h.bne;have hmb2:=hb.lt;have hnew:∀ q,q∈b::xb::gb::(ms++[(mb,O5 k)]).map Prod.fst↔q∈b::xb::gb::ms.map Prod.fst∨q=mb:=fun q=>by simp[or_assoc]
 have c6:Chg (· = b) w5 (w5.setCell ⟨b,1,none⟩ (.slice A n' c)):=(Chg.refl (· = b) w5).setCell (p:=⟨b,1,none⟩) (.inl rfl) _;refine⟨x5.chg_new c6 (fun i e=>by omega),?_,?_,?_,?_,?_,?_,?_,?_,?_,?_,?_⟩
 ·exact b5.set (j:=1) (by simp) (.slice A n' c)
 ·exact((h2.box.ext x2).chg hg.chg (fun q hq e=>by simp only[Value.ownBlock,Yd]at hq;exact hS gb (by simp) (hq▸e))).far (fun e=>by simp only[Value.ownBlock,Yd]at e;exact n2 e.symm) _
 ·exact((h2.shr.ext x2).chg hg.chg (hS xb (by simp))).far n1.symm _
 ·rw[Yy];exact hg.own.far (fun e=>by
   rcases hat b e with h1|h1
   ·exact hS b (by simp) h1
   have:=hlt2 b (by simp);simp at h1;omega) _
 ·exact l5.far (fun e=>(h.dl b e).1 (by simp)) _
 ·rw[Zs,h.len];rfl
 ·intro i p hp;by_cases hi:i<ms.length
  ·rw[Ze hi]at hp;have hmem:p.1∈b::xb::gb::ms.map Prod.fst:=by simp only[Zg,Zlw];exact .inr (.inr (.inr ⟨p,Zy hp,rfl⟩))
   exact⟨(h.mach i p hp).1,(((h2.mach i p hp).2.ext x2).chg hg.chg (hS _ hmem)).far (n3 p (Zy hp)).symm _⟩
  have hil:=(Zr.1 hp).1;rw[Zs,Zkk]at hil;obtain rfl:i=ms.length:=by omega
  rw[Zd (Yn _),Nat.sub_self]at hp;obtain rfl:(mb,O5 k)=p:=by simpa using hp
  refine⟨by rw[h.len],((hb.ext x2).chg hg.chg hmbS).far (fun e=>?_) _⟩;have:=hlt b (by simp);omega
 ·intro q hq;rcases(hnew q).1 hq with hq|rfl
  ·exact h.ge q hq
  have:=h.ext.size;omega
 ·have hn:mb ∉ b::xb::gb::ms.map Prod.fst:=fun hm=>by have:=hlt mb hm;omega
  rw[Yy,show b::xb::gb::(ms.map Prod.fst++[(mb,O5 k)].map Prod.fst)=(b::xb::gb::ms.map Prod.fst)++[mb] from rfl,List.nodup_append];exact⟨h.dis,by simp,fun q hq y hy e=>hn (by rw[Zi.1 hy]at e;exact e▸hq)⟩
 ·intro q hq hm;rcases(hnew q).1 hm with hm|rfl
  ·rcases hat q hq with h1|h1
   ·exact h.dm q h1 hm
   have:=hlt2 q hm;simp at h1;omega
  rcases hat q hq with h1|h1
  ·exact hmbS h1
  simp at h1;omega
 intro q hq;refine⟨fun hm=>?_,fun e=>?_⟩
 ·rcases(hnew q).1 hm with hm|rfl
  ·exact(h.dl q hq).1 hm
  have:=(h.lOwn.lt q hq).2;omega
 rcases hat q e with h1|h1
 ·exact(h.dl q hq).2 h1
 have:=(h2.lOwn.lt q hq).2;simp at h1;omega
theorem Mj.growL{n' c:Nat}{A:Option Addr}{o:Obj}(h:Mj w0 w T b xb gb cp n k j mv lv ms)(hg:Grew Wi (w.alloc o) gb lv (List.replicate j (-1)++[-1]) A n' c w5) :
 Mj w0 (w5.setCell ⟨b,4,none⟩ (.slice A n' c)) T b xb gb cp n k (j+1) mv (.slice A n' c) ms:=by
 have x2:=(Yl w).alloc o;have hlt:=h.lt;have hat:∀ q,(Value.slice A n' c).ownBlock=some q→lv.ownBlock=some q∨q=(w.alloc o).heap.size:=fun q hq=>by
  rcases hg.at_ with h1|h1
  ·exact .inl (by rw[← h1];exact hq)
  rw[hq]at h1;exact .inr (Zm6 h1)
 have hS:∀ q∈b::xb::gb::ms.map Prod.fst,¬ lv.ownBlock=some q:=fun q hq e=>(h.dl q e).1 hq
 have x5:Ext w0 w5:=hg.ext w0 (h.ext.trans x2) (h.ge gb (by simp));have m5:Own Zr1 w5 gb mv (ms.map Prod.fst):=(h.mOwn.ext x2).chg hg.chg (fun q hq e=>(h.dl q e).2 hq);have bge:=h.ge b (by simp);obtain⟨n1,n2,n3⟩:=h.bne;have c6:Chg (· = b) w5 (w5.setCell ⟨b,4,none⟩ (.slice A n' c)):=(Chg.refl (· = b) w5).setCell (p:=⟨b,4,none⟩) (.inl rfl) _;have erep:List.replicate j (-1:Int)++[-1]=List.replicate (j+1) (-1):=by rw[List.replicate_succ']
 refine⟨x5.chg_new c6 (fun i e=>by omega),?_,?_,?_,?_,?_,h.len,?_,h.ge,h.dis,h.dm,?_⟩
 ·exact((h.cells.ext x2).chg hg.chg (hS b (by simp))).set (j:=4) (by simp) (.slice A n' c)
 ·exact((h.box.ext x2).chg hg.chg (fun q hq e=>by simp only[Value.ownBlock,Yd]at hq;exact hS gb (by simp) (hq▸e))).far (fun e=>by simp only[Value.ownBlock,Yd]at e;exact n2 e.symm) _
 ·exact((h.shr.ext x2).chg hg.chg (hS xb (by simp))).far n1.symm _
 ·exact m5.far (fun e=>h.dm b e (by simp)) _
 ·rw[← erep];exact hg.own.far (fun e=>by
   rcases hat b e with h1|h1
   ·exact hS b (by simp) h1
   have:=hlt b (by simp);simp at h1;omega) _
 ·intro i p hp;have hmem:p.1∈b::xb::gb::ms.map Prod.fst:=by simp only[Zg,Zlw];exact .inr (.inr (.inr ⟨p,Zy hp,rfl⟩))
  exact⟨(h.mach i p hp).1,(((h.mach i p hp).2.ext x2).chg hg.chg (hS _ hmem)).far (n3 p (Zy hp)).symm _⟩
 intro q hq;rcases hat q hq with h1|h1
 ·exact h.dl q h1
 exact⟨fun hm=>by have:=hlt q hm;simp at h1;omega,fun e=>by have:=(h.mOwn.lt q e).2;simp at h1;omega⟩
theorem Jm.chgO{S:Nat→Prop}{w w':World}{b:Nat}{T:Tbl}(h:Jm w b T)(c:Chg S w w')(hb:¬ S b):Jm w' b T :=
 ⟨Zm1 h.lt c.size,fun k hk=>(c.cell (p:=⟨b,k,none⟩) h.lt hb).trans (h.at_ k hk)⟩
theorem Zou{k:Nat}(hk:k<64):MOk (O5 k) :=
 ⟨by simp[O5],by simp[O5],by simp[O5],⟨by simp[O5];omega,KS.nil,Zl7 _⟩,fun h=>by simp[O5]at h,fun h=>by simp[O5]at h,fun h=>by simp[O5]at h,fun h=>by simp[O5]at h,fun h=>by simp[O5]at h⟩
theorem Mj.desk{S:Nat→Prop}(h:Mj w0 w T b xb gb cp n n n mv lv ms)(hn:0<n)(hn2:n≤64)(hT:Xl w0 S T):∃ (d:Dk) (U:Nat→Prop),Ww w U T b w0.heap.size d∧d.ms=ms∧d.x=Zwu n cp∧d.n=0∧d.t=0∧d.ops=[]∧d.last=List.replicate n (-1)∧d.bs_=List.replicate n []:=by
 obtain⟨gl,cl,rfl,hl1,hl2,hl3,hl4⟩:=h.lOwn.some_ (by rw[Z2];exact hn);have hdl:=h.dl gl rfl;have hlt:=h.lt;have hnd:=Zlm.1 h.dis;refine⟨{xb:=xb,x:=Zwu n cp,mv:=mv,ms:=ms,gb:=gb,cb:=n,bx:=List.replicate n ⟨none,0,0⟩,bs_:=List.replicate n [],ov:=.slice none 0 0,ops:=[],gl:=gl,cl:=cl,last:=List.replicate n (-1),t:=0,n:=0},fun q=>q∈b::xb::gb::gl::ms.map Prod.fst,?_,rfl,rfl,rfl,rfl,rfl,rfl,rfl⟩;have hU:∀ q,q∈b::xb::gb::gl::ms.map Prod.fst↔q∈b::xb::gb::ms.map Prod.fst∨q=gl:=fun q=>by
  simp only[Zg];constructor
  ·rintro(h1|h1|h1|h1|h1)
   ·exact .inl (.inl h1)
   ·exact .inl (.inr (.inl h1))
   ·exact .inl (.inr (.inr (.inl h1)))
   ·exact .inr h1
   exact .inl (.inr (.inr (.inr h1)))
  rintro((h1|h1|h1|h1)|h1)
  ·exact .inl h1
  ·exact .inr (.inl h1)
  ·exact .inr (.inr (.inl h1))
  ·exact .inr (.inr (.inr (.inr h1)))
  exact .inr (.inr (.inr (.inl h1)))
 have hgg:=h.ge gb (by simp);have hge:∀ q,q∈b::xb::gb::gl::ms.map Prod.fst→w0.heap.size≤q∧q<w.heap.size:=fun q hq=>by
  rcases(hU q).1 hq with hq|rfl
  ·exact⟨h.ge q hq,hlt q hq⟩
  exact⟨by omega,hl2⟩
 exact {
  cells:=by have:=h.cells;simp only[Z2]at this;simpa[Zyj,Dk.bv,Dk.lv]using this
  hU:=hge
  ub:=by simp,ux:=by simp,ugb:=by simp,ugl:=by simp
  um:=fun p hp=>by simp only[Zg,Zlw];exact .inr (.inr (.inr (.inr ⟨p,hp,rfl⟩)))
  uo:=fun k hk=>by simp[Value.ownBlock]at hk
  dis:=by
   have d0:=Zlm.1 h.dis;have d1:=Zlm.1 d0.2;have d2:=Zlm.1 d1.2;have hg:=hdl.1;simp only[Zg,not_or]at d0 d1 d2 hg;simp only[Zlm,Zg,not_or];exact⟨⟨d0.1.1,d0.1.2.1,fun e=>hg.1 e.symm,d0.1.2.2⟩,⟨d1.1.1,fun e=>hg.2.1 e.symm,d1.1.2⟩,⟨fun e=>hg.2.2.1 e.symm,d2.1⟩,hg.2.2.2,d2.2⟩
  dio:=fun k hk=>by simp[Value.ownBlock]at hk
  tbl:=Et ((Et (S':=fun k=>k<w0.heap.size) hT fun k _ hl=>hl).up h.ext) (fun k hk _ hu=>by have:=(hge k hu).1;omega)
  shr:=⟨h.shr,Rd.nil _ _ _,Rd.nil _ _ _⟩
  xok:=⟨by simp[Zwu],by simp[Zwu],by simp[Zwu],by simp[Zwu],by simp[Zwu],by simp[Zwu]⟩
  ptr:=Rd.of_own h.mOwn (fun q hq hu=>by
   rcases(hU q).1 hu with hu|rfl
   ·exact h.dm q hq hu
   exact hdl.2 hq)
  mach:=fun p hp=>by
   obtain⟨i,hi⟩:=Zlr hp;obtain⟨h1,h2⟩:=h.mach i p hi;have hil:=(Zr.1 hi).1;rw[h.len]at hil;obtain⟨p1,p2⟩:=p;simp only at h1 h2⊢;subst h1;exact⟨⟨h2,Rd.nil _ _ _,Rd.nil _ _ _⟩,Zou (by omega)⟩
  box:=by have:=h.box;simpa[Dk.bv]using this
  boxes:=fun j s l h1 h2=>by
   have e1:=Zy h1;have e2:=Zy h2;rw[Zim e1,Zim e2];exact⟨Rd.nil _ _ _,by simp⟩
  lb:=by simp[h.len]
  lbs:=by simp[h.len]
  ll:=by simp[h.len]
  lm:=by simp[h.len];exact hn2
  own:=Own.nil _ _ _
  nms:=by simp
  lo:=by simp
  n16:=by simp
  lown:=by have:=h.lOwn.base hgg;simpa[Dk.lv]using this}
end
end
theorem Zo0(w:World)(mb:Nat)(t:TypeId)(g:Nat)(hg:w.heap.size=g):RdE Zr1 (w.alloc (.cells #[.pointer (some ⟨mb,0,none⟩)] t)) (fun _=>True) (.slice (some ⟨g,0,none⟩) 1 1) [mb]:=by
 subst hg;exact Qu w #[.pointer (some ⟨mb,0,none⟩)] t 1 rfl
def Sd(T:Tbl)(n:Nat)(cp:Int)(w:World)(e:Ending)(w':World):Prop :=
 ∃ (b:Nat) (d:Dk) (U:Nat→Prop),e=.returned (.tuple #[.pointer (some ⟨b,0,none⟩),.int .i64 0])∧Ww w' U T b w.heap.size d∧d.ms.length=n∧(∀ (i:Nat) p,d.ms[i]?=some p→p.2=O5 i)∧d.x=Zwu n cp∧d.n=0∧d.t=0∧d.ops=[]∧d.last=List.replicate n (-1)∧d.bs_=List.replicate n []∧Ext w w'
theorem Iv{S:Nat→Prop}(T:Tbl)(hg:Dg T)(n:Nat)(cp:Int)(hn:0<n)(hn2:n≤64)(hc:V6 n cp=0)(w:World)(h:Xl w S T):Calls Tryz.prog 31 #[Vu T,.agg #[.int .i64 (n:Int),.int .i64 cp]] w (Sd T n cp w):=by
 have G:=Y4 hg;have Hc:=Y4 hc;have HT:=Y4 h;clear hg hc;have X0:=Y4 ((Yl w).alloc (Xe T));have H:=Y4 (h.up X0.o);have Hb0:=Y4 (Xm w T);clear h;go_enter Tryz.func31,Tryz.ntmps31;go_wp2_with (first|(refine Xw rfl ?_)|(refine Xz (Hb0.o.ext ((Yl _).alloc _)) rfl ?_));have X1:=Y4 (X0.o.alloc (.cells #[.int .i64 (n:Int),.int .i64 cp] 37));have Cb:=Y4 (Xo.new (w.alloc (Xe T)) #[.int .i64 (n:Int),.int .i64 cp] 37);obtain⟨cb,hcb⟩:=gnX (((w.alloc (Xe T))).heap.size);obtain⟨W1,hW1⟩:=gnX (((w.alloc (Xe T))).alloc (.cells #[.int .i64 (n:Int),.int .i64 cp] 37));have Hb1:=Y4 (Hb0.o.ext ((Yl _).alloc (.cells #[.int .i64 (n:Int),.int .i64 cp] 37)));rw[hW1]at X1 Hb1;rw[hcb]at Cb;rw[hW1]at Cb;try rw[hW1]
 have hcb':w.heap.size+1=cb:=by rw[← hcb];simp
 try rw[hcb']
 clear hW1 hcb hcb';refine(El T G.o _ (HT.o.up X1.o)).mono ?_;rintro e w2 ⟨rfl,hx2⟩;have c0:=(Cb.o.ext hx2).at_ 0 (by simp);have c1:=(Cb.o.ext hx2).at_ 1 (by simp);simp only[Zx,Zw]at c0 c1;have X2:=Y4 (X1.o.trans hx2);have Cb2:=Y4 (Cb.o.ext hx2);have Hb2:=Y4 (Hb1.o.ext hx2);clear hx2;go_wp2_with fail;refine(O7 n cp Hc.o _).mono ?_;rintro e w3 ⟨xb,rfl,hsh,hxb,hx3⟩;have c0:=(Cb2.o.ext hx3).at_ 0 (by simp);simp only[Zx]at c0;have X3:=Y4 (X2.o.trans hx3);have Cb3:=Y4 (Cb2.o.ext hx3);have Hb3:=Y4 (Hb2.o.ext hx3);have Hsh:=Y4 hsh;have mk:=Zrn n (by omega);clear hx3 hsh c1;have hxb2:=Hsh.o.lt;have hs3:=X3.o.size;have hxw2:=X2.o.size;have D0:=Y4 (show Mj w ((w3.alloc (.cells (Lj n) 24)).alloc (.cells #[.pointer (some ⟨xb,0,none⟩),.slice none 0 0,.slice (some ⟨w3.heap.size,0,none⟩) n n,.slice none 0 0,.slice none 0 0,.int .i64 0] 146)) T (w3.heap.size+1) xb w3.heap.size cp n 0 0 (.slice none 0 0) (.slice none 0 0) [] from
  {ext:=(X3.o.alloc _).alloc _
   cells:=by
    have:=Xo.new (w3.alloc (.cells (Lj n) 24)) #[.pointer (some ⟨xb,0,none⟩),.slice none 0 0,.slice (some ⟨w3.heap.size,0,none⟩) n n,.slice none 0 0,.slice none 0 0,.int .i64 0] 146;rw[show(w3.alloc (.cells (Lj n) 24)).heap.size=w3.heap.size+1 by simp]at this;exact this
   box:=((Zod w3 n (by omega)).base hs3).ext ((Yl _).alloc _)
   shr:=(Hsh.o.ext ((Yl _).alloc _)).ext ((Yl _).alloc _)
   mOwn:=Own.nil _ _ _
   lOwn:=Own.nil _ _ _
   len:=rfl
   mach:=fun i p hp=>by simp at hp
   ge:=fun q hq=>by simp only[Zl2,Zg,Zh,Zl8]at hq;omega
   dis:=by
    simp only[Zl2,Zlm,Zg,Zh,Zl8,not_or,not_false_eq_true,List.nodup_nil,Zlc];omega
   dm:=fun q hq=>by simp[Value.ownBlock]at hq
   dl:=fun q hq=>by simp[Value.ownBlock]at hq})
 have Hb4:=Y4 ((Hb3.o.ext ((Yl _).alloc (.cells (Lj n) 24))).ext ((Yl _).alloc (.cells #[.pointer (some ⟨xb,0,none⟩),.slice none 0 0,.slice (some ⟨w3.heap.size,0,none⟩) n n,.slice none 0 0,.slice none 0 0,.int .i64 0] 146)));have Cb4:=Y4 ((Cb3.o.ext ((Yl _).alloc (.cells (Lj n) 24))).ext ((Yl _).alloc (.cells #[.pointer (some ⟨xb,0,none⟩),.slice none 0 0,.slice (some ⟨w3.heap.size,0,none⟩) n n,.slice none 0 0,.slice none 0 0,.int .i64 0] 146)));go_upto_region 7 with fail;obtain⟨W4,hW4⟩:=gnX ((w3.alloc (.cells (Lj n) 24)).alloc (.cells #[.pointer (some ⟨xb,0,none⟩),.slice none 0 0,.slice (some ⟨w3.heap.size,0,none⟩) n n,.slice none 0 0,.slice none 0 0,.int .i64 0] 146));rw[hW4]at D0 Hb4 Cb4;rw[hW4];obtain⟨gb,hgb⟩:=gnX (w3.heap.size);obtain⟨b,hb⟩:=gnX (w3.heap.size+1);have hcl:=Cb3.o.lt;have hbl:=Hb3.o.lt;rw[hb]at D0;rw[hgb]at D0 hcl hbl hb hs3 hxb2;try rw[hgb]
 try rw[hb]
 have Hbz:=Y4 hb;clear hW4 mk c0 X1 X2 X3 Hb2 Hb3 Cb Cb2 Cb3 Hb1 Hsh hgb hb;go_wp2_with fail;go_loopw [9] (fun o wr=>∃ (k:Nat) (mv lv:Value) (ms:List (Nat×Vt)),k≤n∧o=.int .i64 (k:Int)∧Mj w wr T b xb gb cp n k k mv lv ms∧Jm wr w.heap.size T∧Xo wr cb [.int .i64 (n:Int),.int .i64 cp]) (fun o _=>n-(intOf o).toNat);case atStart=>exact⟨0,_,_,[],by omega,rfl,D0.o,Hb4.o,Cb4.o⟩
 clear D0 Hb4 Cb4;obtain⟨k,mv,lv,ms,hk,rfl,hd,hbx,hcx⟩:=hrel;rename World=>wr
 have D1:=Y4 hd;have B1:=Y4 hbx;have C1:=Y4 hcx;have c0:=hcx.at_ 0 (by simp);simp only[Zx]at c0;clear hd hbx hcx;by_cases hlt:k<n
 ·obtain⟨hd_k,i0_k,i1_k⟩:=LTl k n;go_wp2_with (refine Xz B1.o rfl ?_);refine(Iu T G.o k (by omega) _ (HT.o.up D1.o.ext)).mono ?_;rintro e w2 ⟨mb,rfl,hmb,hge,hx2⟩;have Hmb:=Y4 hmb;have X2:=Y4 hx2;have D2:=Y4 (D1.o.up hx2);have B2:=Y4 (B1.o.ext hx2);have C2:=Y4 (C1.o.ext hx2);have a1:=D2.o.cells.at_ 1 (by simp);simp only[Zx,Zw]at a1;obtain⟨Am,Cm,rfl,hlm,hcm⟩:=D2.o.mOwn.shape;obtain⟨nm,hnm⟩:=gnX ((ms.map Prod.fst).length);rw[hnm]at a1 D1 D2 hlm;have Hnm:=Y4 (show nm=k by rw[← hnm,Zq];exact D2.o.len);have Hnm2:=Y4 hnm;have hsz:=D2.o.ext.size;clear hmb hx2 hnm c0 hd_k;go_upto_region 12 with(at_builtin;refine Xu Zr1 _ _ _ rfl rfl rfl rfl (D2.o.mOwn.ext ((Yl _).alloc _)) rfl (Zo0 w2 mb _ _ rfl) (by rw[Hnm2.o];show nm+1≤_;have:=Hnm.o;omega) (by show 8≤1000;omega) (by have:=D2.o.box.blk.2;simp;omega) ?_;intro A5 n5 c5 w5 hg5;have D3:=Y4 (D1.o.growM X2.o Hmb.o hge hg5);have b5:=(D2.o.cells.ext ((Yl _).alloc (.cells #[.pointer (some ⟨mb,0,none⟩)] 147))).chg hg5.chg (fun e=>D2.o.dm b e (by simp));have X5:=Y4 (hg5.ext w (D2.o.ext.alloc _) hs3);have B5:=Y4 ((B2.o.ext ((Yl _).alloc (.cells #[.pointer (some ⟨mb,0,none⟩)] 147))).chgO hg5.chg (fun e=>by have:=(D2.o.mOwn.lt _ e).1;omega));have C5:=Y4 ((C2.o.ext ((Yl _).alloc (.cells #[.pointer (some ⟨mb,0,none⟩)] 147))).chg hg5.chg (fun e=>by have:=(D2.o.mOwn.lt _ e).1;omega));have a1':=b5.at_ 1 (by simp);have f1':=b5.fz;simp only[Zx,Zw]at a1';clear hg5 b5);have cst:=(Chg.refl (· = b) w5).setCell (p:=⟨b,1,none⟩) (.inl rfl) (.slice A5 n5 c5);have B6:=Y4 (B5.o.chgO cst (show ¬ w.heap.size=b by have:=Hbz.o;omega));have C6:=Y4 (C5.o.chg cst (show ¬ cb=b by have:=Hbz.o;omega));obtain⟨W6,hW6⟩:=gnX (w5.setCell ⟨b,1,none⟩ (.slice A5 n5 c5));rw[hW6]at D3 B6 C6;rw[hW6];clear hW6 cst a1 a1' f1' D1 D2 B1 B2 C1 C2 B5 C5 X2 X5 Hmb;have a4:=D3.o.cells.at_ 4 (by simp);simp only[Zx,Zw]at a4;obtain⟨Al,Cl,rfl,hll,hcl'⟩:=D3.o.lOwn.shape;rw[Z2]at a4 D3 hll;go_upto_region 9 with(at_builtin;refine Xu Wi _ _ _ rfl rfl rfl rfl (D3.o.lOwn.ext ((Yl _).alloc _)) rfl (Wv W6 (-1) _ _ rfl) (by rw[Z2];show k+1≤_;omega) (by show 8≤1000;omega) (by have:=D3.o.box.blk.2;simp;omega) ?_;intro A7 n7 c7 w7 hg7;have D4:=Y4 (D3.o.growL hg7);have b7:=(D3.o.cells.ext ((Yl _).alloc (.cells #[.int .i64 (-1)] 3))).chg hg7.chg (fun e=>(D3.o.dl b e).1 (by simp));have B7:=Y4 ((B6.o.ext ((Yl _).alloc (.cells #[.int .i64 (-1)] 3))).chgO hg7.chg (fun e=>by have:=(D3.o.lOwn.lt _ e).1;omega));have C7:=Y4 ((C6.o.ext ((Yl _).alloc (.cells #[.int .i64 (-1)] 3))).chg hg7.chg (fun e=>by have:=(D3.o.lOwn.lt _ e).1;omega));have a4':=b7.at_ 4 (by simp);have f4':=b7.fz;simp only[Zx,Zw]at a4';clear hg7 b7);have cst:=(Chg.refl (· = b) w7).setCell (p:=⟨b,4,none⟩) (.inl rfl) (.slice A7 n7 c7);have B8:=Y4 (B7.o.chgO cst (show ¬ w.heap.size=b by have:=Hbz.o;omega));have C8:=Y4 (C7.o.chg cst (show ¬ cb=b by have:=Hbz.o;omega));clear cst a4 a4' f4' B7 C7 B6 C6;go_wp2_with fail;go_roundw;case rel=>exact⟨k+1,_,_,_,by omega,by go_num,D4.o,B8.o,C8.o⟩
  (simp[intOf];omega)
 have hd_k:=GEl k n;go_wp2_with fail;go_ret2;obtain rfl:k=n:=by omega
 obtain⟨d,U,h1,h2,h3,h4,h5,h6,h7,h8⟩:=D1.o.desk hn hn2 HT.o;exact⟨b,d,U,rfl,h1,by rw[h2];exact D1.o.len,fun i p hp=>(D1.o.mach i p (by rw[← h2];exact hp)).1,h3,h4,h5,h6,h7,h8,D1.o.ext⟩
end Go.Proofs.YtnbclgbicnpmnaaGreat
