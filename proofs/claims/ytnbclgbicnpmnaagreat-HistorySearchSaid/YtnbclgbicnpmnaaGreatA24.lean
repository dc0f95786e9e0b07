/- Lemmas of this claim: Db, Enc2, Dc, AppW, Nd, Law28a, EnP, RPf. Conditions: as named. -/
import Derived.Deep.DeepCutAuto
import Derived.Deep.RegionHeld3
import Derived.WalkMore
import Derived.Test.YtnbclgbicnpmnaaGreatA02
import Derived.Test.YtnbclgbicnpmnaaGreatA03
import Derived.Test.YtnbclgbicnpmnaaGreatA04
import Derived.Test.YtnbclgbicnpmnaaGreatA08
import Derived.Test.YtnbclgbicnpmnaaGreatA10
import Derived.Test.YtnbclgbicnpmnaaGreatA15
import Derived.Test.YtnbclgbicnpmnaaGreatA16
import Derived.Test.YtnbclgbicnpmnaaGreatA17
import Derived.Test.YtnbclgbicnpmnaaGreatA18
import Derived.Test.YtnbclgbicnpmnaaGreatA20
import Derived.Test.YtnbclgbicnpmnaaGreatA21
import Derived.Test.YtnbclgbicnpmnaaGreatA22
import Derived.Test.YtnbclgbicnpmnaaGreatA23
namespace Go.Proofs.YtnbclgbicnpmnaaGreat
open Go.RowKit Go.Sort
set_option maxHeartbeats 0
set_option maxRecDepth 100000
set_option linter.all false
def Ju(cl:Int)(text:ByteArray):Jz:=⟨cl,1,text,0,0,.slice none 0 0,[],.slice none 0 0,[],⟨0,0,⟨#[]⟩,⟨0,0,⟨#[]⟩,0⟩,0⟩,0⟩
def Zmh(m:Jz):List Value:=[.int .i64 m.cl,.int .i64 m.st,.string m.text,.int .i64 m.op,.int .i64 m.ttl,m.lv,m.rv,.int .i64 m.ans.e,.int .i64 m.ans.at_,.string m.ans.nm,.int .i64 m.ans.rc.st,.int .i64 m.ans.rc.ow,.string m.ans.rc.nm,.int .i64 m.ans.rc.dl,.int .i64 m.ans.tick,.int .i64 m.i]
theorem Zyt(T:Tbl)(m:Jz):machC T m=Qu T++Zmh m:=rfl
theorem Zu0{w:World}{b:Nat}{T:Tbl}{m:Jz}(h:Xr w b (machC T m)):Jd w b T :=
 ⟨h.lt,fun k hk=>by rw[h.at_ k (by show k<28;omega),Zyt,Ze hk]⟩
theorem Zqw{w:World}{S:Nat→Prop}{T:Tbl}{m:Jz}(hT:Xn w S T)(h1:m.lv.oneCell'=true)(h2:m.rv.oneCell'=true):∀ v∈machC T m,v.oneCell'=true:=fun v hv=>by
 rw[Zyt,Zj]at hv;rcases hv with hv|hv
 ·exact Zsn hT v hv
 simp only[Zmh,Zg,Zh,Zkl]at hv;rcases hv with rfl|rfl|rfl|rfl|rfl|rfl|rfl|rfl|rfl|rfl|rfl|rfl|rfl|rfl|rfl|rfl;all_goals first|rfl|exact h1|exact h2
theorem Zum:(Tryz.prog.info? 163).map (·.size)=some 28:=by kernel_rfl
theorem Zvi{S:Nat→Prop}(T:Tbl)(b:Nat)(m:Jz)(text:ByteArray)(w:World)(h:Xr w b (machC T m))(hT:Xn w S T)(hs:m.st=0) :
 Calls Tryz.prog 114 #[.pointer (some ⟨b,0,none⟩),.string text] w fun e w'=>e=.returned (.int .i64 0)∧Xr w' b (machC T (Ju m.cl text))∧Chg (· = b) w w':=by
 have z13:w.cell? ⟨b,13,none⟩=some (.int .i64 m.st):=h.at_ 13 (by simp[machC]);have z12:w.cell? ⟨b,12,none⟩=some (.int .i64 m.cl):=h.at_ 12 (by simp[machC]);rw[hs]at z13;have m12:=lat z12;have hC:∀ w',(∃ p:Wi,w'=later w p.n p.os)→Jd w' b T:=fun w' ⟨p,e⟩=>by rw[e];exact(Zu0 h).ext (⟨_,_,rfl⟩)
 have hone:=all_oneCell_toArray (Zqw (m:=Ju m.cl text) hT rfl rfl);have H:=Ya h;clear h hT hs;go_enter Tryz.func114,Tryz.ntmps114;go_upto_region 3 with fail;clear z12 z13;refine Xs 11 13 (by kernel_rfl) (by omega) (by kernel_rfl) (by kernel_rfl) (by kernel_rfl) ?_;simp only[Z4,Z5,Z6,Z7];repeat(first|((with_reducible refine Xm ?_ ?_ hC ?_);(focus(go_simp;done));rfl)|((with_reducible refine Yw ?_);intro K hK;go_simp;(with_reducible refine hK _ ?_);clear hK K))
 unfold Vt;((with_reducible refine Yw ?_);intro K hK;go_simp;(with_reducible refine hK _ ?_);clear hK K)
 (with_reducible refine Yv ?_)
 intro w9 hy9;have H9:=Ya (H.o.ext hy9);have Y9:=Ya hy9;have hth:=H9.o.there (o:=0) (n:=28) (Yp _);clear hy9 m12 hC;go_wp2_with (refine Zjf rfl _ _ _ rfl b 0 (machC T (Ju m.cl text)).toArray rfl rfl hth (by rw[Zum];rfl) hone ?_);have HZ:=Ya (H9.o.mid (o:=0) (vs:=machC T (Ju m.cl text)) (cs':=machC T (Ju m.cl text)) (Yp _) rfl);have CZ:=Ya (Xp (S:=(· = b)) (b:=b) (.inl rfl) (vs:=machC T (Ju m.cl text)) (o:=0) (Y9.o.chg (· = b)));obtain⟨W,hW⟩:=gnX (w9.setCells b 0 (machC T (Ju m.cl text)));rw[hW]at HZ CZ;rw[show w9.setCells b 0 (machC T (Ju m.cl text)).toArray.toList=W from hW];clear hW hth hone H9 Y9;go_wp2_with fail;go_ret;exact⟨rfl,HZ.o,CZ.o⟩
theorem Uv:(Tryz.prog.info? 99).map (fun i=>(i.zero,i.size,i.bytes))=some (some (.agg #[.int .i64 0,.int .i64 0,.int .i64 0]),3,24):=by kernel_rfl
theorem Zsg:Tryz.prog.underlying 31=some (.slice 99):=by kernel_rfl
theorem Znb(l:List Sp):∀ u∈Vz l,u.oneCell'=true:=by
 induction l with
 | nil=>simp[Vz]
 | cons n r ih =>
  intro u hu;rw[Vz,Zj]at hu;rcases hu with hu|hu
  ·simp only[Mx,Zg,Zh,Zkl]at hu;rcases hu with rfl|rfl|rfl<;>rfl
  exact ih u hu
noncomputable def spE:Enc Sp where
 ty:=99
 sl:=31
 z:=3
 bytes:=24
 cells l:=Vz l
 app a b:=Uh a b
 len l:=Db l
 one l:=Znb l
 und:=Zsg
 i:=Classical.choose (Zll Uv)
 zero:=.agg #[.int .i64 0,.int .i64 0,.int .i64 0]
 info:=(Yq (Zll Uv)).1
 hz:=(Yq (Zll Uv)).2.1
 hs:=(Yq (Zll Uv)).2.2.1
 hb:=(Yq (Zll Uv)).2.2.2
 hc:=rfl
 pos:=by omega
theorem Uw:(Tryz.prog.info? 106).map (fun i=>(i.zero,i.size,i.bytes))=some (some (.agg #[.int .i64 0,.slice none 0 0]),2,32):=by kernel_rfl
theorem Zsh:Tryz.prog.underlying 32=some (.slice 106):=by kernel_rfl
abbrev MpS:={m:Mp // m.tv.oneCell'=true}
def Zmx(l:List MpS):List Value:=Wa (l.map Subtype.val)
theorem Zqs(l:List MpS):∀ u∈Zmx l,u.oneCell'=true:=by
 induction l with
 | nil=>simp[Zmx,Wa]
 | cons o r ih =>
  intro u hu;obtain⟨o,ho⟩:=o;simp only[Zmx,Zl9,Wa,Zj]at hu;rcases hu with hu|hu
  ·simp only[Lr,Zg,Zh,Zkl]at hu;rcases hu with rfl|rfl
   ·rfl
   exact ho
  exact ih u hu
noncomputable def mpE:Enc MpS where
 ty:=106
 sl:=32
 z:=2
 bytes:=32
 cells l:=Zmx l
 app a b:=by simp[Zmx,Up]
 len l:=by simp[Zmx,Dl]
 one l:=Zqs l
 und:=Zsh
 i:=Classical.choose (Zll Uw)
 zero:=.agg #[.int .i64 0,.slice none 0 0]
 info:=(Yq (Zll Uw)).1
 hz:=(Yq (Zll Uw)).2.1
 hs:=(Yq (Zll Uw)).2.2.1
 hb:=(Yq (Zll Uw)).2.2.2
 hc:=rfl
 pos:=by omega
theorem Fb:(Tryz.prog.info? 109).map (fun i=>(i.zero,i.size,i.bytes))=some (some (.agg #[.string ⟨#[]⟩,.string ⟨#[]⟩,.string ⟨#[]⟩]),3,48):=by kernel_rfl
theorem Zn5:Tryz.prog.underlying 49=some (.slice 109):=by kernel_rfl
noncomputable def nmE:Enc Nm where
 ty:=109
 sl:=49
 z:=3
 bytes:=48
 cells l:=Wq l
 app a b:=Uo a b
 len l:=Dj l
 one l:=Tz l
 und:=Zn5
 i:=Classical.choose (Zll Fb)
 zero:=.agg #[.string ⟨#[]⟩,.string ⟨#[]⟩,.string ⟨#[]⟩]
 info:=(Yq (Zll Fb)).1
 hz:=(Yq (Zll Fb)).2.1
 hs:=(Yq (Zll Fb)).2.2.1
 hb:=(Yq (Zll Fb)).2.2.2
 hc:=rfl
 pos:=by omega
structure Zzd where
 kind:Int
 cl:Int
 n:Int
 text:ByteArray
def Zmm(a:Zzd):List Value:=[.int .i64 a.kind,.int .i64 a.cl,.int .i64 a.n,.string a.text]
def Kl:List Zzd→List Value
 | []=>[]
 | s::r=>Zmm s++Kl r
theorem Rt:∀ l:List Zzd,(Kl l).length=l.length*4
 | []=>rfl
 | n::r=>by rw[Kl,Zs,Rt r];simp[Zmm];omega
theorem Ds:∀ a b:List Zzd,Kl (a++b)=Kl a++Kl b
 | [],_=>rfl
 | n::r,b=>by simp[Kl,Ds r b]
theorem Zz0:∀ {l:List Zzd} {j:Nat} {s:Zzd},l[j]?=some s→(Kl l)[j*4]?=some (.int .i64 s.kind)∧(Kl l)[j*4+1]?=some (.int .i64 s.cl)∧(Kl l)[j*4+2]?=some (.int .i64 s.n)∧(Kl l)[j*4+3]?=some (.string s.text)
 | m::r,0,n,h=>by
  simp only[Zx,Yf]at h;subst h;simp[Kl,Zmm]
 | m::r,j+1,n,h=>by
  obtain⟨h1,h2,h3,h4⟩:=Zz0 (l:=r) (j:=j) (s:=n) (by simpa using h);have hm:(Zmm m).length=4:=rfl;have e:∀ k,(Kl (m::r))[(j+1)*4+k]?=(Kl r)[j*4+k]?:=fun k=>by
   rw[Kl,Zd (by omega),hm];congr 1;omega
  refine⟨?_,?_,?_,?_⟩
  ·have:=e 0;simp only[Zkt]at this;rw[this,h1]
  ·rw[e 1,h2]
  ·rw[e 2,h3]
  rw[e 3,h4]
theorem Zrn(l:List Zzd):∀ u∈Kl l,u.oneCell'=true:=by
 induction l with
 | nil=>simp[Kl]
 | cons n r ih =>
  intro u hu;rw[Kl,Zj]at hu;rcases hu with hu|hu
  ·simp only[Zmm,Zg,Zh,Zkl]at hu;rcases hu with rfl|rfl|rfl|rfl<;>rfl
  exact ih u hu
theorem Bk:(Tryz.prog.info? 78).map (fun i=>(i.zero,i.size,i.bytes))=some (some (.agg #[.int .i64 0,.int .i64 0,.int .i64 0,.string ⟨#[]⟩]),4,40):=by kernel_rfl
theorem Zpx:Tryz.prog.underlying 39=some (.slice 78):=by kernel_rfl
noncomputable def Zxw:Enc Zzd where
 ty:=78
 sl:=39
 z:=4
 bytes:=40
 cells l:=Kl l
 app a b:=Ds a b
 len l:=Rt l
 one l:=Zrn l
 und:=Zpx
 i:=Classical.choose (Zll Bk)
 zero:=.agg #[.int .i64 0,.int .i64 0,.int .i64 0,.string ⟨#[]⟩]
 info:=(Yq (Zll Bk)).1
 hz:=(Yq (Zll Bk)).2.1
 hs:=(Yq (Zll Bk)).2.2.1
 hb:=(Yq (Zll Bk)).2.2.2
 hc:=rfl
 pos:=by omega
theorem Lf(l:List Kp)(k:ByteArray)(r:Rc):(Ko l k r).length≤l.length+1:=by
 have:∀ (l:List Kp) d,(Wc k r d l).length≤l.length+1:=by
  intro l
  induction l with
  | nil=>intro d;cases d<;>simp[Wc]
  | cons p l ih =>
   intro d;rw[Wc];split
   ·have:=ih d;simp;omega
   split
   ·have h1:∀ l:List Kp,(Wc k r true l).length≤l.length:=by
     intro l
     induction l with
     | nil=>simp[Wc]
     | cons p l ih2 =>
      rw[Wc];split
      ·simp;omega
      simp;omega
    have:=h1 l;simp;omega
   have:=ih d;simp;omega
 exact this l _
structure Zvq(S:Nat→Prop)(T:Tbl)(mb xb:Nat)(m:Jz)(x:Shr)(w:World)(s:Int)(m':Jz)(x':Shr)(w':World):Prop where
 mach:Wj w' S T mb m'
 mok:MOk m'
 shr:Qo w' S xb x'
 chg:Chg (fun j=>j=mb∨j=xb) w w'
 xok:∀ t,XOk t x→XOk (t+1) x'
 live:m'.st≠0→m.st≠0
 par:m.st=1→s=3∨m'.st=2
def Jr(S:Nat→Prop)(T:Tbl)(mb xb:Nat)(m:Jz)(x:Shr)(w:World)(e:Ending)(w':World):Prop :=
 ∃ (s:Int) (m':Jz) (x':Shr),e=.returned (.int .i64 s)∧Zvq S T mb xb m x w s m' x' w'
structure K4(S:Nat→Prop)(T:Tbl)(mb xb:Nat)(m:Jz)(x:Shr)(w:World):Prop where
 mach:Wj w S T mb m
 mok:MOk m
 shr:Qo w S xb x
 ne:mb≠xb
 sm:¬ S mb
 sx:¬ S xb
 new:∀ k,w.heap.size≤k→S k
 tbl:Xn w S T
theorem Wj.c{w:World}{S:Nat→Prop}{T:Tbl}{b:Nat}{m:Jz}(h:Wj w S T b m)(j:Nat){v:Value}(hv:(machC T m)[j]?=some v):w.cell? ⟨b,j,none⟩=some v:=by
 rw[h.cells.at_ j (Zr.1 hv).1,hv]
theorem Qo.c{w:World}{S:Nat→Prop}{b:Nat}{x:Shr}(h:Qo w S b x)(j:Nat){v:Value}(hv:(Zmv x)[j]?=some v):w.cell? ⟨b,j,none⟩=some v:=by
 rw[h.cells.at_ j (Zr.1 hv).1,hv]
theorem Wj.ext{w w':World}{S:Nat→Prop}{T:Tbl}{b:Nat}{m:Jz}(h:Wj w S T b m)(x:Ext w w'):Wj w' S T b m:=⟨h.cells.ext x,Rd.ext h.ns x,Rd.ext h.rs x⟩
theorem Qo.ext{w w':World}{S:Nat→Prop}{b:Nat}{x:Shr}(h:Qo w S b x)(e:Ext w w'):Qo w' S b x:=⟨h.cells.ext e,Rd.ext h.ks e,Rd.ext h.rs e⟩
theorem Wj.put{w:World}{S:Nat→Prop}{T:Tbl}{b:Nat}{m m':Jz}(h:Wj w S T b m)(hb:¬ S b){j:Nat}(hj:j<28){v:Value}(e:(machC T m).set j v=machC T m')(e1:m'.lv=m.lv)(e2:m'.ns=m.ns)(e3:m'.rv=m.rv)(e4:m'.rs=m.rs):Wj (w.setCell ⟨b,j,none⟩ v) S T b m' :=
 ⟨e▸h.cells.set (j:=j) hj v,by rw[e1,e2];exact RdE.far (E:=nmE) h.ns hb v,by rw[e3,e4];exact Rd.chg h.rs ((Chg.refl (· = b) w).setCell (p:=⟨b,j,none⟩) (.inl rfl) v) (fun _ hk e=>hb (e▸hk))⟩
theorem Qo.far{w:World}{S:Nat→Prop}{b c j:Nat}{x:Shr}(h:Qo w S b x)(hne:b≠c)(hc:¬ S c)(v:Value):Qo (w.setCell ⟨c,j,none⟩ v) S b x :=
 h.chg (U:=(· = c)) ((Chg.refl (· = c) w).setCell (p:=⟨c,j,none⟩) (.inl rfl) v) hne (fun _ hk e=>hc (e▸hk))
theorem Wj.far{w:World}{S:Nat→Prop}{T:Tbl}{b c j:Nat}{m:Jz}(h:Wj w S T b m)(hne:b≠c)(hc:¬ S c)(v:Value):Wj (w.setCell ⟨c,j,none⟩ v) S T b m :=
 h.chg (U:=(· = c)) ((Chg.refl (· = c) w).setCell (p:=⟨c,j,none⟩) (.inl rfl) v) hne (fun _ hk e=>hc (e▸hk))
theorem Zst{S:Nat→Prop}(T:Tbl)(mb xb:Nat)(m:Jz)(x:Shr)(w:World)(h:K4 S T mb xb m x w)(hs:m.st=0):Calls Tryz.prog 115 #[.pointer (some ⟨mb,0,none⟩),.pointer (some ⟨xb,0,none⟩)] w (Jr S T mb xb m x w):=by
 have z13:w.cell? ⟨mb,13,none⟩=some (.int .i64 m.st):=h.mach.c 13 rfl;have H:=Ya h;have Hs:=Ya hs;rw[hs]at z13;clear h hs;go_enter Tryz.func115,Tryz.ntmps115;go_wp2_with fail;go_ret;exact⟨0,m,x,rfl,H.o.mach,H.o.mok,H.o.shr,Chg.refl _ _,fun t h=>h.up,fun h=>h,fun h=>by rw[Hs.o]at h;simp at h⟩
theorem Zwe{S:Nat→Prop}(T:Tbl)(mb xb:Nat)(m:Jz)(x:Shr)(w:World)(h:K4 S T mb xb m x w)(hs:m.st=7):Calls Tryz.prog 115 #[.pointer (some ⟨mb,0,none⟩),.pointer (some ⟨xb,0,none⟩)] w (Jr S T mb xb m x w):=by
 have z13:w.cell? ⟨mb,13,none⟩=some (.int .i64 m.st):=h.mach.c 13 rfl;have fz:=h.mach.cells.fz;have H:=Ya h;have Hs:=Ya hs;rw[hs]at z13;clear h hs;go_enter Tryz.func115,Tryz.ntmps115;go_wp2_with fail;go_ret;exact⟨4,{m with st:=0},x,rfl,H.o.mach.put H.o.sm (by omega) rfl rfl rfl rfl rfl,⟨by simp,by simp,H.o.mok.c0,H.o.mok.c1,fun h=>by simp at h,fun h=>by simp at h,fun h=>by simp at h,fun h=>by simp at h,fun h=>by simp at h⟩,
  H.o.shr.far H.o.ne.symm H.o.sm _,(Chg.refl _ _).setCell (.inl (.inl rfl)) _,fun t h=>h.up,fun h=>by simp at h,fun h=>by rw[Hs.o]at h;simp at h⟩
section
section
variable {α:Type} {ops:Array Oper} {rest:List Oper} {o:Oper} {a:Act} {w:World} {Q:Exit→Act→World→Prop} {K:Act→World→Prop} {B:Nat} {S:Nat→Prop} {v x:Value} {l m:List α}
theorem Zn7(E:Enc α)(s y:Operand)(t:TypeId)(ho:o.op=.call {callee:=.builtin .append,args:=#[s,y],argTypes:=#[t,t]})(ht:t=E.sl)(hs:a.eval s=v)(hown:Own E w B v l)
 (hx:a.eval y=x) (hr:RdE E w S x m) (h63:l.length+m.length≤maxLen) (hby:(l.length+m.length)*E.bytes≤140737488355328) (hB:B≤w.heap.size)
 (h:∀ A n c w',Grew E w B v (l++m) A n c w'→K (a.put o.dst (.slice A n c)) w'):o.wp Tryz.prog a w K Q:=by
 subst ht;refine J3 w s y E.sl ho B E.ty E.i E.zero E.z E.bytes E.und E.info E.hz E.hs E.hb E.hc E.pos v l.length (E.cells l) hs hown S x m.length (E.cells m) hx hr (E.one m) h63 hby hB ?_;intro v' w' ha;obtain⟨A,n,c,rfl,hg⟩:=Zus hown ha;exact h A n c w' hg
theorem Je(E:Enc α)(s y:Operand)(t:TypeId)(hgd:o.guard=none)(ho:o.op=.call {callee:=.builtin .append,args:=#[s,y],argTypes:=#[t,t]})(ht:t=E.sl)(hs:a.eval s=v)(hown:Own E w B v l)
 (hx:a.eval y=x) (hr:RdE E w S x m) (h63:l.length+m.length≤maxLen) (hby:(l.length+m.length)*E.bytes≤140737488355328) (hB:B≤w.heap.size)
 (h:∀ A n c w',Grew E w B v (l++m) A n c w'→wpList Tryz.prog ops Q rest (a.put o.dst (.slice A n c)) w'):wpList Tryz.prog ops Q (o::rest) a w :=
 Zip hgd fun _ hK=>Zn7 E s y t ho ht hs hown hx hr h63 hby hB fun A n c w' hg=>hK _ _ (h A n c w' hg)
end
noncomputable def Zpg:Enc Nat where
 ty:=3
 sl:=22
 z:=1
 bytes:=8
 cells l:=l.map Zyr
 app a b:=Z9
 len l:=by simp
 one l:=Gc _ (fun _=>rfl) l
 und:=Zy2
 i:=Classical.choose (Zll Qa)
 zero:=.int .i64 0
 info:=(Yq (Zll Qa)).1
 hz:=(Yq (Zll Qa)).2.1
 hs:=(Yq (Zll Qa)).2.2.1
 hb:=(Yq (Zll Qa)).2.2.2
 hc:=rfl
 pos:=by omega
theorem Znx(w:World)(z:Nat)(t:TypeId)(g:Nat)(hg:w.heap.size=g):RdE Zpg (w.alloc (.cells #[.int .i64 (z:Int)] t)) (fun _=>True) (.slice (some ⟨g,0,none⟩) 1 1) [z]:=by
 subst hg;exact Va w #[.int .i64 (z:Int)] t 1 rfl
end
def Zs0(cl cp:Int):Shr:=⟨cl,cp,0,0,.slice none 0 0,[],.slice none 0 0,[]⟩
theorem Pl(cl cp:Int)(hc:Vc cl cp=0)(w:World):Calls Tryz.prog 76 #[.agg #[.int .i64 cl,.int .i64 cp]] w fun e w'=>∃ b,e=.returned (.tuple #[.pointer (some ⟨b,0,none⟩),.int .i64 0])∧Xr w' b (Zmv (Zs0 cl cp))∧w.heap.size≤b∧Ext w w':=by
 have Hc:=Ya hc;clear hc;go_enter Tryz.func76,Tryz.ntmps76;go_wp2_with fail;refine(Qe cl cp _).mono ?_;rintro x w1 ⟨rfl,hx1⟩;rw[Hc.o];have k0:w1.cell? ⟨w.heap.size,0,none⟩=some (.int .i64 cl):=(hx1.cell (by simp)).trans (by go_simp);have k1:w1.cell? ⟨w.heap.size,1,none⟩=some (.int .i64 cp):=(hx1.cell (by simp)).trans (by go_simp);have Hx1:=Ya (((Yn w).alloc _).trans hx1);clear hx1;go_wp2_with fail;go_ret2;exact⟨w1.heap.size,rfl,Xr.new w1 _ _,Hx1.o.size,Hx1.o.alloc _⟩
def Rw(cl:Int):Jz:=⟨cl,0,⟨#[]⟩,0,0,.slice none 0 0,[],.slice none 0 0,[],⟨0,0,⟨#[]⟩,⟨0,0,⟨#[]⟩,0⟩,0⟩,0⟩
theorem Ci{S:Nat→Prop}(T:Tbl)(hg:Da T)(k:Nat)(hk:k<64)(w:World)(h:Xn w S T):Calls Tryz.prog 77 #[Vt T,.int .i64 (k:Int)] w fun e w'=>∃ b,e=.returned (.tuple #[.pointer (some ⟨b,0,none⟩),.int .i64 0])∧Xr w' b (machC T (Rw k))∧w.heap.size≤b∧Ext w w':=by
 have G:=Ya hg;clear hg;have X0:=Ya ((Yn w).alloc (Xe T));have H:=Ya (h.up X0.o);have Hb0:=Ya (Xo w T);clear h;have q1:decide ((k:Int)<0)=false:=Yi;have q2:decide ((64:Int)≤(k:Int))=false:=Yi;go_enter Tryz.func77,Tryz.ntmps77;go_wp2_with (first|(refine Xx rfl ?_)|(refine Y4 Hb0.o rfl ?_));refine(Eh T G.o _ H.o).mono ?_;rintro e w1 ⟨rfl,hx1⟩;have Hx1:=Ya hx1;clear hx1;go_wp2_with (refine Y4 (Hb0.o.ext Hx1.o) rfl ?_;unfold Vt);go_ret2;exact⟨w1.heap.size,rfl,Xr.new w1 _ _,(X0.o.trans Hx1.o).size,(X0.o.trans Hx1.o).alloc _⟩
def Zs5(w:World)(e:Ending)(w':World):Prop:=∃ cl cp:Int,1≤cl∧cl≤4∧1≤cp∧cp≤6∧e=.returned (.agg #[.int .i64 cl,.int .i64 cp])∧Ext w w'
theorem Zrf(a:Option Addr)(len cap:Nat)(w:World)(hrow:Km w a len):Calls Tryz.prog 11 #[.slice a len cap] w (Zs5 w):=by
 obtain⟨A,hA⟩:=gnX (w.heap.size);have hx0:Ext w (w.alloc (.cells #[.int .i64 0,.int .i64 0] 37)):=(Yn w).alloc _;have hsrc:=Ug (cap:=cap) hrow hx0;have c0:((w.alloc (.cells #[.int .i64 0,.int .i64 0] 37)).alloc (.cells #[.slice a len cap,.int .i64 0] 165)).cell? ⟨w.heap.size,0,none⟩=some (.int .i64 0):=by go_simp
 have c1:((w.alloc (.cells #[.int .i64 0,.int .i64 0] 37)).alloc (.cells #[.slice a len cap,.int .i64 0] 165)).cell? ⟨w.heap.size,1,none⟩=some (.int .i64 0):=by go_simp
 have cf:∀ i,((w.alloc (.cells #[.int .i64 0,.int .i64 0] 37)).alloc (.cells #[.slice a len cap,.int .i64 0] 165)).frozen? ⟨w.heap.size,i,none⟩=false:=fun i=>by go_simp
 have hs:((w.alloc (.cells #[.int .i64 0,.int .i64 0] 37)).alloc (.cells #[.slice a len cap,.int .i64 0] 165)).heap.size=w.heap.size+2:=by simp
 have e1:(w.alloc (.cells #[.int .i64 0,.int .i64 0] 37)).heap.size=w.heap.size+1:=by simp
 rw[e1]at hsrc;have hx:Ext w ((w.alloc (.cells #[.int .i64 0,.int .i64 0] 37)).alloc (.cells #[.slice a len cap,.int .i64 0] 165)):=hx0.alloc _;have Hs:=Ya (And.intro hsrc (And.intro c0 (And.intro c1 (And.intro cf (And.intro hs hx)))));clear hsrc c0 c1 cf hs e1 hx hx0 hrow;go_enter Tryz.func11,Tryz.ntmps11;go_wp2_with fail;refine(Pr _ _ _ _).mono ?_;rintro e w0 ⟨rfl,rfl⟩;obtain⟨hsrc,c0,c1,cf,hs,hx⟩:=Hs.o;rw[hA]at c0 c1 cf hs hsrc;have Hx:=Ya hx;have Hsrc:=Ya hsrc;have HA:=Ya hA;obtain⟨W,hW⟩:=gnX ((w.alloc (.cells #[.int .i64 0,.int .i64 0] 37)).alloc (.cells #[.slice a len cap,.int .i64 0] 165));rw[hW]at c0 c1 cf hs Hx Hsrc;clear hx hsrc Hs;go_wp2_with fail;refine(next_any _ _ (by omega) (by omega) _ _ Hsrc.o).mono ?_;rintro e w2 ⟨x,hx,rfl,hsrc2,hc2,hz2⟩;have c0:=(hc2.cell (p:=⟨A,0,none⟩) (by simp only;omega) (by simp only;omega)).trans c0;have c1:=(hc2.cell (p:=⟨A,1,none⟩) (by simp only;omega) (by simp only;omega)).trans c1;have cf:=fun i=>(hc2.frozen (p:=⟨A,i,none⟩) (by simp only;omega) (by simp only;omega)).trans (cf i)
 have Hx2:=Ya (Hx.o.chg_new hc2 fun i hi=>by have:=HA.o;omega);have Hsrc2:=Ya hsrc2;have hz:A+2≤w2.heap.size:=by omega
 have p0:(0:Int)≤(x:Int):=by omega
 clear hsrc2 hc2 hz2 Hsrc Hx hW hs hA;go_wp2_with fail;refine(next_any _ _ (by omega) (by omega) _ _ Hsrc2.o).mono ?_;rintro e w3 ⟨y,hy,rfl,hsrc3,hc3,hz3⟩;have c0:=(hc3.cell (p:=⟨A,0,none⟩) (by simp only;omega) (by simp only;omega)).trans c0;have c1:=(hc3.cell (p:=⟨A,1,none⟩) (by simp only;omega) (by simp only;omega)).trans c1;have cf:=fun i=>(hc3.frozen (p:=⟨A,i,none⟩) (by simp only;omega) (by simp only;omega)).trans (cf i)
 have Hx3:=Ya (Hx2.o.chg_new hc3 fun i hi=>by have:=HA.o;omega);have p1:(0:Int)≤(y:Int):=by omega
 have hz:A+2≤w3.heap.size:=by omega
 clear hsrc3 hc3 hz3 Hsrc2 Hx2;go_wp2_with fail;refine Yu (v:=.agg #[.int .i64 (1+(x:Int)),.int .i64 (1+(y:Int))]) (by simp[results,Tryz.results11,go_sem, *]) rfl ⟨1+(x:Int),1+(y:Int),by omega,by omega,by omega,by omega,rfl,?_⟩;(repeat refine Yc ?_ (by have:=HA.o;simp only;omega) _)
 exact Hx3.o
theorem Zwp{cl cap:Int}(hc:Vc cl cap=0)(w:World):Calls Tryz.prog 29 #[.agg #[.int .i64 cl,.int .i64 cap]] w fun e w'=>∃ b,e=.returned (.tuple #[.pointer (some ⟨b,0,none⟩),.int .i64 0])∧Vm w' (fun _=>False) b cl cap []∧w.heap.size≤b∧Ext w w' :=
 (Zt3 cl cap w).mono fun e w' h=>by
   rcases h with⟨h0,_⟩ | ⟨_,h1⟩
   ·rw[hc]at h0;simp at h0
   exact h1
theorem Zrg{cl cap:Int}(h1:1≤cl)(h2:cl≤4)(h3:1≤cap)(h4:cap≤6):Vc cl cap=0:=by unfold Vc;rw[Zlq (by omega)]
structure OpF(w:World)(b:Nat)(o:Opn):Prop where
 c0:w.cell? ⟨b,0,none⟩=some (.int .i64 o.cl)
 c1:w.cell? ⟨b,1,none⟩=some (.int .i64 o.op)
 c2:w.cell? ⟨b,2,none⟩=some (.int .i64 o.ttl)
 c3:w.cell? ⟨b,3,none⟩=some o.nv
 c22:w.cell? ⟨b,22,none⟩=some (.int .i64 o.res.tick)
theorem Kc.f{w:World}{b:Nat}{o:Opn}(h:Kc w b 0 o):OpF w b o :=
 ⟨(h.2 0 (by omega)),(h.2 1 (by omega)),(h.2 2 (by omega)),(h.2 3 (by omega)),(h.2 22 (by omega))⟩
theorem Zyq{w:World}{S:Nat→Prop}{v:Value}{l:List Nat}(h:Vg w S v l){j i:Nat}(hj:l[j]?=some i) :
 ∃ g o c,v=.slice (some ⟨g,o,none⟩) l.length c∧S g∧g<w.heap.size∧w.cell? ⟨g,o+j,none⟩=some (.int .i64 (i:Int)):=by
 obtain⟨g,o,c,h1,h2,h3,h4,h5,h6⟩:=Rd.at_ h (Zr.1 hj).1;exact⟨g,o,c,h1,h4,h5,h6 j _ (by rw[Zn,hj];rfl)⟩
theorem Nx{ops:Array Oper}{S:World→Prop}{Q:Act→Prop}{l:List Oper}{dst:Option Nat}{x:Operand}{t:TypeId}{pos:String}{af:Array Edge}{gd:Option (Nat×Bool)}{a:Act}{b p:Nat}{r:Ay}
 (hw:Region.wanted {dst:=dst,op:=.load 53 x,type:=t,pos:=pos,after:=af,guard:=gd} (yielded ops a.tmps)=true) (hx:a.eval x=.pointer (some ⟨b,p,none⟩)) (hS:∀ w',S w'→w'.rangeAt b p (G9 r))
 (hK:Q9 Tryz.prog ops S Q l (a.put dst (Wy r))):Q9 Tryz.prog ops S Q ({dst:=dst,op:=.load 53 x,type:=t,pos:=pos,after:=af,guard:=gd}::l) a:=by
 refine⟨Wy r,.inl ⟨hw,fun w' hc=>?_⟩,hK⟩;unfold execOp;simp only[hx,Zk1,Tq (hS w' hc),Zkw,Zk2]
theorem P6{ops:Array Oper}{S:World→Prop}{Q:Act→Prop}{l:List Oper}{dst:Option Nat}{x y:Operand}{t s:TypeId}{pos:String}{af:Array Edge}{gd:Option (Nat×Bool)}{a:Act}{r1 r2:Ay}
 (hw:Region.wanted {dst:=dst,op:=.binOp .neq 53 x y s,type:=t,pos:=pos,after:=af,guard:=gd} (yielded ops a.tmps)=true) (hx:a.eval x=Wy r1) (hy:a.eval y=Wy r2)
 (hK:Q9 Tryz.prog ops S Q l (a.put dst (.bool (!Jg r1 r2)))):Q9 Tryz.prog ops S Q ({dst:=dst,op:=.binOp .neq 53 x y s,type:=t,pos:=pos,after:=af,guard:=gd}::l) a:=by
 refine⟨_,.inl ⟨hw,fun w' _=>?_⟩,hK⟩;unfold execOp;simp only[hx,hy,Zk1,Eb,J2,Zkw,Zk2]
def Si(st:RSt):Int:=if st.2.2=true then -9223372036854775808 else st.2.1
theorem Th{st:RSt}{o:Opn}(hb:o.bad.e=0)(hf : -9223372036854775808≤o.res.tick):o.res.tick<Kq st o↔o.res.tick<Si st:=by
 unfold Kq Si;cases h:st.2.2
 ·simp
 simp[hb];omega
theorem step_bad(cl cp:Int)(st:RSt){o:Opn}(hb:o.bad.e≠0):Qy cl cp st o=(if Jg o.res o.bad then 0 else 26,st):=by
 obtain⟨a,b,c⟩:=st;unfold Qy J6 Kq Ql;simp[hb]
theorem Zss(cl cp:Int)(st:RSt){o:Opn}(hb:o.bad.e=0)(hf : -9223372036854775808≤o.res.tick)(ht:o.res.tick<Si st):(Qy cl cp st o).1=3:=by
 have h1:=(Th (st:=st) hb hf).2 ht;unfold Qy J6;rw[Zlq (by omega),Zlm h1]
theorem Zn0(cl cp:Int)(st:RSt){o:Opn}(hb:o.bad.e=0)(hf : -9223372036854775808≤o.res.tick)(ht:¬ o.res.tick<Si st):Qy cl cp st o=(if Jg (doR cl cp st.1 o.cl o.op o.ttl o.res.tick o.ns) o.res then 0 else 26,(doL cl cp st.1 o.cl o.op o.ttl o.res.tick o.ns,o.res.tick,false)):=by
 have h1:=fun h=>ht ((Th (st:=st) hb hf).1 h)
 have h2:Ql st o=false:=by unfold Ql;cases h:st.2.2<;>simp[hb]
 unfold Qy J6;rw[Zlq (by omega),Zlq h1,h2]
structure Io(w:World)(b:Nat)(cl cp:Int)(os:List Opn)(ord:List Nat)(k:Nat)(st:RSt)(wr:World):Prop where
 rep:Vm wr (fun j=>b<j) b cl cp st.1
 is:st=stO cl cp os (ord.take k) ([],0,true)
 few:st.1.length≤16*k
 oks:∀ j,j<k→∀ i o,ord[j]?=some i→os[i]?=some o→(Qy cl cp (stO cl cp os (ord.take j) ([],0,true)) o).1=0
 ext:Ext w wr
 lo:w.heap.size≤b
theorem Io.next{w wr w':World}{b:Nat}{cl cp:Int}{os:List Opn}{ord:List Nat}{k i:Nat}{st st':RSt}{o:Opn}(h:Io w b cl cp os ord k st wr)(hi:ord[k]?=some i)(ho:os[i]?=some o)(hs:Qy cl cp st o=(0,st'))(hr:Vm w' (fun j=>b<j) b cl cp st'.1)(hx:Ext w w'):Io w b cl cp os ord (k+1) st' w' where
 rep:=hr
 is:=by rw[P3 hi ho,← h.is,hs]
 few:=by have h1:=P4 (cl:=cl) (cp:=cp) (st:=st) (o:=o);rw[hs]at h1;have h2:=h.few;simp only at h1;omega
 oks:=fun j hj i' o' h1 h2=>by
  by_cases ej:j=k
  ·subst ej;have e1:i'=i:=by rw[hi]at h1;exact(Zlj h1).symm
   subst e1;have e2:o'=o:=by rw[ho]at h2;exact(Zlj h2).symm
   subst e2;rw[← h.is,hs]
  exact h.oks j (by omega) i' o' h1 h2
 ext:=hx
 lo:=h.lo
def Zvu(cl cp:Int)(os:List Opn)(ord:List Nat)(w:World)(e:Ending)(w':World):Prop :=
 Ext w w'∧((Iu cl cp os ord ([],0,true)=none∧e=.returned (.tuple #[.int .i64 (-1),.int .i64 0])) ∨
  ∃ (k i:Nat) (c:Int),Iu cl cp os ord ([],0,true)=some (i,c)∧ord[k]?=some i∧c≠0∧e=.returned (.tuple #[.int .i64 (k:Int),.int .i64 c]))
theorem Io.hit{w wr w':World}{b:Nat}{cl cp:Int}{os:List Opn}{ord:List Nat}{k i:Nat}{st:RSt}{o:Opn}{c:Int}{e:Ending}(h:Io w b cl cp os ord k st wr)(hm:∀ i∈ord,∃ o,os[i]?=some o)(hi:ord[k]?=some i)(ho:os[i]?=some o)(hc:(Qy cl cp st o).1=c)(h0:c≠0)(he:e=.returned (.tuple #[.int .i64 (k:Int),.int .i64 c]))(hx:Ext w w'):Zvu cl cp os ord w e w':=by
 have h1:=P0 h.oks hm hi ho (by rw[← h.is,hc];exact h0);rw[← h.is,hc]at h1;exact⟨hx,.inr ⟨k,i,c,h1,hi,h0,he⟩⟩
theorem Znd{S T:Nat→Prop}(cl cp:Int)(vo vl:Value)(os:List Opn)(ord:List Nat)(w:World)(hc:Vc cl cp=0)(ho:Vy w S vo os)(hf:∀ o∈os,-9223372036854775808≤o.res.tick)(hl:Vg w T vl ord)(hlen:ord.length≤4096)(hm:∀ i∈ord,∃ o,os[i]?=some o) :
 Calls Tryz.prog 93 #[.agg #[.int .i64 cl,.int .i64 cp],vo,vl] w (Zvu cl cp os ord w):=by
 obtain⟨A,C,rfl⟩:=ho.shape;obtain⟨A2,C2,rfl⟩:=hl.shape;have X0:=Ya ((Yn w).alloc (.cells #[.int .i64 cl,.int .i64 cp] 37));obtain⟨n,hnn⟩:=gnX (os.length);obtain⟨q,hqq⟩:=gnX (ord.length);have Hnn:=Ya hnn;have Hqq:=Ya hqq;have Ho:=Ya (ho.mono (T:=fun k=>k<w.heap.size) fun k _ hk=>hk);have Hl:=Ya hl;have Hf:=Ya hf;have Hm:=Ya hm;rw[hnn];rw[hqq]at hlen⊢;clear hnn hqq ho hl hf hm;go_enter Tryz.func93,Tryz.ntmps93;go_wp2_with fail;refine(Zwp hc _).mono ?_;rintro x w1 ⟨b,rfl,hR,hlo,hx1⟩;have hI:Io w b cl cp os ord 0 ([],0,true) w1:=⟨hR.low (fun _ h=>h.elim) (fun h=>by omega),rfl,by simp,fun j hj=>by omega,X0.o.trans hx1,Zlo X0.o.size hlo⟩;have HI:=Ya hI;clear hR hlo hx1 hI;go_wp2_with fail;go_loopw [21,10] (fun o u wr=>∃ (k:Nat) (st:RSt),k≤q∧o=.int .i64 (k:Int)∧u=.int .i64 (Si st)∧Io w b cl cp os ord k st wr) (fun o _ _=>q-(intOf o).toNat);case atStart=>exact⟨0,_,by omega,rfl,rfl,HI.o⟩
 obtain⟨k,st,hkq,rfl,rfl,hI⟩:=hrel;rename World=>wr
 have HI2:=Ya hI;clear hI HI;by_cases hkl:k<q
 ·obtain⟨hd_k,i0_k,i1_k⟩:=LTl k q;obtain⟨i,hi⟩:=geX (l:=ord) (i:=k) (by rw[Hqq.o];exact hkl);obtain⟨o,hoi⟩:=Hm.o i (Zy hi);have xw:=HI2.o.ext;obtain⟨g2,p2,c2',hv2,l1,l2,_,hg2,hcell⟩:=(show Vg wr T _ ord from Rd.ext Hl.o xw).get hi;obtain⟨g,p,c,hv,hc1,hc2,hgS,hA,hN⟩:=(Ho.o.ext xw).get hoi;simp only[Yg]at hv hv2;obtain⟨rfl,_,rfl⟩:=hv;obtain⟨rfl,_,rfl⟩:=hv2;rw[Hnn.o]at hc1;rw[Hqq.o]at l1;have hin:i<n:=by rw[← Hnn.o];exact(Zr.1 hoi).1
  have q1:(0:Int)≤(i:Int):=by omega
  have q2:(i:Int)<(n:Int):=by omega
  have hC:C≤9223372036854775807:=by unfold maxLen at hc2;omega
  have hC2:C2≤9223372036854775807:=by unfold maxLen at l2;omega
  obtain⟨nA,nC,hnv⟩:=hN.shape;have hone:o.nv.oneCell'=true:=by rw[hnv];rfl
  have Hi:=Ya hi;have Hoi:=Ya hoi;have HA:=Ya hA;have HN:=Ya hN;have Hft:=Ya (Hf.o o (Zy hoi));clear hi hoi hA hN hnv;go_upto_region 7 with(first|(refine Xh HA.o rfl ?_)|(refine Wl rfl rfl rfl hone ?_));have hN1:=Un wr o;have xA:Ext wr (wr.alloc (opO o)):=(Yn wr).alloc _;obtain⟨e,he⟩:=gnX (wr.heap.size);obtain⟨W1,hW1⟩:=gnX (wr.alloc (opO o));rw[hW1]at hN1 xA⊢;rw[he]at hN1⊢;have hbe:b<e:=by rw[← he];exact HI2.o.rep.lt
  have HN1:=Ya hN1;have XA:=Ya (xw.trans xA);have MA:=Ya (HI2.o.rep.ext xA);have NA:=Ya (Rd.ext HN.o xA);have kr:W1.rangeAt e 15 (G9 o.res):=by have:=hN1.resR;rwa [Zle]at this
  have kb:W1.rangeAt e 4 (G9 o.bad):=by have:=hN1.badR;rwa [Zle]at this
  have f4:W1.cell? ⟨e,4,none⟩=some (.int .i64 o.bad.e):=hN1.2 4 (by omega);have f22:W1.cell? ⟨e,22,none⟩=some (.int .i64 o.res.tick):=hN1.2 22 (by omega);clear hN1 xA hW1 he hcell xw;by_cases hb:o.bad.e=0
  ·have hbq:(o.bad.e !=0)=false:=by simp[hb]
   have Hb:=Ya hb;clear hb;by_cases ht:o.res.tick<Si st
   ·have hd:decide (o.res.tick<Si st)=true:=Yh ht;have HS:=Ya (Zss cl cp st Hb.o Hft.o ht);clear ht;go_wp2_with fail;go_ret2;exact HI2.o.hit Hm.o Hi.o Hoi.o HS.o (by decide) rfl XA.o
   have hd:decide (o.res.tick<Si st)=false:=Yi ht;have HS:=Ya (Zn0 cl cp st Hb.o Hft.o ht);clear ht;have hfew:=HI2.o.few;go_upto_region 13 with fail;have hel:e<W1.heap.size:=HN1.o.1;have HE4:=Ya (show ¬ e=b by omega);refine Zli (S:=fun w'=>OpF w' e o∧w'.rangeAt e 15 (G9 o.res)) (by kernel_rfl) ?_ (fun hHeld=>?_)
   ·refine⟨(HN1.o.ext (Yn _).drew).f,?_⟩;have:=(HN1.o.ext (Yn _).drew).resR
    rwa [Zle]at this
   have MD:=Ya (MA.o.ext (Yn W1).drew);have OD:=Ya (HN1.o.ext (Yn W1).drew);have ND:=Ya (Rd.ext NA.o (Yn W1).drew);have XD:=Ya (XA.o.drew);obtain⟨Wd,hWd⟩:=gnX (W1.drew);rw[hWd]at MD OD ND XD hHeld;rw[hWd];clear hWd MA HN1 NA XA kr kb f4 f22 hel;refine Xz [0,1,2,3,4,5,6,7,8,9,10,11,13,14] 2 (by rfl) (by kernel_rfl) (by kernel_rfl) (fun _ _ d _ _ h=>by cases d<;>exact h) hHeld ?_;simp only[Z1,Z2,Z3,Zw,Zx];repeat(first|((with_reducible refine Nx (by kernel_rfl) rfl (fun _ h=>h.2) ?_);(try simp only[Act.put,Zv,Zu,Zt]))|(refine Xw (v:=?_) (by kernel_rfl) ?_ ?_;rotate_left;(focus((intro wT hST;obtain⟨⟨h0,h1,h2,h3,h22⟩,hR⟩:=hST;go_simp);(first|done|(with_reducible rfl))));(try simp only[Act.put,Zv,Zu,Zt])))
   refine Xv ?_;clear hHeld;refine Zlp (rs:=[12]) (by kernel_rfl) (by simp) ?_;refine Yt (o:=_) rfl (fun K hK=>?_) Ys;go_simp;refine(Zq2 (S:=fun j=>j<w.heap.size) b cl cp o.cl o.op o.ttl o.res.tick st.1 o.nv o.ns _ MD.o (by omega) ND.o (by have:=HI2.o.lo;omega)).mono ?_;rintro x w4 ⟨rfl,hM4,hC4⟩;have M4:=Ya hM4;have O4:=Ya (OD.o.chg hC4 HE4.o);have X4:=Ya (XD.o.chg_new hC4 (fun j hj=>by rw[hj];exact HI2.o.lo));obtain⟨R,hR⟩:=gnX (doR cl cp st.1 o.cl o.op o.ttl o.res.tick o.ns);have HS2:=HS.o;rw[hR]at HS2⊢;have HS:=Ya HS2;clear hM4 hC4 hR HS2 MD OD ND XD;refine hK.out _ _ ?_ (fun hHeld=>?_)
   ·refine⟨O4.o.f,?_⟩;have:=O4.o.resR
    rwa [Zle]at this
   clear hK K;try simp only[Act.put,Zv,Zu,Zt]
   refine Xz [15] 0 (by rfl) (by kernel_rfl) (by kernel_rfl) (fun _ _ d _ _ h=>by cases d<;>exact h) hHeld ?_;simp only[Z1,Z2,Z3,Zw,Zx];refine P6 (by kernel_rfl) rfl rfl ?_;(try simp only[Act.put,Zv,Zu,Zt])
   refine Xv ?_;clear hHeld;refine Zlb (by kernel_rfl) ?_ _;cases hq:Jg R o.res with
   | false =>
    have HS:=Ya (show(Qy cl cp st o).1=26 by rw[HS.o,hq];rfl);go_wp2_with fail;go_ret2;exact HI2.o.hit Hm.o Hi.o Hoi.o HS.o (by decide) rfl X4.o
   | true =>
    have HS:=Ya (show Qy cl cp st o=(0,(doL cl cp st.1 o.cl o.op o.ttl o.res.tick o.ns,o.res.tick,false)) by rw[HS.o,hq];rfl);go_wp2_with fail;go_roundw;case rel=>exact⟨k+1,_,by omega,by go_num,rfl,HI2.o.next Hi.o Hoi.o HS.o M4.o X4.o⟩
    (simp[intOf];omega)
  have hbq:(o.bad.e !=0)=true:=by simp[hb]
  cases hq:Jg o.res o.bad with
  | false =>
   have HS:=Ya (show(Qy cl cp st o).1=26 by rw[step_bad cl cp st hb,hq];rfl);clear hb;go_wp2_with (first|(refine Wg kr rfl ?_)|(refine Wg kb rfl ?_)|(refine Q4 rfl rfl ?_;rw[hq]));go_ret2;exact HI2.o.hit Hm.o Hi.o Hoi.o HS.o (by decide) rfl XA.o
  | true =>
   have HS:=Ya (show Qy cl cp st o=(0,st) by rw[step_bad cl cp st hb,hq];rfl);clear hb;go_wp2_with (first|(refine Wg kr rfl ?_)|(refine Wg kb rfl ?_)|(refine Q4 rfl rfl ?_;rw[hq]));go_roundw;case rel=>exact⟨k+1,st,by omega,by go_num,rfl,HI2.o.next Hi.o Hoi.o HS.o MA.o XA.o⟩
   (simp[intOf];omega)
 have hd_k:=GEl k q;have HE:=Ya (show Iu cl cp os ord ([],0,true)=none from Pa (fun j hj=>HI2.o.oks j (by rw[Hqq.o]at hj;omega)) Hm.o);go_wp2_with fail;go_ret2;exact⟨HI2.o.ext,.inl ⟨HE.o,rfl⟩⟩
end Go.Proofs.YtnbclgbicnpmnaaGreat
