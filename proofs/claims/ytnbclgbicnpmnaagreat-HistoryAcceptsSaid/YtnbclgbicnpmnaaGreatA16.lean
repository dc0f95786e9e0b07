/- Lemmas of this claim: RKept, Ls, MkL, Dsk, Si. Conditions: as named. -/
import Derived.Test.YtnbclgbicnpmnaaGreatA03
import Derived.Test.YtnbclgbicnpmnaaGreatA04
import Derived.Test.YtnbclgbicnpmnaaGreatA05
import Derived.Test.YtnbclgbicnpmnaaGreatA09
import Derived.Test.YtnbclgbicnpmnaaGreatA13
import Derived.Test.YtnbclgbicnpmnaaGreatA15
namespace Go.Proofs.YtnbclgbicnpmnaaGreat
open Go.RowKit Go.Sort
set_option maxHeartbeats 0
set_option maxRecDepth 100000
set_option linter.all false
theorem Zve:(Tryz.prog.info? 161).map (fun i=>(i.zero,i.size,i.bytes))=some (some (.agg #[.string ⟨#[]⟩,.int .i64 0,.int .i64 0,.string ⟨#[]⟩,.int .i64 0]),5,56):=by kernel_rfl
theorem L8:Tryz.prog.underlying 131=some (.slice 161):=by kernel_rfl
theorem Zxp{key:ByteArray}{r:Rc}{d:Bool}{p:Kp}{l:List Kp}(h:p.1=key):Wc key r d (p::l)=Wc key r d l:=by rw[Wc,Zm4 h]
theorem Zr2{key:ByteArray}{r:Rc}{p:Kp}{l:List Kp}(h:p.1≠key)(hl:kb key<kb p.1):Wc key r false (p::l)=(key,r)::p::Wc key r true l:=by rw[Wc,Zm2 h,Zm4 ⟨rfl,hl⟩]
theorem Zxq{key:ByteArray}{r:Rc}{d:Bool}{p:Kp}{l:List Kp}(h:p.1≠key)(hl:¬ (d=false∧kb key<kb p.1)):Wc key r d (p::l)=p::Wc key r d l:=by rw[Wc,Zm2 h,Zm2 hl]
theorem Kr(l:List Kp)(p:Kp):Wh (l++[p])=Wh l++Fd p:=by rw[Uv];simp[Wh]
theorem Zuh{w:World}{base base':Nat}{e:TypeId}{size:Nat}{v:Value}{n:Nat}{xs:List Value}(h:w.ownsRow base e size v n xs)(hb:base'≤base):w.ownsRow base' e size v n xs:=by
 refine⟨h.1,?_⟩;rcases h.2 with h2 | ⟨g,cap,cur,h1,h2,h3⟩
 ·exact .inl h2
 exact .inr ⟨g,cap,cur,h1,Zm5 hb h2,h3⟩
def Zwl(l:List Kp)(w:World)(e:Ending)(w':World):Prop:=∃ v,e=.returned v∧w'.ownsRow w.heap.size 161 5 v l.length (Wh l)∧Ext w w'
theorem Lm{S:Nat→Prop}(v:Value)(l:List Kp)(key:ByteArray)(r:Rc)(w:World)(hl:KeptAt w S v l)(hll:l.length≤100000) :
 Calls Tryz.prog 73 #[v,.string key,rcV r] w (Zwl (Jn l key r) w):=by
 obtain⟨A,c,rfl⟩:=hl.shape;obtain⟨i0,hi,hz0,hz1,hz2⟩:=Zm7 Zve;obtain⟨st,ow,nm,dl⟩:=r;unfold rcV;have Hl:=Y4 hl;clear hl;go_enter Tryz.func73,Tryz.ntmps73;go_wp2_with fail;have Hx0:=Y4 ((Yl w).alloc (.cells #[.int .i64 st,.int .i64 ow,.string nm,.int .i64 dl] 51));have q0:(w.alloc (.cells #[.int .i64 st,.int .i64 ow,.string nm,.int .i64 dl] 51)).cell? ⟨w.heap.size,0,none⟩=some (.int .i64 st):=by go_simp
 have q1:(w.alloc (.cells #[.int .i64 st,.int .i64 ow,.string nm,.int .i64 dl] 51)).cell? ⟨w.heap.size,1,none⟩=some (.int .i64 ow):=by go_simp
 have q2:(w.alloc (.cells #[.int .i64 st,.int .i64 ow,.string nm,.int .i64 dl] 51)).cell? ⟨w.heap.size,2,none⟩=some (.string nm):=by go_simp
 have q3:(w.alloc (.cells #[.int .i64 st,.int .i64 ow,.string nm,.int .i64 dl] 51)).cell? ⟨w.heap.size,3,none⟩=some (.int .i64 dl):=by go_simp
 have ql:w.heap.size<(w.alloc (.cells #[.int .i64 st,.int .i64 ow,.string nm,.int .i64 dl] 51)).heap.size:=by simp
 obtain⟨W0,hW0⟩:=gnX (w.alloc (.cells #[.int .i64 st,.int .i64 ow,.string nm,.int .i64 dl] 51));rw[hW0]at Hx0 q0 q1 q2 q3 ql;rw[hW0];have hlow:w.heap.size≤W0.heap.size:=by omega
 clear hW0;go_loopw [16,8,7] (fun o d v wr=>∃ (k:Nat) (db:Bool) (out:List Kp),k≤l.length∧o=.int .i64 (k:Int)∧d=.bool db∧wr.ownsRow W0.heap.size 161 5 v out.length (Wh out)∧out++Wc key ⟨st,ow,nm,dl⟩ db (l.drop k)=Jn l key ⟨st,ow,nm,dl⟩∧out.length≤2*k∧Ext W0 wr) (fun o _ _ _=>l.length-(intOf o).toNat);case atStart=>exact⟨0,st==0,[],by omega,rfl,rfl,Zkn _ _ _ _,rfl,by simp,Yl _⟩
 obtain⟨k,db,out,hk,rfl,rfl,hown,hinv,hol,hx⟩:=hrel;obtain⟨la,lc,rfl⟩:=Wu hown;have Hx:=Y4 hx;have Hown:=Y4 hown;replace q0:=(hx.cell (p:=⟨w.heap.size,0,none⟩) ql).trans q0;replace q1:=(hx.cell (p:=⟨w.heap.size,1,none⟩) ql).trans q1;replace q2:=(hx.cell (p:=⟨w.heap.size,2,none⟩) ql).trans q2;replace q3:=(hx.cell (p:=⟨w.heap.size,3,none⟩) ql).trans q3;replace ql:=Zm1 ql hx.size;clear hx hown;by_cases hlt:k<l.length
 ·have hd:decide ((k:Int)<(l.length:Int))=true:=by simpa using hlt
  obtain⟨p,hpk⟩:∃ p,l[k]?=some p:=⟨l[k],by simp[hlt]⟩;obtain⟨g,o,c',hv,p1,p2,_,b1,x0,x1,x2,x3,x4⟩:=KeptAt.get (Rd.ext Hl.o (Hx0.o.trans Hx.o)) hpk;simp only[Ye,Zls]at hv;obtain⟨rfl,rfl⟩:=hv;have j0:(0:Int)≤(k:Int):=by omega
  have j1:(k:Int)<(l.length:Int):=by omega
  rw[Ua hpk]at hinv;have Hinv:=Y4 hinv;clear hpk hinv;by_cases he:p.1=key
  ·have hinv:=Hinv.o;rw[Zxp he]at hinv;subst he;replace Hinv:=Y4 hinv;clear hinv q0 q1 q2 q3;go_wp2_with fail;go_roundw;case rel=>exact⟨k+1,db,out,by omega,by go_num,rfl,(Up Hown.o ((Yl _).alloc _)),Hinv.o,by omega,Hx.o.alloc _⟩
   simp[intOf];omega
  have hne:(p.1.toList==key.toList)=false:=by rw[Zli,Zli];simp only[beq_eq_false_iff_ne];exact fun e=>he (Ns e)
  have He:=Y4 he;clear he;go_upto_region 7 with fail;have z0:(wr.alloc (.cells #[.string p.1,.int .i64 p.2.st,.int .i64 p.2.ow,.string p.2.nm,.int .i64 p.2.dl] 161)).cell? ⟨wr.heap.size,0,none⟩=some (.string p.1):=by go_simp
  have z1:(wr.alloc (.cells #[.string p.1,.int .i64 p.2.st,.int .i64 p.2.ow,.string p.2.nm,.int .i64 p.2.dl] 161)).cell? ⟨wr.heap.size,1,none⟩=some (.int .i64 p.2.st):=by go_simp
  have z2:(wr.alloc (.cells #[.string p.1,.int .i64 p.2.st,.int .i64 p.2.ow,.string p.2.nm,.int .i64 p.2.dl] 161)).cell? ⟨wr.heap.size,2,none⟩=some (.int .i64 p.2.ow):=by go_simp
  have z3:(wr.alloc (.cells #[.string p.1,.int .i64 p.2.st,.int .i64 p.2.ow,.string p.2.nm,.int .i64 p.2.dl] 161)).cell? ⟨wr.heap.size,3,none⟩=some (.string p.2.nm):=by go_simp
  have z4:(wr.alloc (.cells #[.string p.1,.int .i64 p.2.st,.int .i64 p.2.ow,.string p.2.nm,.int .i64 p.2.dl] 161)).cell? ⟨wr.heap.size,4,none⟩=some (.int .i64 p.2.dl):=by go_simp
  have hxW:Ext wr (wr.alloc (.cells #[.string p.1,.int .i64 p.2.st,.int .i64 p.2.ow,.string p.2.nm,.int .i64 p.2.dl] 161)):=(Yl wr).alloc _;have zl:wr.heap.size<(wr.alloc (.cells #[.string p.1,.int .i64 p.2.st,.int .i64 p.2.ow,.string p.2.nm,.int .i64 p.2.dl] 161)).heap.size:=by simp
  obtain⟨bb,hbb⟩:=gnX (wr.heap.size);obtain⟨W1,hW1⟩:=gnX (wr.alloc (.cells #[.string p.1,.int .i64 p.2.st,.int .i64 p.2.ow,.string p.2.nm,.int .i64 p.2.dl] 161));rw[hW1]at z0 z1 z2 z3 z4 hxW zl;rw[hW1];rw[hbb]at z0 z1 z2 z3 z4 zl;rw[hbb];replace q0:=(hxW.cell (p:=⟨w.heap.size,0,none⟩) ql).trans q0;replace q1:=(hxW.cell (p:=⟨w.heap.size,1,none⟩) ql).trans q1;replace q2:=(hxW.cell (p:=⟨w.heap.size,2,none⟩) ql).trans q2;replace q3:=(hxW.cell (p:=⟨w.heap.size,3,none⟩) ql).trans q3;have Hown1:=Y4 (Up Hown.o hxW);have Hx1:=Y4 (Hx.o.trans hxW);have hw1:W0.heap.size≤W1.heap.size:=by have:=(Hx.o.trans hxW).size;exact this
  have hnb:¬ (Value.slice la out.length lc).ownBlock=some bb:=fun e=>by have:=(Hown.o.lt bb e).2;omega
  clear hW1 hbb hxW x0 x1 x2 x3 x4 Hx Hown b1;go_cut [31] from 17 to 42 (fun x wx=>(∃ bo:Bool,x=.bool bo∧(bo=true↔db=false∧kb key<kb p.1))∧wx=W1)
  case first =>
   clear q0 q1 q2 q3 z1 z2 z3 z4;cases db with
   | true =>
    go_wp2_with fail;go_meet;exact⟨⟨_,rfl,by simp⟩,rfl⟩
   | false =>
    by_cases hin:kb key<kb p.1
    ·obtain⟨g1,_⟩:=Tb (x:=p.1) (s:=key) hin;go_wp2_with fail;go_meet;exact⟨⟨_,rfl,by simpa using hin⟩,rfl⟩
    have g1:Op.bytesLess p.1.toList key.toList=true:=by
     have:=O3 (x:=p.1) (s:=key) hin;rw[hne,Bool.or_false]at this;exact this
    go_wp2_with fail;go_meet;exact⟨⟨_,rfl,by simpa using hin⟩,rfl⟩
  case rest =>
  obtain⟨⟨bo,rfl,hbo⟩,rfl⟩:=hcut;have Hbo:=Y4 hbo;clear hbo;go_upto_if 31 with fail;go_cut [8,7] from 17 to 42 (fun d v wx=>∃ (db2:Bool) (out2:List Kp),d=.bool db2∧wx.ownsRow W0.heap.size 161 5 v out2.length (Wh out2)∧out2++p::Wc key ⟨st,ow,nm,dl⟩ db2 (l.drop (k+1))=Jn l key ⟨st,ow,nm,dl⟩∧out2.length≤2*k+1∧Chg (fun i=>(Value.slice la out.length lc).ownBlock=some i) wc wx∧Ext W0 wx)
  case first =>
   cases bo with
   | true =>
    obtain⟨hdb,hin⟩:=Hbo.o.1 rfl;have hinv:=Hinv.o;rw[hdb,Zr2 He.o hin]at hinv;have hrl:=Qu wc #[.string key,.int .i64 st,.int .i64 ow,.string nm,.int .i64 dl] 161 5 (by rfl);have hbz:W0.heap.size≤(wc.alloc (.cells #[.string key,.int .i64 st,.int .i64 ow,.string nm,.int .i64 dl] 161)).heap.size:=by simp;omega
    replace Hinv:=Y4 hinv;clear hinv hin hdb z0 z1 z2 z3 z4;go_wp2_with (at_builtin;refine Vh _ rfl _ _ 131 rfl W0.heap.size 161 i0 _ 5 56 L8 hi hz0 hz1 hz2 rfl (by decide) _ out.length _ rfl (Hown1.o.alloc _) (fun _=>True) _ 1 _ rfl hrl (by simp[Value.oneCell']) (by unfold maxLen;omega) (by omega) hbz ?_;intro v' w6 ha;obtain⟨a3,c3',hv3⟩:=Wu ha.own;subst hv3);go_meet;refine⟨true,out++[(key,⟨st,ow,nm,dl⟩)],rfl,?_,by rw[← Hinv.o];simp,by simp;omega,((Chg.refl _ wc).alloc _).grown ha.grown fun k hk=>.inl hk,(Hx1.o.alloc _).grown ha.grown fun k hk=>(Hown1.o.lt k hk).1⟩;rw[Kr,Zs];exact ha.own
   | false =>
    have hinv:=Hinv.o;rw[Zxq He.o fun h=>by have:=Hbo.o.2 h;simp at this]at hinv;replace Hinv:=Y4 hinv;clear hinv z0 z1 z2 z3 z4;go_wp2_with fail;go_meet;exact⟨db,out,rfl,Hown1.o,Hinv.o,by omega,Chg.refl _ _,Hx1.o⟩
  case rest =>
  obtain⟨db2,out2,rfl,hown2,hinv2,hol2,hc2,hx2⟩:=hcut;obtain⟨la2,lc2,rfl⟩:=Wu hown2;replace z0:=(hc2.cell (p:=⟨bb,0,none⟩) zl hnb).trans z0;replace z1:=(hc2.cell (p:=⟨bb,1,none⟩) zl hnb).trans z1;replace z2:=(hc2.cell (p:=⟨bb,2,none⟩) zl hnb).trans z2;replace z3:=(hc2.cell (p:=⟨bb,3,none⟩) zl hnb).trans z3;replace z4:=(hc2.cell (p:=⟨bb,4,none⟩) zl hnb).trans z4;have hrl:=Qu wc #[.string p.1,.int .i64 p.2.st,.int .i64 p.2.ow,.string p.2.nm,.int .i64 p.2.dl] 161 5 (by rfl);have hbz:W0.heap.size≤(wc.alloc (.cells #[.string p.1,.int .i64 p.2.st,.int .i64 p.2.ow,.string p.2.nm,.int .i64 p.2.dl] 161)).heap.size:=by have:=hx2.size;simp;omega
  have Hx2:=Y4 hx2;have Hown2:=Y4 hown2;have Hinv2:=Y4 hinv2;clear hx2 hc2 hown2 hinv2 q0 q1 q2 q3 Hinv Hown1 Hx1;go_wp2_with (at_builtin;refine Vh _ rfl _ _ 131 rfl W0.heap.size 161 i0 _ 5 56 L8 hi hz0 hz1 hz2 rfl (by decide) _ out2.length _ rfl (Hown2.o.alloc _) (fun _=>True) _ 1 _ rfl hrl (by simp[Value.oneCell']) (by unfold maxLen;omega) (by omega) hbz ?_;intro v' w6 ha;obtain⟨a3,c3',hv3⟩:=Wu ha.own;subst hv3);have hend:w6.ownsRow W0.heap.size 161 5 (.slice a3 (out2.length+1) c3') (out2++[p]).length (Wh (out2++[p])):=by
   rw[Kr,Zs];exact ha.own
  have hx6:=(Hx2.o.alloc (.cells #[.string p.1,.int .i64 p.2.st,.int .i64 p.2.ow,.string p.2.nm,.int .i64 p.2.dl] 161)).grown ha.grown fun k hk=>(Hown2.o.lt k hk).1
  have Hend:=Y4 hend;have Hx6:=Y4 hx6;clear ha hend hx6 hrl hbz;go_roundw;case rel=>exact⟨k+1,db2,out2++[p],by omega,by go_num,rfl,Hend.o,by rw[← Hinv2.o];simp,by simp;omega,Hx6.o⟩
  simp[intOf];omega
 have hd:decide ((k:Int)<(l.length:Int))=false:=by simp;omega
 rw[Zkq (by omega)]at hinv;cases db with
 | true =>
  have hout:out=Jn l key ⟨st,ow,nm,dl⟩:=by rw[← hinv];simp[Wc]
  subst hout;clear q0 q1 q2 q3 hinv;go_wp2_with fail;go_ret;exact⟨_,rfl,Zuh Hown.o hlow,Hx0.o.trans Hx.o⟩
 | false =>
  have hinv2:out++[(key,(⟨st,ow,nm,dl⟩:Rc))]=Jn l key ⟨st,ow,nm,dl⟩:=by rw[← hinv];simp[Wc]
  have hrl:=Qu wr #[.string key,.int .i64 st,.int .i64 ow,.string nm,.int .i64 dl] 161 5 (by rfl);have hbz:W0.heap.size≤(wr.alloc (.cells #[.string key,.int .i64 st,.int .i64 ow,.string nm,.int .i64 dl] 161)).heap.size:=by have:=Hx.o.size;simp;omega
  clear hinv;go_wp2_with (at_builtin;refine Vh _ rfl _ _ 131 rfl W0.heap.size 161 i0 _ 5 56 L8 hi hz0 hz1 hz2 rfl (by decide) _ out.length _ rfl (Hown.o.alloc _) (fun _=>True) _ 1 _ rfl hrl (by simp[Value.oneCell']) (by unfold maxLen;omega) (by omega) hbz ?_;intro v' w6 ha;obtain⟨a3,c3',hv3⟩:=Wu ha.own;subst hv3);go_ret;refine⟨_,rfl,?_,?_⟩
  ·rw[← hinv2,Kr,Zs];exact Zuh ha.own hlow
  exact Hx0.o.trans ((Hx.o.alloc _).grown ha.grown fun k hk=>(Hown.o.lt k hk).1)
theorem Ju:(Tryz.prog.info? 4).map (fun i=>(i.zero,i.size,i.bytes))=some (some (.bool false),1,1):=by kernel_rfl
theorem So:Tryz.prog.underlying 117=some (.slice 4):=by kernel_rfl
noncomputable def Ot:Enc Bool where
 ty:=4
 sl:=117
 z:=1
 bytes:=1
 cells l:=l.map Value.bool
 app a b:=Yy
 len l:=by simp
 one l:=Eb _ (fun _=>rfl) l
 und:=So
 i:=Classical.choose (Zm7 Ju)
 zero:=.bool false
 info:=(Yo (Zm7 Ju)).1
 hz:=(Yo (Zm7 Ju)).2.1
 hs:=(Yo (Zm7 Ju)).2.2.1
 hb:=(Yo (Zm7 Ju)).2.2.2
 hc:=rfl
 pos:=by omega
theorem Ax{l:List Bool}{j:Nat}{x:Bool}(h:l[j]?=some x):(Ot.cells l)[j]?=some (.bool x):=by
 show(l.map Value.bool)[j]?=_;rw[Zn,h];rfl
structure Sl where
 a:Option Addr
 n:Nat
 c:Nat
def Sl.v(s:Sl):Value:=.slice s.a s.n s.c
theorem Uz:(Tryz.prog.info? 22).map (fun i=>(i.zero,i.size,i.bytes))=some (some (.slice none 0 0),1,24):=by kernel_rfl
theorem Ztf:Tryz.prog.underlying 268=some (.slice 22):=by kernel_rfl
noncomputable def Znj:Enc Sl where
 ty:=22
 sl:=268
 z:=1
 bytes:=24
 cells l:=l.map Sl.v
 app a b:=Yy
 len l:=by simp
 one l:=Eb _ (fun _=>rfl) l
 und:=Ztf
 i:=Classical.choose (Zm7 Uz)
 zero:=.slice none 0 0
 info:=(Yo (Zm7 Uz)).1
 hz:=(Yo (Zm7 Uz)).2.1
 hs:=(Yo (Zm7 Uz)).2.2.1
 hb:=(Yo (Zm7 Uz)).2.2.2
 hc:=rfl
 pos:=by omega
theorem Dj{l:List Sl}{j:Nat}{x:Sl}(h:l[j]?=some x):(Znj.cells l)[j]?=some x.v:=by
 show(l.map Sl.v)[j]?=_;rw[Zn,h];rfl
def Kx(w:World)(S:Nat→Prop)(vs:List Sl)(ls:List (List Int)):Prop:=vs.length=ls.length∧∀ (j:Nat) (s:Sl) (x:List Int),vs[j]?=some s→ls[j]?=some x→Xx w S s.v x
theorem Kx.ext{w w':World}{S:Nat→Prop}{vs:List Sl}{ls:List (List Int)}(h:Kx w S vs ls)(x:Ext w w'):Kx w' S vs ls:=⟨h.1,fun j s y h1 h2=>(h.2 j s y h1 h2).ext x⟩
theorem Kx.chg{w w':World}{S T:Nat→Prop}{vs:List Sl}{ls:List (List Int)}(h:Kx w S vs ls)(c:Chg T w w')(hd:∀ k,S k→¬ T k):Kx w' S vs ls:=⟨h.1,fun j s y h1 h2=>(h.2 j s y h1 h2).chg c hd⟩
theorem Kx.mono{w:World}{S T:Nat→Prop}{vs:List Sl}{ls:List (List Int)}(h:Kx w S vs ls)(hd:∀ k,S k→k<w.heap.size→T k):Kx w T vs ls:=⟨h.1,fun j s y h1 h2=>Rd.mono (h.2 j s y h1 h2) hd⟩
def Zyy(w:World)(v:Value)(ls:List (List Int)):Prop:=∃ vs:List Sl,RdE Znj w (fun _=>True) v vs∧Kx w (fun _=>True) vs ls
theorem Zyy.ext{w w':World}{v:Value}{ls:List (List Int)}(h:Zyy w v ls)(x:Ext w w'):Zyy w' v ls:=by
 obtain⟨vs,h1,h2⟩:=h;exact⟨vs,h1.ext x,h2.ext x⟩
theorem Zyy.shape{w:World}{v:Value}{ls:List (List Int)}(h:Zyy w v ls):∃ A c,v=.slice A ls.length c∧ls.length≤c∧c≤maxLen:=by
 obtain⟨vs,h1,h2,_⟩:=h;obtain⟨A,c,e,h3,h4⟩:=h1.shape;rw[h2]at e h3;exact⟨A,c,e,h3,h4⟩
theorem Zyy.get{w:World}{v:Value}{ls:List (List Int)}(h:Zyy w v ls){j:Nat}{x:List Int}(hj:ls[j]?=some x) :
 ∃ g o c u,v=.slice (some ⟨g,o,none⟩) ls.length c∧ls.length≤c∧c≤maxLen∧g<w.heap.size∧w.cell? ⟨g,o+j,none⟩=some u∧Xx w (fun _=>True) u x:=by
 obtain⟨vs,h1,h2,h3⟩:=h;have hjl:=(Zr.1 hj).1;obtain⟨g,o,c,e,k1,k2,k3,k4,k5⟩:=Rd.at_ h1 (show j<vs.length by omega);have hs:vs[j]?=some vs[j]:=Zz (by omega);rw[h2]at e k1;exact⟨g,o,c,_,e,k1,k2,k4,k5 j _ (Dj hs),h3 j _ _ hs hj⟩
def Mv(w:World)(B:Nat)(v:Value)(vs:List Sl)(ls:List (List Int)):Prop:=Own Znj w B v vs∧Kx w (fun k=>v.ownBlock≠some k) vs ls
theorem Mv.ext{w w':World}{B:Nat}{v:Value}{vs:List Sl}{ls:List (List Int)}(h:Mv w B v vs ls)(x:Ext w w'):Mv w' B v vs ls:=⟨h.1.ext x,h.2.ext x⟩
theorem Mv.at_{w:World}{B:Nat}{v:Value}{vs:List Sl}{ls:List (List Int)}(h:Mv w B v vs ls):Zyy w v ls:=⟨vs,Rd.mono h.1.rd fun _ _ _=>trivial,h.2.mono fun _ _ _=>trivial⟩
section
def KS(l:List Nm):Prop:=∀ n∈l,n.k.size≤16384
theorem KS.nil:KS []:=fun _ h=>by cases h
theorem KS.snoc{l:List Nm}{n:Nm}(h:KS l)(hn:n.k.size≤16384):KS (l++[n]):=fun x hx=>by
 rcases Zj.1 hx with h1|h1
 ·exact h x h1
 rw[Zi.1 h1];exact hn
def Behind(o:Option (List UInt8))(n:Nm):Bool:=match o with|none=>true|some x=>decide (x<kb n.k)
def Gr(L:List Nm)(o:Option (List UInt8)):Nat:=L.countP (fun n=>!Behind o n)
theorem Tv(L:List Nm):Gr L none=0:=by unfold Gr Behind;simp
theorem behind_next{o:Option (List UInt8)}{m n:Nm}(hm:Behind o m=true)(hn:Behind o n=false):Behind (some (kb m.k)) n=false:=by
 cases o with
 | none=>simp[Behind]at hn
 | some x =>
  simp only[Behind,Zlu,Zlt]at hm hn⊢;intro h;exact hn (Zik hm h)
theorem Mf{L:List Nm}{o:Option (List UInt8)}{m n:Nm}(hm:Behind o m=true)(hmin:Behind o n=true→¬ kb n.k<kb m.k)(hne:n.k≠m.k):Behind (some (kb m.k)) n=Behind o n:=by
 cases hb:Behind o n
 ·exact behind_next hm hb
 simp only[Behind,Zlu];rcases Zqf hne with h|h
 ·exact absurd h (hmin hb)
 exact h
theorem Tu{L:List Nm}{o:Option (List UInt8)}{k:Nat}{m:Nm}(hk:L[k]?=some m)(hm:Behind o m=true)(hmin:∀ n∈L,Behind o n=true→¬ kb n.k<kb m.k)(huq:∀ i n,L[i]?=some n→n.k=m.k→i=k) :
 Gr L (some (kb m.k))=Gr L o+1:=by
 have hkl:=(Zr.1 hk).1;have e:L=L.take k++m::L.drop (k+1):=by
  have:=Zr.1 hk;obtain⟨h1,h2⟩:=this;rw[← h2];simp
 have a1:(L.take k).countP (fun n=>!Behind (some (kb m.k)) n)=(L.take k).countP (fun n=>!Behind o n):=by
  apply List.countP_congr;intro n hn;obtain⟨i,hi,rfl⟩:=List.mem_iff_getElem.1 hn;have hi':i<k:=by rw[Zp]at hi;omega
  have hin:L[i]?=some (L.take k)[i]:=by rw[List.getElem_take];exact Zz _
  rw[Mf (L:=L) hm (hmin _ (Zy hin)) (fun e=>by have:=huq _ _ hin e;omega)]
 have a2:(L.drop (k+1)).countP (fun n=>!Behind (some (kb m.k)) n)=(L.drop (k+1)).countP (fun n=>!Behind o n):=by
  apply List.countP_congr;intro n hn;obtain⟨i,hi,rfl⟩:=List.mem_iff_getElem.1 hn;have hin:L[k+1+i]?=some (L.drop (k+1))[i]:=by rw[List.getElem_drop];exact Zz _
  rw[Mf (L:=L) hm (hmin _ (Zy hin)) (fun e=>by have:=huq _ _ hin e;omega)]
 have b1:Behind (some (kb m.k)) m=false:=by simp[Behind,Zk0]
 unfold Gr;rw[e,Zit,Zit,a1,Zj7,Zj7,a2,b1,hm];simp;omega
theorem Tw{L:List Nm}{o:Option (List UInt8)}(h:Gr L o<L.length):∃ (k:Nat) (m:Nm),L[k]?=some m∧Behind o m=true:=by
 refine Zk1 fun hn=>?_
 have:Gr L o=L.length:=by
  unfold Gr;rw[List.countP_eq_length];intro n hm;obtain⟨k,hk⟩:=Zlr hm;cases hb:Behind o n
  ·rfl
  exact absurd ⟨k,n,hk,hb⟩ hn
 omega
def Sel(L:List Nm)(o:Option (List UInt8))(i:Nat)(z:Int):Prop :=
 (z = -1∧∀ j n,j<i→L[j]?=some n→Behind o n=false) ∨
 ∃ (k:Nat) (m:Nm),z=(k:Int)∧k<i∧L[k]?=some m∧Behind o m=true∧(∀ j n,j<i→L[j]?=some n→Behind o n=true→¬ kb n.k<kb m.k)∧∀ j n,j<k→L[j]?=some n→n.k≠m.k
section
variable {L:List Nm} {o:Option (List UInt8)} {i:Nat} {z:Int} {n:Nm}
theorem Me{m n:Nm}(h:n.k=m.k):Behind o n=Behind o m:=by cases o<;>simp[Behind,h]
theorem Sel.start(L:List Nm)(o:Option (List UInt8)):Sel L o 0 (-1):=.inl ⟨rfl,fun j n h=>by omega⟩
theorem Sel.skip(h:Sel L o i z)(hn:L[i]?=some n)(hb:Behind o n=false):Sel L o (i+1) z:=by
 rcases h with⟨rfl,h⟩ | ⟨k,m,rfl,hk,hm,hb2,h1,h2⟩
 ·refine .inl ⟨rfl,fun j x hj hx=>?_⟩;rcases(show j<i∨j=i by omega)with h3|rfl
  ·exact h j x h3 hx
  rw[hn]at hx;cases hx;exact hb
 refine .inr ⟨k,m,rfl,by omega,hm,hb2,fun j x hj hx hbx=>?_,h2⟩;rcases(show j<i∨j=i by omega)with h3|rfl
 ·exact h1 j x h3 hx hbx
 rw[hn]at hx;cases hx;rw[hb]at hbx;cases hbx
theorem Sel.first(h:Sel L o i (-1))(hn:L[i]?=some n)(hb:Behind o n=true):Sel L o (i+1) (i:Int):=by
 rcases h with⟨_,h⟩ | ⟨k,m,e,_⟩
 ·refine .inr ⟨i,n,rfl,by omega,hn,hb,fun j x hj hx hbx=>?_,fun j x hj hx e=>?_⟩
  ·rcases(show j<i∨j=i by omega)with h3|rfl
   ·rw[h j x h3 hx]at hbx;cases hbx
   rw[hn]at hx;cases hx;exact Zk0 _
  have:=h j x hj hx;rw[Me e,hb]at this;cases this
 omega
theorem Sel.less{k:Nat}{m:Nm}(h:Sel L o i (k:Int))(hm:L[k]?=some m)(hn:L[i]?=some n)(hb:Behind o n=true)(hl:kb n.k<kb m.k):Sel L o (i+1) (i:Int):=by
 rcases h with⟨e,_⟩ | ⟨k',m',e,hk,hm',hb2,h1,h2⟩
 ·omega
 obtain rfl:k'=k:=by omega
 rw[hm]at hm';cases hm'
 refine .inr ⟨i,n,rfl,by omega,hn,hb,fun j x hj hx hbx hlt=>?_,fun j x hj hx e=>?_⟩
 ·rcases(show j<i∨j=i by omega)with h3|rfl
  ·exact h1 j x h3 hx hbx (Zik hlt hl)
  rw[hn]at hx;cases hx;exact Zk0 _ hlt
 exact h1 j x hj hx (by rw[Me e];exact hb) (by rw[e];exact hl)
theorem Sel.keep{k:Nat}{m:Nm}(h:Sel L o i (k:Int))(hm:L[k]?=some m)(hn:L[i]?=some n)(hl:¬ kb n.k<kb m.k):Sel L o (i+1) (k:Int):=by
 rcases h with⟨e,_⟩ | ⟨k',m',e,hk,hm',hb2,h1,h2⟩
 ·omega
 obtain rfl:k'=k:=by omega
 rw[hm]at hm';cases hm'
 refine .inr ⟨k',m,rfl,by omega,hm,hb2,fun j x hj hx hbx=>?_,h2⟩;rcases(show j<i∨j=i by omega)with h3|rfl
 ·exact h1 j x h3 hx hbx
 rw[hn]at hx;cases hx;exact hl
theorem Sel.at_(h:Sel L o i z):z = -1∨∃ (k:Nat) (m:Nm),z=(k:Int)∧k<i∧L[k]?=some m:=by
 rcases h with⟨e,_⟩ | ⟨k,m,e,hk,hm,_⟩
 ·exact .inl e
 exact .inr ⟨k,m,e,hk,hm⟩
theorem Sel.found(h:Sel L o L.length z)(hc:Gr L o<L.length):∃ (k:Nat) (m:Nm),z=(k:Int)∧k<L.length∧L[k]?=some m∧Behind o m=true∧(∀ x∈L,Behind o x=true→¬ kb x.k<kb m.k)∧∀ j x,j<k→L[j]?=some x→x.k≠m.k:=by
 rcases h with⟨_,h⟩ | ⟨k,m,e,hk,hm,hb2,h1,h2⟩
 ·obtain⟨k,m,hm,hb⟩:=Tw hc;rw[h k m (Zr.1 hm).1 hm]at hb;cases hb
 refine⟨k,m,e,hk,hm,hb2,fun x hx hbx=>?_,h2⟩;obtain⟨j,hj⟩:=Zlr hx;exact h1 j x (Zr.1 hj).1 hj hbx
def Db(out:List Nm):Option (List UInt8):=out.getLast?.map fun n=>kb n.k
def KG(l:List Nm):Prop:=KS l∧l.all Q4=true
theorem KG.nil:KG []:=⟨KS.nil,rfl⟩
theorem KG.snoc{l:List Nm}{n:Nm}(h:KG l)(hn:n.k.size≤16384)(hg:Q4 n=true):KG (l++[n]):=⟨h.1.snoc hn,by rw[List.all_append,h.2];simp[hg]⟩
theorem Zzd:∀ {l:List Nm} {m:Nm},srt l=true→Behind (Db l) m=true→srt (l++[m])=true
 | [],_,_,_=>rfl
 | [x],m,_,h=>by
  have:kb x.k<kb m.k:=by simpa[Behind,Db]using h
  show(decide (kb x.k<kb m.k)&&srt [m])=true;rw[Yf this];rfl
 | x::y::r,m,hs,h=>by
  have e:Db (x::y::r)=Db (y::r):=by simp[Db]
  rw[srt,Zlp]at hs;have ih:=Zzd (l:=y::r) hs.2 (e▸h);show(decide (x.k.data.toList<y.k.data.toList)&&srt ((y::r)++[m]))=true;rw[ih,hs.1];rfl
theorem Zy5(out:List Nm)(m:Nm):Db (out++[m])=some (kb m.k):=by simp[Db]
theorem Zrt{out:List Nm}{y:Nm}(h:out[out.length-1]?=some y):Db out=some (kb y.k):=by
 unfold Db;rw[Zjo,h];rfl
theorem Ro{a b:ByteArray}(h:kb a<kb b):Op.bytesLess a.toList b.toList=true:=by
 rw[Go.Proofs.bytesLess_eq,Zli,Zli];unfold kb at h;simpa using h
theorem Nr{a b:ByteArray}(h:¬ kb a<kb b):Op.bytesLess a.toList b.toList=false:=by
 rw[Go.Proofs.bytesLess_eq,Zli,Zli];unfold kb at h;simpa using h
theorem Zp9{x s:ByteArray}(h:kb s<kb x):Op.bytesLess x.toList s.toList=false∧(x.toList==s.toList)=false:=by
 unfold kb at h;exact Tb h
theorem Zs7{x s:ByteArray}(h:¬ kb s<kb x):(!Op.bytesLess x.toList s.toList&&!(x.toList==s.toList))=false:=by
 unfold kb at h;have:=O3 h;cases h1:Op.bytesLess x.toList s.toList<;>cases h2:(x.toList==s.toList)<;>simp_all
end
end
theorem Zrc{w:World}{B z g n c m:Nat}{t:TypeId}{xs:List Value}(h:w.ownsRow B t z (.slice (some ⟨g,0,none⟩) n c) m xs)(j:Nat)(u:Value):(w.setCell ⟨g,j,none⟩ u).ownsRow B t z (.slice (some ⟨g,0,none⟩) n c) m (xs.set j u):=by
 obtain⟨h1,h2⟩:=h;refine⟨by rw[Zf];exact h1,?_⟩;rcases h2 with⟨h2,_⟩ | ⟨g',cap,cur,he,hb,hg,hn,hm,hs,ht⟩
 ·simp at h2
 simp only[Ye,Yd,Zly,Zls,Zlc]at he;obtain⟨rfl,he2,rfl⟩:=he;refine .inr ⟨g,c,cur.setIfInBounds j u,?_,hb,?_,hn,hm,by simpa using hs,?_⟩
 ·rw[← he2]
 ·simp[World.setCell,Zkb,hg]
 rw[← ht];simp[List.take_set]
structure Vt where
 cl:Int
 st:Int
 text:ByteArray
 op:Int
 ttl:Int
 lv:Value
 ns:List Nm
 rv:Value
 rs:List Rc
 ans:Ac
 i:Int
def Wb(r:Ac):List Value:=[.int .i64 r.e,.int .i64 r.at_,.string r.nm,.int .i64 r.rc.st,.int .i64 r.rc.ow,.string r.rc.nm,.int .i64 r.rc.dl,.int .i64 r.tick]
def machC(T:Tbl)(m:Vt):List Value:=[T.catV,T.clsV,T.joiV,T.bidV,T.scrV,T.staV,T.ignV,T.extV,T.mapV,T.decV,T.excV,T.proV,.int .i64 m.cl,.int .i64 m.st,.string m.text,.int .i64 m.op,.int .i64 m.ttl,m.lv,m.rv,.int .i64 m.ans.e,.int .i64 m.ans.at_,.string m.ans.nm,.int .i64 m.ans.rc.st,.int .i64 m.ans.rc.ow,.string m.ans.rc.nm,.int .i64 m.ans.rc.dl,.int .i64 m.ans.tick,.int .i64 m.i]
structure MOk(m:Vt):Prop where
 s0:0≤m.st
 s1:m.st≤7
 c0:0≤m.cl
 c1:m.cl<64∧KS m.ns∧0≤m.ans.tick
 n0:2≤m.st→m.st≤6→1≤m.ns.length∧m.ns.length≤16∧0≤m.i∧m.i<m.ns.length
 i4:m.st=4→m.i=0
 r3:m.st=3→(m.rs.length:Int)=m.i
 r4:4≤m.st→m.st≤5→m.rs.length=m.ns.length
 e2:1≤m.st→m.st≤2→m.rs=[]∧(m.st=1→m.i=0)
structure Wg(w:World)(S:Nat→Prop)(T:Tbl)(b:Nat)(m:Vt):Prop where
 cells:Xo w b (machC T m)
 ns:Vo w S m.lv m.ns
 rs:Jj w S m.rv m.rs
theorem Wg.chg{S U:Nat→Prop}{w w':World}{T:Tbl}{b:Nat}{m:Vt}(h:Wg w S T b m)(c:Chg U w w')(hb:¬ U b)(hS:∀ k,S k→¬ U k):Wg w' S T b m :=
 ⟨h.cells.chg c hb,Rd.chg h.ns c hS,Rd.chg h.rs c hS⟩
structure Shr where
 cl:Int
 cp:Int
 clock:Int
 sum:Int
 kv:Value
 ks:List Kp
 rv:Value
 rs:List Kp
def Znk(x:Shr):List Value:=[.int .i64 x.cl,.int .i64 x.cp,.int .i64 x.clock,.int .i64 x.sum,x.kv,x.rv]
structure Qm(w:World)(S:Nat→Prop)(b:Nat)(x:Shr):Prop where
 cells:Xo w b (Znk x)
 ks:KeptAt w S x.kv x.ks
 rs:KeptAt w S x.rv x.rs
theorem Qm.chg{S U:Nat→Prop}{w w':World}{b:Nat}{x:Shr}(h:Qm w S b x)(c:Chg U w w')(hb:¬ U b)(hS:∀ k,S k→¬ U k):Qm w' S b x :=
 ⟨h.cells.chg c hb,Rd.chg h.ks c hS,Rd.chg h.rs c hS⟩
structure XOk(t:Nat)(x:Shr):Prop where
 c0:0≤x.clock
 c1:x.clock≤1073741824
 m0 : -(16*t:Int)≤x.sum
 m1:x.sum≤16*t
 k:x.ks.length≤t
 r:x.rs.length≤t
theorem XOk.up{t:Nat}{x:Shr}(h:XOk t x):XOk (t+1) x:=⟨h.c0,h.c1,by have:=h.m0;omega,by have:=h.m1;omega,by have:=h.k;omega,by have:=h.r;omega⟩
theorem Ztz{S R:Nat→Prop}(va vb:Value)(a b:List Int)(w:World)(ha:Xx w S va a)(hb:Xx w R vb b):Calls Tryz.prog 26 #[va,vb] w fun e w'=>e=.returned (.bool (decide (a=b)))∧Ext w w':=by
 obtain⟨A,C,rfl,hlC,hC⟩:=ha.shape;obtain⟨A2,C2,rfl,hlC2,hC2⟩:=hb.shape;obtain⟨n,hn⟩:=gnX (a.length);obtain⟨m,hm⟩:=gnX (b.length);have HA:=Y4 ha;have HB:=Y4 hb;rw[hn]at hlC⊢;rw[hm]at hlC2⊢;have Hn:=Y4 hn;have Hm:=Y4 hm;unfold maxLen at hC hC2;clear ha hb hn hm;by_cases hnm:n=m
 ·subst hnm;go_enter Tryz.func26,Tryz.ntmps26;go_wp2_with fail;go_loopw [13] (fun o wr=>∃ i:Nat,i≤n∧o=.int .i64 (i:Int)∧a.take i=b.take i∧Ext w wr) (fun o _=>n-(intOf o).toNat);case atStart=>exact⟨0,by omega,rfl,by simp,Yl _⟩
  obtain⟨i,hi,rfl,htk,hx⟩:=hrel;have Htk:=Y4 htk;have Hx:=Y4 hx;clear htk hx;by_cases hlt:i<n
  ·obtain⟨hd_i,i0_i,i1_i⟩:=LTl i n;obtain⟨x,hs_x⟩:=geX (l:=(a)) (i:=i) (by have:=Hn.o;omega);obtain⟨g_x,o_x,c_x,hvv,_,_,_,hgl_x,a0_x⟩:=(HA.o.ext Hx.o).get hs_x;simp only[Ye]at hvv;obtain⟨rfl,-,rfl⟩:=hvv;have Hs_x:=Y4 hs_x;clear hs_x;obtain⟨y,hs_y⟩:=geX (l:=(b)) (i:=i) (by have:=Hm.o;omega);obtain⟨g_y,o_y,c_y,hvv,_,_,_,hgl_y,a0_y⟩:=(HB.o.ext Hx.o).get hs_y;simp only[Ye]at hvv;obtain⟨rfl,-,rfl⟩:=hvv;have Hs_y:=Y4 hs_y;clear hs_y;have m1:=lat a0_x;have m2:=lat a0_y;have e1:=Wt Hs_x.o;have e2:=Wt Hs_y.o;cases hxy:(x==y)
   ·have h1:(!(x==y))=true:=by rw[hxy];rfl
    have h2:(x !=y)=true:=h1;have h3:¬ x=y:=by simpa using hxy
    have Hno:=Y4 (show decide (a=b)=false by
     rw[Zlt];intro e;have h4:=Hs_x.o;rw[e,Hs_y.o]at h4;exact h3 (Zm6 h4).symm)
    clear h3 e1 e2 a0_x a0_y;go_wp2_with fail;have hun:=Yb;refine Y8 (by kernel_rfl) (by kernel_rfl) ?_;repeat((with_reducible refine Yu ?_);intro K hK;go_simp;(with_reducible refine hK _ ?_);clear hK K)
    (with_reducible refine Yt ?_)
    intro w9 hy9;clear hun;try simp only[Yc]
    go_wp2_with fail;go_ret;exact⟨by rw[Hno.o];rfl,Hx.o.trans hy9⟩
   have h1:(!(x==y))=false:=by rw[hxy];rfl
   have h2:(x !=y)=false:=h1;have h3:x=y:=by simpa using hxy
   have Hyes:=Y4 (show a.take (i+1)=b.take (i+1) by rw[e1,e2,Htk.o,h3]);clear h3 e1 e2 a0_x a0_y;go_wp2_with fail;have hun:=Yb;refine Y8 (by kernel_rfl) (by kernel_rfl) ?_;repeat((with_reducible refine Yu ?_);intro K hK;go_simp;(with_reducible refine hK _ ?_);clear hK K)
   (with_reducible refine Yt ?_)
   intro w9 hy9;clear hun;try simp only[Yc]
   go_wp2_with fail;go_roundw;case rel=>exact⟨i+1,by omega,by go_num,Hyes.o,Hx.o.trans hy9⟩
   (simp[intOf];omega)
  have hd_i:=GEl i n;go_wp2_with fail;go_ret;refine⟨?_,Hx.o⟩;have h1:=Htk.o;rw[Zm (by rw[Hn.o];omega),Zm (by rw[Hm.o];omega)]at h1;simp[h1]
 have d1:(!((n:Int)==(m:Int)))=true:=by simp;omega
 have d2:((n:Int)!=(m:Int))=true:=d1;have d3:(!(n==m))=true:=by simp;omega
 have d4:(n !=m)=true:=d3;have d5:¬ (n:Int)=(m:Int):=by omega
 go_enter Tryz.func26,Tryz.ntmps26;go_wp2_with fail;go_ret;refine⟨?_,Yl _⟩;have:¬ a=b:=fun e=>hnm (by rw[← Hn.o,← Hm.o,e])
 simp[this]
end Go.Proofs.YtnbclgbicnpmnaaGreat
