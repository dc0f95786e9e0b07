/- Lemmas of this claim: RKept, Ls, Blk, Dsk, LastQ, Blk2, Si. Conditions: as named. -/
import Derived.Deep.MidRow
import Derived.Test.YtnbclgbicnpmnaaGreatA10
import Derived.Test.YtnbclgbicnpmnaaGreatA11
namespace Go.Proofs.YtnbclgbicnpmnaaGreat
open Go.RowKit Go.Sort Tryz
set_option maxHeartbeats 0
set_option maxRecDepth 100000
set_option linter.all false
theorem Ztn:(prog.info? 161).map (fun i=>(i.zero,i.size,i.bytes))=some (some (.agg #[.string ⟨#[]⟩,.int .i64 0,.int .i64 0,.string ⟨#[]⟩,.int .i64 0]),5,56):=by kernel_rfl
theorem Nn:prog.underlying 131=some (.slice 161):=by kernel_rfl
theorem Zw4{key:ByteArray}{r:Rc}{d:Bool}{p:Kp}{l:List Kp}(h:p.1=key):Vv key r d (p::l)=Vv key r d l:=by rw[Vv,Zjx h]
theorem Zp3{key:ByteArray}{r:Rc}{p:Kp}{l:List Kp}(h:p.1≠key)(hl:kb key<kb p.1):Vv key r false (p::l)=(key,r)::p::Vv key r true l:=by rw[Vv,Zk9 h,Zjx ⟨rfl,hl⟩]
theorem Zw3{key:ByteArray}{r:Rc}{d:Bool}{p:Kp}{l:List Kp}(h:p.1≠key)(hl:¬ (d=false∧kb key<kb p.1)):Vv key r d (p::l)=p::Vv key r d l:=by rw[Vv,Zk9 h,Zk9 hl]
theorem K3(l:List Kp)(p:Kp):Wi (l++[p])=Wi l++Ld p:=by rw[Ug];simp[Wi]
theorem Zsp{w:World}{base base':Nat}{e:TypeId}{size:Nat}{v:Value}{n:Nat}{xs:List Value}(h:w.ownsRow base e size v n xs)(hb:base'≤base):w.ownsRow base' e size v n xs:=by
 refine⟨h.1,?_⟩;rcases h.2 with h2 | ⟨g,cap,cur,h1,h2,h3⟩
 ·exact .inl h2
 exact .inr ⟨g,cap,cur,h1,Zjw hb h2,h3⟩
def Zuw(l:List Kp)(w:World)(e:Ending)(w':World):Prop:=∃ v,e=.returned v∧w'.ownsRow w.heap.size 161 5 v l.length (Wi l)∧Ext w w'
theorem Ua{S:Nat→Prop}(v:Value)(l:List Kp)(key:ByteArray)(r:Rc)(w:World)(hl:KeptAt w S v l)(hll:l.length≤100000) :
 Calls prog 73 #[v,.string key,rcV r] w (Zuw (Jt l key r) w):=by
 obtain⟨A,c,rfl⟩:=hl.shape;obtain⟨i0,hi,hz0,hz1,hz2⟩:=Zju Ztn;obtain⟨st,ow,nm,dl⟩:=r;unfold rcV;have Hl:=Y4 hl;clear hl;go_enter func73,ntmps73;go_wp2_with fail;have Hx0:=Y4 ((Yl w).alloc (.cells #[.int .i64 st,.int .i64 ow,.string nm,.int .i64 dl] 51));have q0:(w.alloc (.cells #[.int .i64 st,.int .i64 ow,.string nm,.int .i64 dl] 51)).cell? ⟨w.heap.size,0,none⟩=some (.int .i64 st):=by go_simp
 have q1:(w.alloc (.cells #[.int .i64 st,.int .i64 ow,.string nm,.int .i64 dl] 51)).cell? ⟨w.heap.size,1,none⟩=some (.int .i64 ow):=by go_simp
 have q2:(w.alloc (.cells #[.int .i64 st,.int .i64 ow,.string nm,.int .i64 dl] 51)).cell? ⟨w.heap.size,2,none⟩=some (.string nm):=by go_simp
 have q3:(w.alloc (.cells #[.int .i64 st,.int .i64 ow,.string nm,.int .i64 dl] 51)).cell? ⟨w.heap.size,3,none⟩=some (.int .i64 dl):=by go_simp
 have ql:w.heap.size<(w.alloc (.cells #[.int .i64 st,.int .i64 ow,.string nm,.int .i64 dl] 51)).heap.size:=by simp
 obtain⟨W0,hW0⟩:=gnX (w.alloc (.cells #[.int .i64 st,.int .i64 ow,.string nm,.int .i64 dl] 51));rw[hW0]at Hx0 q0 q1 q2 q3 ql;rw[hW0];have hlow:w.heap.size≤W0.heap.size:=by omega
 clear hW0;go_loopw [16,8,7] (fun o d v wr=>∃ (k:Nat) (db:Bool) (out:List Kp),k≤l.length∧o=.int .i64 (k:Int)∧d=.bool db∧wr.ownsRow W0.heap.size 161 5 v out.length (Wi out)∧out++Vv key ⟨st,ow,nm,dl⟩ db (l.drop k)=Jt l key ⟨st,ow,nm,dl⟩∧out.length≤2*k∧Ext W0 wr) (fun o _ _ _=>l.length-(intOf o).toNat);case atStart=>exact⟨0,st==0,[],by omega,rfl,rfl,Zie _ _ _ _,rfl,by simp,Yl _⟩
 obtain⟨k,db,out,hk,rfl,rfl,hown,hinv,hol,hx⟩:=hrel;obtain⟨la,lc,rfl⟩:=Xb hown;have Hx:=Y4 hx;have Hown:=Y4 hown;replace q0:=(hx.cell (p:=⟨w.heap.size,0,none⟩) ql).trans q0;replace q1:=(hx.cell (p:=⟨w.heap.size,1,none⟩) ql).trans q1;replace q2:=(hx.cell (p:=⟨w.heap.size,2,none⟩) ql).trans q2;replace q3:=(hx.cell (p:=⟨w.heap.size,3,none⟩) ql).trans q3;replace ql:=Zk8 ql hx.size;clear hx hown;by_cases hlt:k<l.length
 ·have hd:decide ((k:Int)<(l.length:Int))=true:=by simpa using hlt
  obtain⟨p,hpk⟩:∃ p,l[k]?=some p:=⟨l[k],by simp[hlt]⟩;obtain⟨g,o,c',hv,p1,p2,_,b1,x0,x1,x2,x3,x4⟩:=KeptAt.get (Rd.ext Hl.o (Hx0.o.trans Hx.o)) hpk;simp only[Ye,Zjj]at hv;obtain⟨rfl,rfl⟩:=hv;have j0:(0:Int)≤(k:Int):=by omega
  have j1:(k:Int)<(l.length:Int):=by omega
  rw[K2 hpk]at hinv;have Hinv:=Y4 hinv;clear hpk hinv;by_cases he:p.1=key
  ·have hinv:=Hinv.o;rw[Zw4 he]at hinv;subst he;replace Hinv:=Y4 hinv;clear hinv q0 q1 q2 q3;go_wp2_with fail;go_roundw;case rel=>exact⟨k+1,db,out,by omega,by go_num,rfl,(K6 Hown.o ((Yl _).alloc _)),Hinv.o,by omega,Hx.o.alloc _⟩
   simp[intOf];omega
  have hne:(p.1.toList==key.toList)=false:=by rw[Zj1,Zj1];simp only[beq_eq_false_iff_ne];exact fun e=>he (O9 e)
  have He:=Y4 he;clear he;go_upto_region 7 with fail;have z0:(wr.alloc (.cells #[.string p.1,.int .i64 p.2.st,.int .i64 p.2.ow,.string p.2.nm,.int .i64 p.2.dl] 161)).cell? ⟨wr.heap.size,0,none⟩=some (.string p.1):=by go_simp
  have z1:(wr.alloc (.cells #[.string p.1,.int .i64 p.2.st,.int .i64 p.2.ow,.string p.2.nm,.int .i64 p.2.dl] 161)).cell? ⟨wr.heap.size,1,none⟩=some (.int .i64 p.2.st):=by go_simp
  have z2:(wr.alloc (.cells #[.string p.1,.int .i64 p.2.st,.int .i64 p.2.ow,.string p.2.nm,.int .i64 p.2.dl] 161)).cell? ⟨wr.heap.size,2,none⟩=some (.int .i64 p.2.ow):=by go_simp
  have z3:(wr.alloc (.cells #[.string p.1,.int .i64 p.2.st,.int .i64 p.2.ow,.string p.2.nm,.int .i64 p.2.dl] 161)).cell? ⟨wr.heap.size,3,none⟩=some (.string p.2.nm):=by go_simp
  have z4:(wr.alloc (.cells #[.string p.1,.int .i64 p.2.st,.int .i64 p.2.ow,.string p.2.nm,.int .i64 p.2.dl] 161)).cell? ⟨wr.heap.size,4,none⟩=some (.int .i64 p.2.dl):=by go_simp
  have hxW:Ext wr (wr.alloc (.cells #[.string p.1,.int .i64 p.2.st,.int .i64 p.2.ow,.string p.2.nm,.int .i64 p.2.dl] 161)):=(Yl wr).alloc _;have zl:wr.heap.size<(wr.alloc (.cells #[.string p.1,.int .i64 p.2.st,.int .i64 p.2.ow,.string p.2.nm,.int .i64 p.2.dl] 161)).heap.size:=by simp
  obtain⟨bb,hbb⟩:=gnX (wr.heap.size);obtain⟨W1,hW1⟩:=gnX (wr.alloc (.cells #[.string p.1,.int .i64 p.2.st,.int .i64 p.2.ow,.string p.2.nm,.int .i64 p.2.dl] 161));rw[hW1]at z0 z1 z2 z3 z4 hxW zl;rw[hW1];rw[hbb]at z0 z1 z2 z3 z4 zl;rw[hbb];replace q0:=(hxW.cell (p:=⟨w.heap.size,0,none⟩) ql).trans q0;replace q1:=(hxW.cell (p:=⟨w.heap.size,1,none⟩) ql).trans q1;replace q2:=(hxW.cell (p:=⟨w.heap.size,2,none⟩) ql).trans q2;replace q3:=(hxW.cell (p:=⟨w.heap.size,3,none⟩) ql).trans q3;have Hown1:=Y4 (K6 Hown.o hxW);have Hx1:=Y4 (Hx.o.trans hxW);have hw1:W0.heap.size≤W1.heap.size:=by have:=(Hx.o.trans hxW).size;exact this
  have hnb:¬ (Value.slice la out.length lc).ownBlock=some bb:=fun e=>by have:=(Hown.o.lt bb e).2;omega
  clear hW1 hbb hxW x0 x1 x2 x3 x4 Hx Hown b1;go_cut [31] from 17 to 42 (fun x wx=>(∃ bo:Bool,x=.bool bo∧(bo=true↔db=false∧kb key<kb p.1))∧wx=W1)
  case first =>
   clear q0 q1 q2 q3 z1 z2 z3 z4;cases db with
   | true =>
    go_wp2_with fail;go_meet;exact⟨⟨_,rfl,by simp⟩,rfl⟩
   | false =>
    by_cases hin:kb key<kb p.1
    ·obtain⟨g1,_⟩:=Rw (x:=p.1) (s:=key) hin;go_wp2_with fail;go_meet;exact⟨⟨_,rfl,by simpa using hin⟩,rfl⟩
    have g1:Op.bytesLess p.1.toList key.toList=true:=by
     have:=Fi (x:=p.1) (s:=key) hin;rw[hne,Bool.or_false]at this;exact this
    go_wp2_with fail;go_meet;exact⟨⟨_,rfl,by simpa using hin⟩,rfl⟩
  case rest =>
  obtain⟨⟨bo,rfl,hbo⟩,rfl⟩:=hcut;have Hbo:=Y4 hbo;clear hbo;go_upto_if 31 with fail;go_cut [8,7] from 17 to 42 (fun d v wx=>∃ (db2:Bool) (out2:List Kp),d=.bool db2∧wx.ownsRow W0.heap.size 161 5 v out2.length (Wi out2)∧out2++p::Vv key ⟨st,ow,nm,dl⟩ db2 (l.drop (k+1))=Jt l key ⟨st,ow,nm,dl⟩∧out2.length≤2*k+1∧Chg (fun i=>(Value.slice la out.length lc).ownBlock=some i) wc wx∧Ext W0 wx)
  case first =>
   cases bo with
   | true =>
    obtain⟨hdb,hin⟩:=Hbo.o.1 rfl;have hinv:=Hinv.o;rw[hdb,Zp3 He.o hin]at hinv;have hrl:=Qr wc #[.string key,.int .i64 st,.int .i64 ow,.string nm,.int .i64 dl] 161 5 (by rfl);have hbz:W0.heap.size≤(wc.alloc (.cells #[.string key,.int .i64 st,.int .i64 ow,.string nm,.int .i64 dl] 161)).heap.size:=by simp;omega
    replace Hinv:=Y4 hinv;clear hinv hin hdb z0 z1 z2 z3 z4;go_wp2_with (at_builtin;refine V1 _ rfl _ _ 131 rfl W0.heap.size 161 i0 _ 5 56 Nn hi hz0 hz1 hz2 rfl (by decide) _ out.length _ rfl (Hown1.o.alloc _) (fun _=>True) _ 1 _ rfl hrl (by simp[Value.oneCell']) (by unfold maxLen;omega) (by omega) hbz ?_;intro v' w6 ha;obtain⟨a3,c3',hv3⟩:=Xb ha.own;subst hv3);go_meet;refine⟨true,out++[(key,⟨st,ow,nm,dl⟩)],rfl,?_,by rw[← Hinv.o];simp,by simp;omega,((Chg.refl _ wc).alloc _).grown ha.grown fun k hk=>.inl hk,(Hx1.o.alloc _).grown ha.grown fun k hk=>(Hown1.o.lt k hk).1⟩;rw[K3,Zs];exact ha.own
   | false =>
    have hinv:=Hinv.o;rw[Zw3 He.o fun h=>by have:=Hbo.o.2 h;simp at this]at hinv;replace Hinv:=Y4 hinv;clear hinv z0 z1 z2 z3 z4;go_wp2_with fail;go_meet;exact⟨db,out,rfl,Hown1.o,Hinv.o,by omega,Chg.refl _ _,Hx1.o⟩
  case rest =>
  obtain⟨db2,out2,rfl,hown2,hinv2,hol2,hc2,hx2⟩:=hcut;obtain⟨la2,lc2,rfl⟩:=Xb hown2;replace z0:=(hc2.cell (p:=⟨bb,0,none⟩) zl hnb).trans z0;replace z1:=(hc2.cell (p:=⟨bb,1,none⟩) zl hnb).trans z1;replace z2:=(hc2.cell (p:=⟨bb,2,none⟩) zl hnb).trans z2;replace z3:=(hc2.cell (p:=⟨bb,3,none⟩) zl hnb).trans z3;replace z4:=(hc2.cell (p:=⟨bb,4,none⟩) zl hnb).trans z4;have hrl:=Qr wc #[.string p.1,.int .i64 p.2.st,.int .i64 p.2.ow,.string p.2.nm,.int .i64 p.2.dl] 161 5 (by rfl);have hbz:W0.heap.size≤(wc.alloc (.cells #[.string p.1,.int .i64 p.2.st,.int .i64 p.2.ow,.string p.2.nm,.int .i64 p.2.dl] 161)).heap.size:=by have:=hx2.size;simp;omega
  have Hx2:=Y4 hx2;have Hown2:=Y4 hown2;have Hinv2:=Y4 hinv2;clear hx2 hc2 hown2 hinv2 q0 q1 q2 q3 Hinv Hown1 Hx1;go_wp2_with (at_builtin;refine V1 _ rfl _ _ 131 rfl W0.heap.size 161 i0 _ 5 56 Nn hi hz0 hz1 hz2 rfl (by decide) _ out2.length _ rfl (Hown2.o.alloc _) (fun _=>True) _ 1 _ rfl hrl (by simp[Value.oneCell']) (by unfold maxLen;omega) (by omega) hbz ?_;intro v' w6 ha;obtain⟨a3,c3',hv3⟩:=Xb ha.own;subst hv3);have hend:w6.ownsRow W0.heap.size 161 5 (.slice a3 (out2.length+1) c3') (out2++[p]).length (Wi (out2++[p])):=by
   rw[K3,Zs];exact ha.own
  have hx6:=(Hx2.o.alloc (.cells #[.string p.1,.int .i64 p.2.st,.int .i64 p.2.ow,.string p.2.nm,.int .i64 p.2.dl] 161)).grown ha.grown fun k hk=>(Hown2.o.lt k hk).1
  have Hend:=Y4 hend;have Hx6:=Y4 hx6;clear ha hend hx6 hrl hbz;go_roundw;case rel=>exact⟨k+1,db2,out2++[p],by omega,by go_num,rfl,Hend.o,by rw[← Hinv2.o];simp,by simp;omega,Hx6.o⟩
  simp[intOf];omega
 have hd:decide ((k:Int)<(l.length:Int))=false:=by simp;omega
 rw[Zim (by omega)]at hinv;cases db with
 | true =>
  have hout:out=Jt l key ⟨st,ow,nm,dl⟩:=by rw[← hinv];simp[Vv]
  subst hout;clear q0 q1 q2 q3 hinv;go_wp2_with fail;go_ret;exact⟨_,rfl,Zsp Hown.o hlow,Hx0.o.trans Hx.o⟩
 | false =>
  have hinv2:out++[(key,(⟨st,ow,nm,dl⟩:Rc))]=Jt l key ⟨st,ow,nm,dl⟩:=by rw[← hinv];simp[Vv]
  have hrl:=Qr wr #[.string key,.int .i64 st,.int .i64 ow,.string nm,.int .i64 dl] 161 5 (by rfl);have hbz:W0.heap.size≤(wr.alloc (.cells #[.string key,.int .i64 st,.int .i64 ow,.string nm,.int .i64 dl] 161)).heap.size:=by have:=Hx.o.size;simp;omega
  clear hinv;go_wp2_with (at_builtin;refine V1 _ rfl _ _ 131 rfl W0.heap.size 161 i0 _ 5 56 Nn hi hz0 hz1 hz2 rfl (by decide) _ out.length _ rfl (Hown.o.alloc _) (fun _=>True) _ 1 _ rfl hrl (by simp[Value.oneCell']) (by unfold maxLen;omega) (by omega) hbz ?_;intro v' w6 ha;obtain⟨a3,c3',hv3⟩:=Xb ha.own;subst hv3);go_ret;refine⟨_,rfl,?_,?_⟩
  ·rw[← hinv2,K3,Zs];exact Zsp ha.own hlow
  exact Hx0.o.trans ((Hx.o.alloc _).grown ha.grown fun k hk=>(Hown.o.lt k hk).1)
theorem Je:(prog.info? 4).map (fun i=>(i.zero,i.size,i.bytes))=some (some (.bool false),1,1):=by kernel_rfl
theorem Ik:prog.underlying 117=some (.slice 4):=by kernel_rfl
noncomputable def Pd:Enc Bool where
 ty:=4
 sl:=117
 z:=1
 bytes:=1
 cells l:=l.map Value.bool
 app a b:=Yy
 len l:=by simp
 one l:=Dh _ (fun _=>rfl) l
 und:=Ik
 i:=Classical.choose (Zju Je)
 zero:=.bool false
 info:=(Yo (Zju Je)).1
 hz:=(Yo (Zju Je)).2.1
 hs:=(Yo (Zju Je)).2.2.1
 hb:=(Yo (Zju Je)).2.2.2
 hc:=rfl
 pos:=by omega
theorem Fm{l:List Bool}{j:Nat}{x:Bool}(h:l[j]?=some x):(Pd.cells l)[j]?=some (.bool x):=by
 show(l.map Value.bool)[j]?=_;rw[Zn,h];rfl
structure Sl where
 a:Option Addr
 n:Nat
 c:Nat
def Sl.v(s:Sl):Value:=.slice s.a s.n s.c
theorem Uj:(prog.info? 22).map (fun i=>(i.zero,i.size,i.bytes))=some (some (.slice none 0 0),1,24):=by kernel_rfl
theorem Zri:prog.underlying 268=some (.slice 22):=by kernel_rfl
noncomputable def Zlf:Enc Sl where
 ty:=22
 sl:=268
 z:=1
 bytes:=24
 cells l:=l.map Sl.v
 app a b:=Yy
 len l:=by simp
 one l:=Dh _ (fun _=>rfl) l
 und:=Zri
 i:=Classical.choose (Zju Uj)
 zero:=.slice none 0 0
 info:=(Yo (Zju Uj)).1
 hz:=(Yo (Zju Uj)).2.1
 hs:=(Yo (Zju Uj)).2.2.1
 hb:=(Yo (Zju Uj)).2.2.2
 hc:=rfl
 pos:=by omega
theorem Fy{l:List Sl}{j:Nat}{x:Sl}(h:l[j]?=some x):(Zlf.cells l)[j]?=some x.v:=by
 show(l.map Sl.v)[j]?=_;rw[Zn,h];rfl
def Ke(w:World)(S:Nat→Prop)(vs:List Sl)(ls:List (List Int)):Prop:=vs.length=ls.length∧∀ (j:Nat) (s:Sl) (x:List Int),vs[j]?=some s→ls[j]?=some x→Xx w S s.v x
theorem Ke.ext{w w':World}{S:Nat→Prop}{vs:List Sl}{ls:List (List Int)}(h:Ke w S vs ls)(x:Ext w w'):Ke w' S vs ls:=⟨h.1,fun j s y h1 h2=>(h.2 j s y h1 h2).ext x⟩
theorem Ke.chg{w w':World}{S T:Nat→Prop}{vs:List Sl}{ls:List (List Int)}(h:Ke w S vs ls)(c:Chg T w w')(hd:∀ k,S k→¬ T k):Ke w' S vs ls:=⟨h.1,fun j s y h1 h2=>(h.2 j s y h1 h2).chg c hd⟩
theorem Ke.mono{w:World}{S T:Nat→Prop}{vs:List Sl}{ls:List (List Int)}(h:Ke w S vs ls)(hd:∀ k,S k→k<w.heap.size→T k):Ke w T vs ls:=⟨h.1,fun j s y h1 h2=>Rd.mono (h.2 j s y h1 h2) hd⟩
def Zxd(w:World)(v:Value)(ls:List (List Int)):Prop:=∃ vs:List Sl,RdE Zlf w (fun _=>True) v vs∧Ke w (fun _=>True) vs ls
theorem Zxd.ext{w w':World}{v:Value}{ls:List (List Int)}(h:Zxd w v ls)(x:Ext w w'):Zxd w' v ls:=by
 obtain⟨vs,h1,h2⟩:=h;exact⟨vs,h1.ext x,h2.ext x⟩
theorem Zxd.shape{w:World}{v:Value}{ls:List (List Int)}(h:Zxd w v ls):∃ A c,v=.slice A ls.length c∧ls.length≤c∧c≤maxLen:=by
 obtain⟨vs,h1,h2,_⟩:=h;obtain⟨A,c,e,h3,h4⟩:=h1.shape;rw[h2]at e h3;exact⟨A,c,e,h3,h4⟩
theorem Zxd.get{w:World}{v:Value}{ls:List (List Int)}(h:Zxd w v ls){j:Nat}{x:List Int}(hj:ls[j]?=some x) :
 ∃ g o c u,v=.slice (some ⟨g,o,none⟩) ls.length c∧ls.length≤c∧c≤maxLen∧g<w.heap.size∧w.cell? ⟨g,o+j,none⟩=some u∧Xx w (fun _=>True) u x:=by
 obtain⟨vs,h1,h2,h3⟩:=h;have hjl:=(Zr.1 hj).1;obtain⟨g,o,c,e,k1,k2,k3,k4,k5⟩:=Rd.at_ h1 (show j<vs.length by omega);have hs:vs[j]?=some vs[j]:=Zz (by omega);rw[h2]at e k1;exact⟨g,o,c,_,e,k1,k2,k4,k5 j _ (Fy hs),h3 j _ _ hs hj⟩
def Nh(w:World)(B:Nat)(v:Value)(vs:List Sl)(ls:List (List Int)):Prop:=Own Zlf w B v vs∧Ke w (fun k=>v.ownBlock≠some k) vs ls
theorem Nh.ext{w w':World}{B:Nat}{v:Value}{vs:List Sl}{ls:List (List Int)}(h:Nh w B v vs ls)(x:Ext w w'):Nh w' B v vs ls:=⟨h.1.ext x,h.2.ext x⟩
theorem Nh.at_{w:World}{B:Nat}{v:Value}{vs:List Sl}{ls:List (List Int)}(h:Nh w B v vs ls):Zxd w v ls:=⟨vs,Rd.mono h.1.rd fun _ _ _=>trivial,h.2.mono fun _ _ _=>trivial⟩
structure Xp(w:World)(b:Nat)(cs:List Value):Prop where
 lt:b<w.heap.size
 fz:∀ k,w.frozen? ⟨b,k,none⟩=false
 at_:∀ k,k<cs.length→w.cell? ⟨b,k,none⟩=cs[k]?
theorem Xp.chg{U:Nat→Prop}{w w':World}{b:Nat}{cs:List Value}(h:Xp w b cs)(c:Chg U w w')(hb:¬ U b):Xp w' b cs :=
 ⟨Zk8 h.lt c.size,fun k=>(c.frozen (p:=⟨b,k,none⟩) h.lt hb).trans (h.fz k),fun k hk=>(c.cell (p:=⟨b,k,none⟩) h.lt hb).trans (h.at_ k hk)⟩
theorem Xp.ext{w w':World}{b:Nat}{cs:List Value}(h:Xp w b cs)(x:Ext w w'):Xp w' b cs:=h.chg (x.chg fun _=>False) fun h=>h
theorem Xp.new(w:World)(cs:Array Value)(t:TypeId):Xp (w.alloc (.cells cs t)) w.heap.size cs.toList :=
 ⟨by simp,fun k=>by go_simp,fun k hk=>by go_simp⟩
theorem Xp.set{w:World}{b:Nat}{cs:List Value}(h:Xp w b cs){j:Nat}(hj:j<cs.length)(u:Value):Xp (w.setCell ⟨b,j,none⟩ u) b (cs.set j u):=by
 obtain⟨h1,h2,h3⟩:=h;have hc:=h3 j hj;rw[Zz hj]at hc;refine⟨by simpa[World.setCell]using h1,fun k=>?_,fun k hk=>?_⟩
 ·have:=h2 k;simp only[World.frozen?,World.setCell]at this⊢;rw[Zht];simp only[Zfo];cases hh:w.heap[b]? with
  | none=>rfl
  | some o=>cases o<;>simp_all
 rw[Zf]at hk;have hck:=h3 k hk;rw[Yv];by_cases e:j=k
 ·subst e;rw[Zjx rfl,Zjx hj];go_simp
 rw[Zk9 e,← hck];go_simp
theorem Chg.thenB{S T:Nat→Prop}{a b c:World}(h:Chg S a b)(k:Chg T b c)(hT:∀ i,i<a.heap.size→T i→S i):Chg S a c :=
 ⟨k.os.trans h.os,k.tape.trans h.tape,k.output.trans h.output,Zjw h.size k.size,fun i hi hS=>(k.block i (Zk8 hi h.size) (fun ht=>hS (hT i hi ht))).trans (h.block i hi hS)⟩
theorem Xp.drew{w:World}{b:Nat}{cs:List Value}(h:Xp w b cs):Xp w.drew b cs:=h.ext (Yl w).drew
theorem Xp.far{w:World}{b c j:Nat}{cs:List Value}(h:Xp w b cs)(hne:b≠c)(u:Value):Xp (w.setCell ⟨c,j,none⟩ u) b cs:=h.chg ((Chg.refl (· = c) w).setCell (p:=⟨c,j,none⟩) (.inl rfl) u) hne
theorem RdE.far{α:Type}{E:Enc α}{w:World}{S:Nat→Prop}{v:Value}{l:List α}{c j:Nat}(h:RdE E w S v l)(hS:¬ S c)(u:Value):RdE E (w.setCell ⟨c,j,none⟩ u) S v l:=Rd.chg h ((Chg.refl (· = c) w).setCell (p:=⟨c,j,none⟩) (.inl rfl) u) (fun k hk e=>hS (e▸hk))
theorem Own.far{α:Type}{E:Enc α}{w:World}{B:Nat}{v:Value}{l:List α}{c j:Nat}(h:Own E w B v l)(hS:v.ownBlock≠some c)(u:Value):Own E (w.setCell ⟨c,j,none⟩ u) B v l:=h.chg ((Chg.refl (· = c) w).setCell (p:=⟨c,j,none⟩) (.inl rfl) u) (fun k hk e=>hS (by rw[hk,e]))
theorem Zpb{w:World}{B z g n c m:Nat}{t:TypeId}{xs:List Value}(h:w.ownsRow B t z (.slice (some ⟨g,0,none⟩) n c) m xs)(j:Nat)(u:Value):(w.setCell ⟨g,j,none⟩ u).ownsRow B t z (.slice (some ⟨g,0,none⟩) n c) m (xs.set j u):=by
 obtain⟨h1,h2⟩:=h;refine⟨by rw[Zf];exact h1,?_⟩;rcases h2 with⟨h2,_⟩ | ⟨g',cap,cur,he,hb,hg,hn,hm,hs,ht⟩
 ·simp at h2
 simp only[Ye,Yd,Zjp,Zjj,Zj6]at he;obtain⟨rfl,he2,rfl⟩:=he;refine .inr ⟨g,c,cur.setIfInBounds j u,?_,hb,?_,hn,hm,by simpa using hs,?_⟩
 ·rw[← he2]
 ·simp[World.setCell,Zht,hg]
 rw[← ht];simp[List.take_set]
structure Wc where
 cl:Int
 st:Int
 text:ByteArray
 op:Int
 ttl:Int
 lv:Value
 ns:List Nm
 rv:Value
 rs:List Rc
 ans:Ax
 i:Int
def Vu(r:Ax):List Value:=[.int .i64 r.e,.int .i64 r.at_,.string r.nm,.int .i64 r.rc.st,.int .i64 r.rc.ow,.string r.rc.nm,.int .i64 r.rc.dl,.int .i64 r.tick]
def machC(T:Tbl)(m:Wc):List Value:=[T.catV,T.clsV,T.joiV,T.bidV,T.scrV,T.staV,T.ignV,T.extV,T.mapV,T.decV,T.excV,T.proV,.int .i64 m.cl,.int .i64 m.st,.string m.text,.int .i64 m.op,.int .i64 m.ttl,m.lv,m.rv,.int .i64 m.ans.e,.int .i64 m.ans.at_,.string m.ans.nm,.int .i64 m.ans.rc.st,.int .i64 m.ans.rc.ow,.string m.ans.rc.nm,.int .i64 m.ans.rc.dl,.int .i64 m.ans.tick,.int .i64 m.i]
structure MOk(m:Wc):Prop where
 s0:0≤m.st
 s1:m.st≤7
 c0:0≤m.cl
 c1:m.cl<64∧KS m.ns∧0≤m.ans.tick
 n0:2≤m.st→m.st≤6→1≤m.ns.length∧m.ns.length≤16∧0≤m.i∧m.i<m.ns.length
 i4:m.st=4→m.i=0
 r3:m.st=3→(m.rs.length:Int)=m.i
 r4:4≤m.st→m.st≤5→m.rs.length=m.ns.length
 e2:1≤m.st→m.st≤2→m.rs=[]∧(m.st=1→m.i=0)
structure Wa(w:World)(S:Nat→Prop)(T:Tbl)(b:Nat)(m:Wc):Prop where
 cells:Xp w b (machC T m)
 ns:Vw w S m.lv m.ns
 rs:Jv w S m.rv m.rs
theorem Wa.chg{S U:Nat→Prop}{w w':World}{T:Tbl}{b:Nat}{m:Wc}(h:Wa w S T b m)(c:Chg U w w')(hb:¬ U b)(hS:∀ k,S k→¬ U k):Wa w' S T b m :=
 ⟨h.cells.chg c hb,Rd.chg h.ns c hS,Rd.chg h.rs c hS⟩
structure Shr where
 cl:Int
 cp:Int
 clock:Int
 sum:Int
 kv:Value
 ks:List Kp
 rv:Value
 rs:List Kp
def Zlg(x:Shr):List Value:=[.int .i64 x.cl,.int .i64 x.cp,.int .i64 x.clock,.int .i64 x.sum,x.kv,x.rv]
structure Qc(w:World)(S:Nat→Prop)(b:Nat)(x:Shr):Prop where
 cells:Xp w b (Zlg x)
 ks:KeptAt w S x.kv x.ks
 rs:KeptAt w S x.rv x.rs
theorem Qc.chg{S U:Nat→Prop}{w w':World}{b:Nat}{x:Shr}(h:Qc w S b x)(c:Chg U w w')(hb:¬ U b)(hS:∀ k,S k→¬ U k):Qc w' S b x :=
 ⟨h.cells.chg c hb,Rd.chg h.ks c hS,Rd.chg h.rs c hS⟩
structure XOk(t:Nat)(x:Shr):Prop where
 c0:0≤x.clock
 c1:x.clock≤1073741824
 m0 : -(16*t:Int)≤x.sum
 m1:x.sum≤16*t
 k:x.ks.length≤t
 r:x.rs.length≤t
theorem XOk.up{t:Nat}{x:Shr}(h:XOk t x):XOk (t+1) x:=⟨h.c0,h.c1,by have:=h.m0;omega,by have:=h.m1;omega,by have:=h.k;omega,by have:=h.r;omega⟩
section
theorem Sq{P:Program}{md:Region.Mode}{ops:Array Oper}{Q:Exit→Act→World→Prop}:∀ (fuel:Nat) (listed:Array Bool) (a:Act) (w:World),wpAny P md ops Q fuel listed a w→wpAnyH P md ops Q (fun _=>True) fuel listed a w
 | 0,_,_,_,h=>h
 | fuel+1,_,_,_,h=>⟨h.1,fun i hi=>Zft (fun a' w' h'=>⟨trivial,Sq fuel _ a' w' h'⟩) (h.2 i hi)⟩
theorem Zye{P:Program}{md:Region.Mode}{ops:Array Oper}{C:World→Prop}{Q:Act→Prop}(hs:Region.noSelect ops=true):∀ (l:List Oper) (k:Nat) (listed:Array Bool) (a:Act),(∀ j,j<l.length→l[j]?=ops[k+j]?) →
 Region.lexFrom md ops l.length k listed=true→wpQuiet P ops C Q l a→wpAnyQ P md ops C Q l.length listed a
 | [],_,_,_,_,hB,h=>⟨by simpa[Region.lexFrom]using hB,h⟩
 | o::l,k,listed,a,hl,hB,h=>by
  have h0:ops[k]?=some o:=by simpa using(hl 0 (by simp)).symm
  simp only[Zl,Region.lexFrom,Zjg]at hB;obtain⟨⟨hr,hf⟩,hB'⟩:=hB;have hst:qOp P ops C k (wpQuiet P ops C Q l) a:=by unfold qOp;simp only[h0];exact h
  obtain⟨v,hy,hK⟩:=yieldsIn_of_qOp h0 hst;exact wpAnyQ_first h0 (Region.noSelect_spec hs) l.length listed a (Region.free_spec h0 hf) (by simpa using hr) hy
   (Zye hs l (k+1) _ _ (fun j hj=>by have:=hl (j+1) (by simpa using hj);simpa[Zid,Nat.add_comm 1 j]using this) hB' hK)
def Ej(ops:Array Oper):Nat→Nat→Nat→Bool
 | 0,_,_=>false
 | f+1,j,i=>match ops[j]? with
  | some o=>o.after.any fun e=>Region.binds .any e&&(e.on==i||Ej ops f e.on i)
  | none=>false
def Zvj(ops:Array Oper)(k:Nat):Bool :=
 (List.range ops.size).all fun j=>((ops[j]?).map fun o=>(o.after.all fun e=>!Region.binds .any e||decide (e.on<j))&&(decide (j<k)||(((List.range k).all fun i=>Ej ops 7 j i)&&(j==k||o.after.any fun e=>Region.binds .any e&&e.on==j-1)))).getD true
def Closed(ops:Array Oper)(listed:Array Bool):Prop:=∀ j o,ops[j]?=some o→listed.getD j true=true→∀ e∈o.after,Region.binds .any e=true→listed.getD e.on true=true
def Gx(listed:Array Bool)(k:Nat):Array Bool:=listed.mapIdx fun j b=>b||decide (k≤j)
def Jg(P:Program)(ops:Array Oper)(Q:Exit→Act→World→Prop)(k:Nat):Exit→Act→World→Prop
 | .normal,a,w=>wpList P ops Q (ops.toList.drop k) a w
 | e,a,w=>Q e a w
section
variable {P:Program} {ops:Array Oper} {Q:Exit→Act→World→Prop} {S:World→Prop} {k:Nat}
theorem Zyx{o:Oper}{a:Act}{w:World}{K:Act→World→Prop}(h:o.wp P a w K (Jg P ops Q k)):o.wp P a w K Q:=by
 unfold Oper.wp at *;generalize (execOp a.eval o).run P w=r at *;cases r with
 | ok n w' =>
  cases n<;>simp only[Oper.upon]at h⊢ <;>
   first
    | exact h
    | exact Zhx h (fun e w'' he=>by
     cases e with
     | returned v=>exact he
     | panicked c=>exact he
     | outgrown=>obtain⟨a,w,hq⟩:=he;exact⟨a,w,hq⟩)
    | exact Rows.mono h (fun _ _ he=>he)
 | halt x w'=>cases x<;>simp only[Oper.upon]at h⊢<;>exact h
theorem Ra{i:Nat}{a:Act}{w:World}{K:Act→World→Prop}(h:wpOp P ops (Jg P ops Q k) i K a w):wpOp P ops Q i K a w:=by
 unfold wpOp at *;split
 ·simpa[*]using h
 rename_i o ho;simp only[ho]at h;split
 ·rename_i hw;simp only[hw,Zfo]at h;rcases h with h | ⟨h1,a',w',h2⟩
  ·exact .inl (Zyx h)
  exact .inr ⟨h1,a',w',h2⟩
 rename_i hw;simp only[hw]at h;exact h
theorem Bt{listed:Array Bool}{j:Nat}{d:Bool}:(Gx listed k).getD j d=if j<listed.size then listed.getD j d||decide (k≤j)else d:=by
 unfold Gx;simp only[Zjq,Array.getElem?_mapIdx];by_cases h:j<listed.size
 ·simp[h]
 simp[h]
theorem Zvi{listed:Array Bool}{i:Nat}:Gx (listed.setIfInBounds i true) k=(Gx listed k).setIfInBounds i true:=by
 unfold Gx;apply Array.ext_getElem?;intro j;simp only[Array.getElem?_mapIdx,Zgn,Array.size_mapIdx];by_cases h:i=j
 ·subst h;by_cases h2:i<listed.size<;>simp[h2]
 simp[h]
theorem Ac{listed:Array Bool}(hc:Closed ops listed)(b1:∀ j o,ops[j]?=some o→∀ e∈o.after,Region.binds .any e=true→e.on<j)(hs:listed.size=ops.size):∀ (f:Nat) {j i:Nat} {o:Oper},Ej ops f j i=true→ops[j]?=some o→(∀ e∈o.after,Region.binds .any e=true→listed.getD e.on false=true)→listed.getD i false=true
 | 0,_,_,_,h,_,_=>by simp[Ej]at h
 | f+1,j,i,o,h,ho,hl=>by
  unfold Ej at h;rw[ho]at h;simp only[Zgd]at h;obtain⟨e,he,h1⟩:=h;simp only[Zjg,Zhv,Zfs]at h1;obtain⟨hb,h1⟩:=h1;have h2:=hl e he hb;rcases h1 with h1|h1
  ·rw[← h1];exact h2
  cases f with
  | zero=>simp[Ej]at h1
  | succ f =>
   obtain⟨o2,ho2⟩:∃ o2,ops[e.on]?=some o2:=by
    cases h3:ops[e.on]? with
    | some o2=>exact⟨o2,rfl⟩
    | none=>unfold Ej at h1;rw[h3]at h1;simp at h1
   refine Ac hc b1 hs (f+1) h1 ho2 fun e2 he2 hb2=>?_
   have h3:listed.getD e.on true=true:=by
    simp only[Zjq]at h2⊢;cases h4:listed[e.on]? with
    | none=>rfl
    | some b=>rw[h4]at h2;exact h2
   have h5:=hc e.on o2 ho2 h3 e2 he2 hb2;simp only[Zjq]at h5 h2⊢;cases h4:listed[e2.on]? with
   | some b=>rw[h4]at h5;exact h5
   | none =>
    have h6:=b1 e.on o2 ho2 e2 he2 hb2;have h7:=(Zjz.1 ho2).1;rw[Zjt (by omega)]at h4;simp at h4
theorem Closed.set{listed:Array Bool}{i:Nat}(hc:Closed ops listed)(hi:i∈Region.ready .any ops listed)(b1:∀ j o,ops[j]?=some o→∀ e∈o.after,Region.binds .any e=true→e.on<j)(hs:listed.size=ops.size):Closed ops (listed.setIfInBounds i true):=by
 obtain⟨i1,i2,oi,i3,i4⟩:=mem_ready.1 hi;intro j o ho hl e he hb;rw[Jz];by_cases e1:i=e.on
 ·rw[Zjx ⟨e1,by rw[hs,← e1];exact i1⟩]
 rw[Zk9 fun h=>e1 h.1];rw[Jz]at hl;by_cases e2:i=j
 ·subst e2;rw[i3]at ho;obtain rfl:=Zjy ho;have h5:=i4 e he hb;have h6:=b1 i _ i3 e he hb;simp only[Zjq]at h5⊢;rw[Zjt (by omega)]at h5⊢;exact h5
 rw[Zk9 fun h=>e2 h.1]at hl;exact hc j o ho hl e he hb
theorem Pl(hB:Zvj ops k=true):(∀ j o,ops[j]?=some o→∀ e∈o.after,Region.binds .any e=true→e.on<j)∧(∀ j,k≤j→j<ops.size→∀ i,i<k→Ej ops 7 j i=true)∧∀ j o,k<j→ops[j]?=some o→∃ e∈o.after,Region.binds .any e=true∧e.on=j-1:=by
 have key:∀ j o,ops[j]?=some o→(o.after.all fun e=>!Region.binds .any e||decide (e.on<j))=true∧(decide (j<k)||(((List.range k).all fun i=>Ej ops 7 j i)&&(j==k||o.after.any fun e=>Region.binds .any e&&e.on==j-1)))=true:=fun j o ho=>by
  simp only[Zvj,Zh1,Zj9]at hB;have h:=hB j (Zjz.1 ho).1;rw[ho]at h;simpa only[Zil,Zhm,Zjg]using h
 refine⟨fun j o ho e he hb=>?_,fun j hj hjn i hi=>?_,fun j o hj ho=>?_⟩
 ·have h:=(key j o ho).1;rw[Zi1]at h;have:=h e he;rw[hb]at this;simpa using this
 ·have h:=(key j _ (Zjt hjn)).2;rw[Yg (by omega),Zfn,Zjg,Zh1]at h;exact h.1 i (Zj9.2 hi)
 have h:=(key j o ho).2;rw[Yg (by omega),Zfn,Zjg,show(j==k)=false by simp;omega,Zfn]at h;have:=h.2;rw[Zgd]at this;obtain⟨e,he,h1⟩:=this;simp only[Zjg,Zfs]at h1;exact⟨e,he,h1⟩
theorem Zuk(hB:Zvj ops k=true):∀ (d t f:Nat) (listed:Array Bool) (a:Act) (w:World),t+d=ops.size→k≤t→d≤f→listed.size=ops.size→(∀ j,j<ops.size→listed.getD j true=decide (j<t))→wpList P ops Q (ops.toList.drop t) a w→wpAny P .any ops Q f listed a w:=by
 obtain⟨b1,b2,b3⟩:=Pl hB;intro d
 induction d with
 | zero =>
  intro t f listed a w ht hk hf hs hl h;have hr:Region.ready .any ops listed=[]:=by
   rw[Zi5];intro j hj;obtain⟨j1,j2,_⟩:=mem_ready.1 hj;rw[hl j j1]at j2;simp at j2;omega
  rw[List.drop_eq_nil_of_le (by simp;omega)]at h;cases f with
  | zero=>exact⟨hr,h⟩
  | succ f=>exact⟨fun _=>h,by rw[hr];simp⟩
 | succ d ih =>
  intro t f listed a w ht hk hf hs hl h;obtain⟨f,rfl⟩:∃ g,f=g+1:=⟨f-1,by omega⟩;have htn:t<ops.size:=by omega
  have ho:ops[t]?=some ops[t]:=Zjt htn;have hin:t∈Region.ready .any ops listed:=mem_ready.2 ⟨htn,by rw[hl t htn];simp,ops[t],ho,fun e he hb=>by
   have h1:=b1 t _ ho e he hb;have h2:=hl e.on (by omega);rw[Yf h1]at h2;simp only[Zjq]at h2⊢;rw[Zjt (by omega)]at h2⊢;exact h2⟩
  refine⟨fun h0=>by rw[h0]at hin;simp at hin,fun i hi=>?_⟩;obtain⟨i1,i2,o,i3,i4⟩:=mem_ready.1 hi;rw[hl i i1]at i2;have hit:t≤i:=by simpa using i2
  have:i=t:=by
   rcases Zis t i with hlt|hge
   ·obtain⟨e,he,hb,hon⟩:=b3 i o (by omega) i3;have h5:=i4 e he hb;have h6:=hl (i-1) (by omega);rw[Yg (by omega)]at h6;rw[hon]at h5;simp only[Zjq]at h5 h6;rw[Zjt (by omega)]at h5 h6;simp at h5 h6;rw[h5]at h6;simp at h6
   omega
  subst this;have hdrop:ops.toList.drop i=ops[i]::ops.toList.drop (i+1):=by
   rw[Zha (by simpa using htn)];simp
  rw[hdrop]at h;have hK:∀ a' w',wpList P ops Q (ops.toList.drop (i+1)) a' w'→wpAny P .any ops Q f (listed.setIfInBounds i true) a' w':=fun a' w' h' =>
   ih (i+1) f _ a' w' (by omega) (by omega) (by omega) (by simpa using hs) (fun j hj=>by
    rw[Jz];by_cases e:i=j
    ·subst e;rw[Zjx ⟨rfl,by omega⟩];simp
    rw[Zk9 (fun h=>e h.1),hl j hj];by_cases h1:j<i
    ·rw[Yf h1,Yf (by omega)]
    rw[Yg h1,Yg (by omega)]) h'
  have h2:wpOp P ops Q i (wpList P ops Q (ops.toList.drop (i+1))) a w:=by
   unfold wpOp;rw[ho];exact h
  exact Zft hK h2
theorem Zvf(hB:Zvj ops k=true)(hk:k≤ops.size):∀ (fuel:Nat) (listed:Array Bool) (a:Act) (w:World),listed.size=ops.size→(∀ j,k≤j→j<ops.size→listed.getD j true=false)→Closed ops listed →
 wpAnyH P .any ops (Jg P ops Q k) S fuel (Gx listed k) a w→wpAny P .any ops Q (fuel+(ops.size-k)) listed a w:=by
 obtain⟨b1,b2,b3⟩:=Pl hB;have all:∀ (listed:Array Bool) (a:Act) (w:World) (f:Nat),listed.size=ops.size→(∀ j,k≤j→j<ops.size→listed.getD j true=false)→(∀ j,j<k→listed.getD j true=true)→ops.size-k≤f→wpList P ops Q (ops.toList.drop k) a w→wpAny P .any ops Q f listed a w:=fun listed a w f hs hn hy hf h =>
  Zuk hB (ops.size-k) k f listed a w (by omega) (Yn _) hf hs (fun j hj=>by
   by_cases h1:j<k
   ·rw[hy j h1,Yf h1]
   rw[hn j (by omega) hj,Yg h1]) h
 have least:∀ listed:Array Bool,listed.size=ops.size→∀ j,j<k→listed.getD j true=false→∃ i,i<k∧i∈Region.ready .any ops listed:=fun listed hs j=>by
  induction j using Nat.strongRecOn with
  | _ j ih =>
   intro hj hf;by_cases hex:∃ i,i<j∧listed.getD i true=false
   ·obtain⟨i,h1,h2⟩:=hex;exact ih i h1 (by omega) h2
   have ho:ops[j]?=some ops[j]:=Zjt (by omega);refine⟨j,hj,mem_ready.2 ⟨by omega,hf,ops[j],ho,fun e he hb=>?_⟩⟩;have h1:=b1 j _ ho e he hb;have h2:listed.getD e.on true=true:=by
    cases h3:listed.getD e.on true with
    | true=>rfl
    | false=>exact absurd ⟨e.on,h1,h3⟩ hex
   simp only[Zjq]at h2⊢;rw[Zjt (by omega)]at h2⊢;exact h2
 have up:∀ (listed:Array Bool) i,listed.size=ops.size→i<k→i∈Region.ready .any ops listed→i∈Region.ready .any ops (Gx listed k):=fun listed i hs hik hi=>by
  obtain⟨h1,h2,o,h3,h4⟩:=mem_ready.1 hi;refine mem_ready.2 ⟨h1,by rw[Bt,Zjx (by omega),h2,Yg (by omega)];rfl,o,h3,fun e he hb=>?_⟩;rw[Bt,Zjx (by have:=b1 i o h3 e he hb;omega),h4 e he hb];rfl
 intro fuel
 induction fuel with
 | zero =>
  rintro listed a w hs hn hc ⟨hr,hq⟩;refine all listed a w _ hs hn (fun j hj=>?_) (by omega) hq;cases h:listed.getD j true with
  | true=>rfl
  | false =>
   obtain⟨i,h1,h2⟩:=least listed hs j hj h;have:=up listed i hs h1 h2;rw[hr]at this;simp at this
 | succ fuel ih =>
  rintro listed a w hs hn hc ⟨hr,hq⟩;by_cases hex:∃ j,j<k∧listed.getD j true=false
  ·obtain⟨j,hj,hf⟩:=hex;obtain⟨i0,h1,h2⟩:=least listed hs j hj hf;rw[show fuel+1+(ops.size-k)=(fuel+(ops.size-k))+1 by omega];refine⟨fun h0=>by rw[h0]at h2;simp at h2,fun i hi=>?_⟩;have hik:i<k:=by
    rcases Zis i k with h|h
    ·exact h
    obtain⟨i1,i2,o,i3,i4⟩:=mem_ready.1 hi;have h5:=Ac hc b1 hs _ (b2 i h (by omega) j hj) i3 i4;simp only[Zjq]at h5 hf;rw[Zjt (by omega)]at h5 hf;simp at h5 hf;rw[h5]at hf;simp at hf
   have h3:=hq i (up listed i hs hik hi);refine Zft (fun a' w' h=>?_) (Ra h3);refine ih (listed.setIfInBounds i true) a' w' (by simpa using hs) (fun j' hj' hj2=>by rw[Jz,Zk9 (fun h=>by omega)];exact hn j' hj' hj2) (hc.set hi (fun j o ho e he hb=>b1 j o ho e he hb) hs) ?_;rw[Zvi];exact h.2
  have hy:∀ j,j<k→listed.getD j true=true:=fun j hj=>by
   cases h:listed.getD j true with
   | true=>rfl
   | false=>exact absurd ⟨j,hj,h⟩ hex
  refine all listed a w _ hs hn hy (by omega) (hr ?_);rw[Zi5];intro j hj;obtain⟨j1,j2,_⟩:=mem_ready.1 hj;rw[Bt,Zjx (by omega)]at j2;by_cases h1:j<k
  ·rw[hy j h1]at j2;simp at j2
  rw[Yf (by omega)]at j2;simp at j2
end
theorem Qm{P:Program}{id:Nat}{Q:Exit→Act→World→Prop}{S:World→Prop}{a:Act}{w:World}{l:List Oper}(k n:Nat)(hn:l.length=n)(hk:k≤n)(hm:P.follows .mixedOrders=true)(hB:Zvj l.toArray k=true)
 (h:wpAnyH P .any l.toArray (Jg P l.toArray Q k) S k (Gx (Array.replicate n false) k) a w.drew):(Code.region id l.toArray true).wp P Q a w:=by
 refine wp_region_any hm ?_;have hsz:l.toArray.size=n:=by simpa using hn
 have:=Zvf (P:=P) (Q:=Q) (S:=S) hB (by omega) k (Array.replicate n false) a w.drew (by simp[hn]) (fun j _ hj=>by simp at hj;simp[Zjq,hn▸hj]) (fun j o ho hl=>by
  have hjn:=(Zjz.1 ho).1;rw[hsz]at hjn;simp[Zjq,hjn]at hl) h
 rw[hsz]at this⊢;rw[show k+(n-k)=n by omega]at this;exact this
theorem Wy{P:Program}{id:Nat}{Q:Exit→Act→World→Prop}{a:Act}{w:World}{l:List Oper}(k n:Nat)(hn:l.length=n)(hk:k≤n)(hm:P.follows .mixedOrders=true)(hB:Zvj l.toArray k=true)(hL:(Region.noSelect l.toArray&&Region.lexFrom .any l.toArray k 0 (Gx (Array.replicate n false) k))=true)
 (h:wpQuiet P l.toArray (fun w'=>∃ p:Vz,w'=later w p.n p.os) (fun a'=>∀ w',Ext w w'→wpList P l.toArray Q (l.drop k) a' w') (l.take k) a):(Code.region id l.toArray true).wp P Q a w:=by
 rw[Zjg]at hL;refine Qm (S:=fun _=>True) k n hn hk hm hB (Sq _ _ _ _ ?_);have ht:(l.take k).length=k:=by simp;omega
 have hq:wpAnyQ P .any l.toArray (fun w'=>∃ p:Vz,w'=later w p.n p.os) (fun a'=>∀ w',Ext w w'→wpList P l.toArray Q (l.drop k) a' w') k (Gx (Array.replicate n false) k) a:=by
  have:=Zye (P:=P) (md:=.any) hL.1 (l.take k) 0 (Gx (Array.replicate n false) k) a (fun j hj=>by rw[ht]at hj;simp[hj]) (by rw[ht];exact hL.2) h
  rwa [ht]at this
 refine wpAny_of_quiet (C:=fun w'=>∃ p:Vz,w'=later w p.n p.os) (Q:=fun a'=>∀ w',Ext w w'→wpList P l.toArray Q (l.drop k) a' w') (fun a' w' ⟨p,hp⟩ hq=>?_) _ _ _ _ ⟨⟨w.drawn+1,#[]⟩,by rw[Kj];rfl⟩ hq;exact hq w' ⟨p.n,p.os,hp⟩
section
variable {P:Program} {ops:Array Oper} {Q:Exit→Act→World→Prop} {S:World→Prop}
def J3(P:Program)(ops:Array Oper)(S:World→Prop)(Q:Act→Prop):List Oper→Act→Prop
 | [],a=>Q a
 | o::l,a=>∃ v,YieldsIf P ops S o v a∧J3 P ops S Q l (a.put o.dst v)
theorem Xs{Q:Act→Prop}{a:Act}(h:Q a):J3 P ops S Q [] a:=h
theorem Xu{Q:Act→Prop}{o:Oper}{l:List Oper}{a:Act}{v:Value}(hw:Region.wanted o (yielded ops a.tmps)=true)(hv:∀ w,S w→(execOp a.eval o).run P w=.ok (.value v) w)(h:J3 P ops S Q l (a.put o.dst v)):J3 P ops S Q (o::l) a :=
 ⟨v,.inl ⟨hw,hv⟩,h⟩
theorem Qv{Q:Act→Prop}{o:Oper}{l:List Oper}{a:Act}(hw:Region.wanted o (yielded ops a.tmps)=false)(h:J3 P ops S Q l (a.put o.dst undef)):J3 P ops S Q (o::l) a:=⟨undef,.inr ⟨hw,rfl⟩,h⟩
def Zxv:Array Bool→List Nat→Array Bool
 | s,[]=>s
 | s,i::r=>Zxv (s.setIfInBounds i true) r
def In(ops:Array Oper):Array Bool→List Nat→Bool
 | _,[]=>true
 | s,i::r=>((Region.ready .any ops s).contains i&&Region.free .any ops s i&&(ops[i]?).isSome)&&In ops (s.setIfInBounds i true) r
theorem Oo(hs:Region.noSelect ops=true)(hQ:∀ c a d v w,Q (.panic c) (a.put d v) w→Q (.panic c) a w){w:World}(hS:S w)(k:Nat):∀ (idx:List Nat) (listed:Array Bool) (a:Act),In ops listed idx=true →
 J3 P ops S (fun a'=>wpAnyH P .any ops Q S k (Zxv listed idx) a' w) (idx.filterMap (ops[·]?)) a→wpAnyH P .any ops Q S (k+idx.length) listed a w
 | [],_,_,_,h=>h
 | i::r,listed,a,hB,h=>by
  simp only[In,Zjg]at hB;obtain⟨⟨⟨h1,h2⟩,h3⟩,h4⟩:=hB;obtain⟨o,ho⟩:=Zh4.1 h3;rw[List.filterMap_cons_some ho]at h;obtain⟨v,hy,h⟩:=h;exact Zih (fuel:=k+r.length) ho hs h2 h1 (fun c a' w' hq=>hQ c a' _ _ w' hq) hy hS (Oo hs hQ hS k r _ _ h4 h)
theorem Xv{w:World}{fuel:Nat}{listed:Array Bool}{a:Act}(idx:List Nat)(k:Nat)(hf:fuel=k+idx.length)(hs:Region.noSelect ops=true)(hB:In ops listed idx=true)(hQ:∀ c a d v w,Q (.panic c) (a.put d v) w→Q (.panic c) a w)(hS:S w)
 (h:J3 P ops S (fun a'=>wpAnyH P .any ops Q S k (Zxv listed idx) a' w) (idx.filterMap (ops[·]?)) a):wpAnyH P .any ops Q S fuel listed a w:=by
 subst hf;exact Oo hs hQ hS k idx listed a hB h
def Lat(w:World):World→Prop:=fun w'=>∃ p:Vz,w'=later w p.n p.os
theorem Lat.of{w w':World}(h:Ext w w'):Lat w w':=by
 obtain⟨d,os,rfl⟩:=h;exact⟨⟨d,os⟩,rfl⟩
theorem Lat.drew{w:World}:Lat w w.drew:=Lat.of (Yl w).drew
theorem Zw6{α:Type}(l:List α){k:Nat}(hk:k≤l.length):(List.range k).filterMap (l.toArray[·]?)=l.take k:=by
 induction k with
 | zero=>simp
 | succ k ih =>
  rw[Zh9,List.filterMap_append,ih (by omega),Za];simp only[Z5,Zz (show k<l.length by omega),Z3,Z4,Zgz]
theorem Uz{l:List Oper}{w:World}{fuel:Nat}{listed:Array Bool}{a:Act}(k m:Nat)(hf:fuel=m+k)(hk:k≤l.length)(hs:Region.noSelect l.toArray=true)(hB:In l.toArray listed (List.range k)=true)(hQ:∀ c a d v w,Q (.panic c) (a.put d v) w→Q (.panic c) a w)(hS:S w)
 (h:J3 P l.toArray S (fun a'=>wpAnyH P .any l.toArray Q S m (Zxv listed (List.range k)) a' w) (l.take k) a):wpAnyH P .any l.toArray Q S fuel listed a w:=by
 refine Xv (List.range k) m (by rw[Zi3];exact hf) hs hB hQ hS ?_;rw[Zw6 l hk];exact h
end
end
theorem Xl{S:Nat→Prop}{a:World}{b:Nat}(hb:S b∨a.heap.size≤b):∀ {vs:List Value} {o:Nat} {w:World},Chg S a w→Chg S a (w.setCells b o vs)
 | [],_,_,h=>h
 | v::r,o,w,h=>Xl hb (vs:=r) (h.setCell (p:=⟨b,o,none⟩) hb v)
theorem Zrm{w:World}{S:Nat→Prop}{T:Tbl}(h:Xk w S T):∀ v∈Qj T,v.oneCell'=true:=by
 obtain⟨_,_,e0,_,_⟩:=h.cat.shape;obtain⟨_,_,e1,_,_⟩:=h.cls.shape;obtain⟨_,_,e2,_,_⟩:=h.joi.shape;obtain⟨_,_,e3,_,_⟩:=h.bid.shape;obtain⟨_,_,e4,_,_⟩:=h.scr.shape;obtain⟨_,_,e5,_,_⟩:=h.sta.shape;obtain⟨_,_,e6,_,_⟩:=h.ign.shape;obtain⟨_,_,e7,_,_⟩:=h.ext.shape;obtain⟨_,_,e8,_,_⟩:=h.map.shape;obtain⟨_,_,e9,_,_⟩:=h.dec.shape;obtain⟨_,_,e10,_,_⟩:=h.exc.shape;obtain⟨_,_,e11,_,_⟩:=h.pro.shape;intro v hv;simp only[Qj,Zg,Zh,Zin]at hv;rcases hv with rfl|rfl|rfl|rfl|rfl|rfl|rfl|rfl|rfl|rfl|rfl|rfl
 ·rw[e0];rfl
 ·rw[e1];rfl
 ·rw[e2];rfl
 ·rw[e3];rfl
 ·rw[e4];rfl
 ·rw[e5];rfl
 ·rw[e6];rfl
 ·rw[e7];rfl
 ·rw[e8];rfl
 ·rw[e9];rfl
 ·rw[e10];rfl
 rw[e11];rfl
theorem Xp.there{w:World}{b o n:Nat}{cs:List Value}(h:Xp w b cs)(hn:o+n≤cs.length):w.there b o n:=fun j hj =>
 ⟨by rw[h.at_ (o+j) (by omega),Zz (by omega)];rfl,h.fz _⟩
theorem Xp.mid{w:World}{b o:Nat}{cs vs cs':List Value}(h:Xp w b cs)(ho:o+vs.length≤cs.length)(he:cs'=cs.take o++(vs++cs.drop (o+vs.length))):Xp (w.setCells b o vs) b cs':=by
 subst he;refine⟨Zk8 h.lt (Xl (S:=fun _=>True) (.inl trivial) (Chg.refl _ w)).size,fun k=>by rw[World.frozen?_setCells];exact h.fz k,fun k hk=>?_⟩;have hl:(cs.take o).length=o:=by simp;omega
 by_cases h1:k<o
 ·rw[World.cell?_setCells_out b vs o w ⟨b,k,none⟩ (fun _ _=>.inl h1),h.at_ k (by omega),Ze (by omega),Ziu h1]
 by_cases h2:k<o+vs.length
 ·have e:=World.cell?_setCells_in b vs o w (fun j hj=>((h.there ho) j hj).1) (k-o) (by omega);rw[show o+(k-o)=k by omega]at e;rw[e,Zd (by omega),hl,Ze (by omega),Zz (by omega)]
 rw[World.cell?_setCells_out b vs o w ⟨b,k,none⟩ (fun _ _=>.inr (by simp only;omega)),Zd (by omega),hl,Zd (by omega),Yx];rw[h.at_ k (by simp at hk;omega)];congr 1;omega
theorem Zs6{S R:Nat→Prop}(va vb:Value)(a b:List Int)(w:World)(ha:Xx w S va a)(hb:Xx w R vb b):Calls prog 26 #[va,vb] w fun e w'=>e=.returned (.bool (decide (a=b)))∧Ext w w':=by
 obtain⟨A,C,rfl,hlC,hC⟩:=ha.shape;obtain⟨A2,C2,rfl,hlC2,hC2⟩:=hb.shape;obtain⟨n,hn⟩:=gnX (a.length);obtain⟨m,hm⟩:=gnX (b.length);have HA:=Y4 ha;have HB:=Y4 hb;rw[hn]at hlC⊢;rw[hm]at hlC2⊢;have Hn:=Y4 hn;have Hm:=Y4 hm;unfold maxLen at hC hC2;clear ha hb hn hm;by_cases hnm:n=m
 ·subst hnm;go_enter func26,ntmps26;go_wp2_with fail;go_loopw [13] (fun o wr=>∃ i:Nat,i≤n∧o=.int .i64 (i:Int)∧a.take i=b.take i∧Ext w wr) (fun o _=>n-(intOf o).toNat);case atStart=>exact⟨0,by omega,rfl,by simp,Yl _⟩
  obtain⟨i,hi,rfl,htk,hx⟩:=hrel;have Htk:=Y4 htk;have Hx:=Y4 hx;clear htk hx;by_cases hlt:i<n
  ·obtain⟨hd_i,i0_i,i1_i⟩:=LTl i n;obtain⟨x,hs_x⟩:=geX (l:=(a)) (i:=i) (by have:=Hn.o;omega);obtain⟨g_x,o_x,c_x,hvv,_,_,_,hgl_x,a0_x⟩:=(HA.o.ext Hx.o).get hs_x;simp only[Ye]at hvv;obtain⟨rfl,-,rfl⟩:=hvv;have Hs_x:=Y4 hs_x;clear hs_x;obtain⟨y,hs_y⟩:=geX (l:=(b)) (i:=i) (by have:=Hm.o;omega);obtain⟨g_y,o_y,c_y,hvv,_,_,_,hgl_y,a0_y⟩:=(HB.o.ext Hx.o).get hs_y;simp only[Ye]at hvv;obtain⟨rfl,-,rfl⟩:=hvv;have Hs_y:=Y4 hs_y;clear hs_y;have m1:=lat a0_x;have m2:=lat a0_y;have e1:=Wp Hs_x.o;have e2:=Wp Hs_y.o;cases hxy:(x==y)
   ·have h1:(!(x==y))=true:=by rw[hxy];rfl
    have h2:(x !=y)=true:=h1;have h3:¬ x=y:=by simpa using hxy
    have Hno:=Y4 (show decide (a=b)=false by
     rw[Zji];intro e;have h4:=Hs_x.o;rw[e,Hs_y.o]at h4;exact h3 (Zjy h4).symm)
    clear h3 e1 e2 a0_x a0_y;go_wp2_with fail;have hun:=Yb;refine Y8 (by kernel_rfl) (by kernel_rfl) ?_;repeat((with_reducible refine Yu ?_);intro K hK;go_simp;(with_reducible refine hK _ ?_);clear hK K)
    (with_reducible refine Yt ?_)
    intro w9 hy9;clear hun;try simp only[Yc]
    go_wp2_with fail;go_ret;exact⟨by rw[Hno.o];rfl,Hx.o.trans hy9⟩
   have h1:(!(x==y))=false:=by rw[hxy];rfl
   have h2:(x !=y)=false:=h1;have h3:x=y:=by simpa using hxy
   have Hyes:=Y4 (show a.take (i+1)=b.take (i+1) by rw[e1,e2,Htk.o,h3]);clear h3 e1 e2 a0_x a0_y;go_wp2_with fail;have hun:=Yb;refine Y8 (by kernel_rfl) (by kernel_rfl) ?_;repeat((with_reducible refine Yu ?_);intro K hK;go_simp;(with_reducible refine hK _ ?_);clear hK K)
   (with_reducible refine Yt ?_)
   intro w9 hy9;clear hun;try simp only[Yc]
   go_wp2_with fail;go_roundw;case rel=>exact⟨i+1,by omega,by go_num,Hyes.o,Hx.o.trans hy9⟩
   (simp[intOf];omega)
  have hd_i:=GEl i n;go_wp2_with fail;go_ret;refine⟨?_,Hx.o⟩;have h1:=Htk.o;rw[Zm (by rw[Hn.o];omega),Zm (by rw[Hm.o];omega)]at h1;simp[h1]
 have d1:(!((n:Int)==(m:Int)))=true:=by simp;omega
 have d2:((n:Int)!=(m:Int))=true:=d1;have d3:(!(n==m))=true:=by simp;omega
 have d4:(n !=m)=true:=d3;have d5:¬ (n:Int)=(m:Int):=by omega
 go_enter func26,ntmps26;go_wp2_with fail;go_ret;refine⟨?_,Yl _⟩;have:¬ a=b:=fun e=>hnm (by rw[← Hn.o,← Hm.o,e])
 simp[this]
