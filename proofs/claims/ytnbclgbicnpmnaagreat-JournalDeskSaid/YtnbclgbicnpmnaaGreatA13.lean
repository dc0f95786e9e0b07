/- Lemmas of this claim: Ls, RKept, Blk, Dsk, Dk2, Blk2, Si, Sna. Conditions: as named. -/
import Derived.Test.YtnbclgbicnpmnaaGreatA10
import Derived.Test.YtnbclgbicnpmnaaGreatA12
namespace Go.Proofs.YtnbclgbicnpmnaaGreat
open Go.RowKit Go.Sort Tryz
set_option maxHeartbeats 0
set_option maxRecDepth 100000
set_option linter.all false
theorem J9:(prog.info? 4).map (fun i=>(i.zero,i.size,i.bytes))=some (some (.bool false),1,1):=by kernel_rfl
theorem Zzo:prog.underlying 117=some (.slice 4):=by kernel_rfl
noncomputable def Su:Enc Bool where
 ty:=4
 sl:=117
 z:=1
 bytes:=1
 cells l:=l.map Value.bool
 app a b:=Yy
 len l:=by simp
 one l:=Fp _ (fun _=>rfl) l
 und:=Zzo
 i:=Classical.choose (Zgl J9)
 zero:=.bool false
 info:=(Yo (Zgl J9)).1
 hz:=(Yo (Zgl J9)).2.1
 hs:=(Yo (Zgl J9)).2.2.1
 hb:=(Yo (Zgl J9)).2.2.2
 hc:=rfl
 pos:=by omega
theorem Lg{l:List Bool}{j:Nat}{x:Bool}(h:l[j]?=some x):(Su.cells l)[j]?=some (.bool x):=by
 show(l.map Value.bool)[j]?=_;rw[Zn,h];rfl
structure Sl where
 a:Option Addr
 n:Nat
 c:Nat
def Sl.v(s:Sl):Value:=.slice s.a s.n s.c
theorem Gj:(prog.info? 22).map (fun i=>(i.zero,i.size,i.bytes))=some (some (.slice none 0 0),1,24):=by kernel_rfl
theorem Zoo:prog.underlying 268=some (.slice 22):=by kernel_rfl
noncomputable def Zi9:Enc Sl where
 ty:=22
 sl:=268
 z:=1
 bytes:=24
 cells l:=l.map Sl.v
 app a b:=Yy
 len l:=by simp
 one l:=Fp _ (fun _=>rfl) l
 und:=Zoo
 i:=Classical.choose (Zgl Gj)
 zero:=.slice none 0 0
 info:=(Yo (Zgl Gj)).1
 hz:=(Yo (Zgl Gj)).2.1
 hs:=(Yo (Zgl Gj)).2.2.1
 hb:=(Yo (Zgl Gj)).2.2.2
 hc:=rfl
 pos:=by omega
theorem Lt{l:List Sl}{j:Nat}{x:Sl}(h:l[j]?=some x):(Zi9.cells l)[j]?=some x.v:=by
 show(l.map Sl.v)[j]?=_;rw[Zn,h];rfl
def Um(w:World)(S:Nat→Prop)(vs:List Sl)(ls:List (List Int)):Prop:=vs.length=ls.length∧∀ (j:Nat) (s:Sl) (x:List Int),vs[j]?=some s→ls[j]?=some x→Xw w S s.v x
theorem Um.ext{w w':World}{S:Nat→Prop}{vs:List Sl}{ls:List (List Int)}(h:Um w S vs ls)(x:Ext w w'):Um w' S vs ls:=⟨h.1,fun j s y h1 h2=>(h.2 j s y h1 h2).ext x⟩
theorem Um.chg{w w':World}{S T:Nat→Prop}{vs:List Sl}{ls:List (List Int)}(h:Um w S vs ls)(c:Chg T w w')(hd:∀ k,S k→¬ T k):Um w' S vs ls:=⟨h.1,fun j s y h1 h2=>(h.2 j s y h1 h2).chg c hd⟩
theorem Um.mono{w:World}{S T:Nat→Prop}{vs:List Sl}{ls:List (List Int)}(h:Um w S vs ls)(hd:∀ k,S k→k<w.heap.size→T k):Um w T vs ls:=⟨h.1,fun j s y h1 h2=>Rd.mono (h.2 j s y h1 h2) hd⟩
def Zvq(w:World)(v:Value)(ls:List (List Int)):Prop:=∃ vs:List Sl,RdE Zi9 w (fun _=>True) v vs∧Um w (fun _=>True) vs ls
theorem Zvq.ext{w w':World}{v:Value}{ls:List (List Int)}(h:Zvq w v ls)(x:Ext w w'):Zvq w' v ls:=by
 obtain⟨vs,h1,h2⟩:=h;exact⟨vs,h1.ext x,h2.ext x⟩
theorem Zvq.shape{w:World}{v:Value}{ls:List (List Int)}(h:Zvq w v ls):∃ A c,v=.slice A ls.length c∧ls.length≤c∧c≤maxLen:=by
 obtain⟨vs,h1,h2,_⟩:=h;obtain⟨A,c,e,h3,h4⟩:=h1.shape;rw[h2]at e h3;exact⟨A,c,e,h3,h4⟩
theorem Zvq.get{w:World}{v:Value}{ls:List (List Int)}(h:Zvq w v ls){j:Nat}{x:List Int}(hj:ls[j]?=some x) :
 ∃ g o c u,v=.slice (some ⟨g,o,none⟩) ls.length c∧ls.length≤c∧c≤maxLen∧g<w.heap.size∧w.cell? ⟨g,o+j,none⟩=some u∧Xw w (fun _=>True) u x:=by
 obtain⟨vs,h1,h2,h3⟩:=h;have hjl:=(Zr.1 hj).1;obtain⟨g,o,c,e,k1,k2,k3,k4,k5⟩:=Rd.at_ h1 (show j<vs.length by omega);have hs:vs[j]?=some vs[j]:=Zz (by omega);rw[h2]at e k1;exact⟨g,o,c,_,e,k1,k2,k4,k5 j _ (Lt hs),h3 j _ _ hs hj⟩
def Pp(w:World)(B:Nat)(v:Value)(vs:List Sl)(ls:List (List Int)):Prop:=Own Zi9 w B v vs∧Um w (fun k=>v.ownBlock≠some k) vs ls
theorem Pp.ext{w w':World}{B:Nat}{v:Value}{vs:List Sl}{ls:List (List Int)}(h:Pp w B v vs ls)(x:Ext w w'):Pp w' B v vs ls:=⟨h.1.ext x,h.2.ext x⟩
theorem Pp.at_{w:World}{B:Nat}{v:Value}{vs:List Sl}{ls:List (List Int)}(h:Pp w B v vs ls):Zvq w v ls:=⟨vs,Rd.mono h.1.rd fun _ _ _=>trivial,h.2.mono fun _ _ _=>trivial⟩
theorem Zr1:(prog.info? 161).map (fun i=>(i.zero,i.size,i.bytes))=some (some (.agg #[.string ⟨#[]⟩,.int .i64 0,.int .i64 0,.string ⟨#[]⟩,.int .i64 0]),5,56):=by kernel_rfl
theorem Pw:prog.underlying 131=some (.slice 161):=by kernel_rfl
theorem Zud{key:ByteArray}{r:Rc}{d:Bool}{p:Kp}{l:List Kp}(h:p.1=key):Vr key r d (p::l)=Vr key r d l:=by rw[Vr,Zgn h]
theorem Zlv{key:ByteArray}{r:Rc}{p:Kp}{l:List Kp}(h:p.1≠key)(hl:kb key<kb p.1):Vr key r false (p::l)=(key,r)::p::Vr key r true l:=by rw[Vr,Zgq h,Zgn ⟨rfl,hl⟩]
theorem Zue{key:ByteArray}{r:Rc}{d:Bool}{p:Kp}{l:List Kp}(h:p.1≠key)(hl:¬ (d=false∧kb key<kb p.1)):Vr key r d (p::l)=p::Vr key r d l:=by rw[Vr,Zgq h,Zgq hl]
theorem Uj(l:List Kp)(p:Kp):Vz (l++[p])=Vz l++Nj p:=by rw[Gg];simp[Vz]
theorem Zq8{w:World}{base base':Nat}{e:TypeId}{size:Nat}{v:Value}{n:Nat}{xs:List Value}(h:w.ownsRow base e size v n xs)(hb:base'≤base):w.ownsRow base' e size v n xs:=by
 refine⟨h.1,?_⟩;rcases h.2 with h2 | ⟨g,cap,cur,h1,h2,h3⟩
 ·exact .inl h2
 exact .inr ⟨g,cap,cur,h1,Zgo hb h2,h3⟩
def Zt7(l:List Kp)(w:World)(e:Ending)(w':World):Prop:=∃ v,e=.returned v∧w'.ownsRow w.heap.size 161 5 v l.length (Vz l)∧Ext w w'
theorem Oh{S:Nat→Prop}(v:Value)(l:List Kp)(key:ByteArray)(r:Rc)(w:World)(hl:KeptAt w S v l)(hll:l.length≤100000) :
 Calls prog 73 #[v,.string key,rcV r] w (Zt7 (Jb l key r) w):=by
 obtain⟨A,c,rfl⟩:=hl.shape;obtain⟨i0,hi,hz0,hz1,hz2⟩:=Zgl Zr1;obtain⟨st,ow,nm,dl⟩:=r;unfold rcV;have Hl:=Y8 hl;clear hl;go_enter func73,ntmps73;go_wp2_with fail;have Hx0:=Y8 ((Yk w).alloc (.cells #[.int .i64 st,.int .i64 ow,.string nm,.int .i64 dl] 51));have q0:(w.alloc (.cells #[.int .i64 st,.int .i64 ow,.string nm,.int .i64 dl] 51)).cell? ⟨w.heap.size,0,none⟩=some (.int .i64 st):=by go_simp
 have q1:(w.alloc (.cells #[.int .i64 st,.int .i64 ow,.string nm,.int .i64 dl] 51)).cell? ⟨w.heap.size,1,none⟩=some (.int .i64 ow):=by go_simp
 have q2:(w.alloc (.cells #[.int .i64 st,.int .i64 ow,.string nm,.int .i64 dl] 51)).cell? ⟨w.heap.size,2,none⟩=some (.string nm):=by go_simp
 have q3:(w.alloc (.cells #[.int .i64 st,.int .i64 ow,.string nm,.int .i64 dl] 51)).cell? ⟨w.heap.size,3,none⟩=some (.int .i64 dl):=by go_simp
 have ql:w.heap.size<(w.alloc (.cells #[.int .i64 st,.int .i64 ow,.string nm,.int .i64 dl] 51)).heap.size:=by simp
 obtain⟨W0,hW0⟩:=gnX (w.alloc (.cells #[.int .i64 st,.int .i64 ow,.string nm,.int .i64 dl] 51));rw[hW0]at Hx0 q0 q1 q2 q3 ql;rw[hW0];have hlow:w.heap.size≤W0.heap.size:=by omega
 clear hW0;go_loopw [16,8,7] (fun o d v wr=>∃ (k:Nat) (db:Bool) (out:List Kp),k≤l.length∧o=.int .i64 (k:Int)∧d=.bool db∧wr.ownsRow W0.heap.size 161 5 v out.length (Vz out)∧out++Vr key ⟨st,ow,nm,dl⟩ db (l.drop k)=Jb l key ⟨st,ow,nm,dl⟩∧out.length≤2*k∧Ext W0 wr) (fun o _ _ _=>l.length-(intOf o).toNat);case atStart=>exact⟨0,st==0,[],by omega,rfl,rfl,Zfj _ _ _ _,rfl,by simp,Yk _⟩
 obtain⟨k,db,out,hk,rfl,rfl,hown,hinv,hol,hx⟩:=hrel;obtain⟨la,lc,rfl⟩:=Wv hown;have Hx:=Y8 hx;have Hown:=Y8 hown;replace q0:=(hx.cell (p:=⟨w.heap.size,0,none⟩) ql).trans q0;replace q1:=(hx.cell (p:=⟨w.heap.size,1,none⟩) ql).trans q1;replace q2:=(hx.cell (p:=⟨w.heap.size,2,none⟩) ql).trans q2;replace q3:=(hx.cell (p:=⟨w.heap.size,3,none⟩) ql).trans q3;replace ql:=Zgp ql hx.size;clear hx hown;by_cases hlt:k<l.length
 ·have hd:decide ((k:Int)<(l.length:Int))=true:=by simpa using hlt
  obtain⟨p,hpk⟩:∃ p,l[k]?=some p:=⟨l[k],by simp[hlt]⟩;obtain⟨g,o,c',hv,p1,p2,_,b1,x0,x1,x2,x3,x4⟩:=KeptAt.get (Rd.ext Hl.o (Hx0.o.trans Hx.o)) hpk;simp only[Yd,Zg0]at hv;obtain⟨rfl,rfl⟩:=hv;have j0:(0:Int)≤(k:Int):=by omega
  have j1:(k:Int)<(l.length:Int):=by omega
  rw[Dz hpk]at hinv;have Hinv:=Y8 hinv;clear hpk hinv;by_cases he:p.1=key
  ·have hinv:=Hinv.o;rw[Zud he]at hinv;subst he;replace Hinv:=Y8 hinv;clear hinv q0 q1 q2 q3;go_wp2_with fail;go_roundw;case rel=>exact⟨k+1,db,out,by omega,by go_num,rfl,(Ek Hown.o ((Yk _).alloc _)),Hinv.o,by omega,Hx.o.alloc _⟩
   simp[intOf];omega
  have hne:(p.1.toList==key.toList)=false:=by rw[Zg2,Zg2];simp only[Zd5];exact fun e=>he (Nn e)
  have He:=Y8 he;clear he;go_upto_region 7 with fail;have z0:(wr.alloc (.cells #[.string p.1,.int .i64 p.2.st,.int .i64 p.2.ow,.string p.2.nm,.int .i64 p.2.dl] 161)).cell? ⟨wr.heap.size,0,none⟩=some (.string p.1):=by go_simp
  have z1:(wr.alloc (.cells #[.string p.1,.int .i64 p.2.st,.int .i64 p.2.ow,.string p.2.nm,.int .i64 p.2.dl] 161)).cell? ⟨wr.heap.size,1,none⟩=some (.int .i64 p.2.st):=by go_simp
  have z2:(wr.alloc (.cells #[.string p.1,.int .i64 p.2.st,.int .i64 p.2.ow,.string p.2.nm,.int .i64 p.2.dl] 161)).cell? ⟨wr.heap.size,2,none⟩=some (.int .i64 p.2.ow):=by go_simp
  have z3:(wr.alloc (.cells #[.string p.1,.int .i64 p.2.st,.int .i64 p.2.ow,.string p.2.nm,.int .i64 p.2.dl] 161)).cell? ⟨wr.heap.size,3,none⟩=some (.string p.2.nm):=by go_simp
  have z4:(wr.alloc (.cells #[.string p.1,.int .i64 p.2.st,.int .i64 p.2.ow,.string p.2.nm,.int .i64 p.2.dl] 161)).cell? ⟨wr.heap.size,4,none⟩=some (.int .i64 p.2.dl):=by go_simp
  have hxW:Ext wr (wr.alloc (.cells #[.string p.1,.int .i64 p.2.st,.int .i64 p.2.ow,.string p.2.nm,.int .i64 p.2.dl] 161)):=(Yk wr).alloc _;have zl:wr.heap.size<(wr.alloc (.cells #[.string p.1,.int .i64 p.2.st,.int .i64 p.2.ow,.string p.2.nm,.int .i64 p.2.dl] 161)).heap.size:=by simp
  obtain⟨bb,hbb⟩:=gnX (wr.heap.size);obtain⟨W1,hW1⟩:=gnX (wr.alloc (.cells #[.string p.1,.int .i64 p.2.st,.int .i64 p.2.ow,.string p.2.nm,.int .i64 p.2.dl] 161));rw[hW1]at z0 z1 z2 z3 z4 hxW zl;rw[hW1];rw[hbb]at z0 z1 z2 z3 z4 zl;rw[hbb];replace q0:=(hxW.cell (p:=⟨w.heap.size,0,none⟩) ql).trans q0;replace q1:=(hxW.cell (p:=⟨w.heap.size,1,none⟩) ql).trans q1;replace q2:=(hxW.cell (p:=⟨w.heap.size,2,none⟩) ql).trans q2;replace q3:=(hxW.cell (p:=⟨w.heap.size,3,none⟩) ql).trans q3;have Hown1:=Y8 (Ek Hown.o hxW);have Hx1:=Y8 (Hx.o.trans hxW);have hw1:W0.heap.size≤W1.heap.size:=by have:=(Hx.o.trans hxW).size;exact this
  have hnb:¬ (Value.slice la out.length lc).ownBlock=some bb:=fun e=>by have:=(Hown.o.lt bb e).2;omega
  clear hW1 hbb hxW x0 x1 x2 x3 x4 Hx Hown b1;go_cut [31] from 17 to 42 (fun x wx=>(∃ bo:Bool,x=.bool bo∧(bo=true↔db=false∧kb key<kb p.1))∧wx=W1)
  case first =>
   clear q0 q1 q2 q3 z1 z2 z3 z4;cases db with
   | true =>
    go_wp2_with fail;go_meet;exact⟨⟨_,rfl,by simp⟩,rfl⟩
   | false =>
    by_cases hin:kb key<kb p.1
    ·obtain⟨g1,_⟩:=Tz (x:=p.1) (s:=key) hin;go_wp2_with fail;go_meet;exact⟨⟨_,rfl,by simpa using hin⟩,rfl⟩
    have g1:Op.bytesLess p.1.toList key.toList=true:=by
     have:=Lb (x:=p.1) (s:=key) hin;rw[hne,Bool.or_false]at this;exact this
    go_wp2_with fail;go_meet;exact⟨⟨_,rfl,by simpa using hin⟩,rfl⟩
  case rest =>
  obtain⟨⟨bo,rfl,hbo⟩,rfl⟩:=hcut;have Hbo:=Y8 hbo;clear hbo;go_upto_if 31 with fail;go_cut [8,7] from 17 to 42 (fun d v wx=>∃ (db2:Bool) (out2:List Kp),d=.bool db2∧wx.ownsRow W0.heap.size 161 5 v out2.length (Vz out2)∧out2++p::Vr key ⟨st,ow,nm,dl⟩ db2 (l.drop (k+1))=Jb l key ⟨st,ow,nm,dl⟩∧out2.length≤2*k+1∧Chg (fun i=>(Value.slice la out.length lc).ownBlock=some i) wc wx∧Ext W0 wx)
  case first =>
   cases bo with
   | true =>
    obtain⟨hdb,hin⟩:=Hbo.o.1 rfl;have hinv:=Hinv.o;rw[hdb,Zlv He.o hin]at hinv;have hrl:=Qh wc #[.string key,.int .i64 st,.int .i64 ow,.string nm,.int .i64 dl] 161 5 (by rfl);have hbz:W0.heap.size≤(wc.alloc (.cells #[.string key,.int .i64 st,.int .i64 ow,.string nm,.int .i64 dl] 161)).heap.size:=by simp;omega
    replace Hinv:=Y8 hinv;clear hinv hin hdb z0 z1 z2 z3 z4;go_wp2_with (at_builtin;refine Vu _ rfl _ _ 131 rfl W0.heap.size 161 i0 _ 5 56 Pw hi hz0 hz1 hz2 rfl (by decide) _ out.length _ rfl (Hown1.o.alloc _) (fun _=>True) _ 1 _ rfl hrl (by simp[Value.oneCell']) (by unfold maxLen;omega) (by omega) hbz ?_;intro v' w6 ha;obtain⟨a3,c3',hv3⟩:=Wv ha.own;subst hv3);go_meet;refine⟨true,out++[(key,⟨st,ow,nm,dl⟩)],rfl,?_,by rw[← Hinv.o];simp,by simp;omega,((Chg.refl _ wc).alloc _).grown ha.grown fun k hk=>.inl hk,(Hx1.o.alloc _).grown ha.grown fun k hk=>(Hown1.o.lt k hk).1⟩;rw[Uj,Zs];exact ha.own
   | false =>
    have hinv:=Hinv.o;rw[Zue He.o fun h=>by have:=Hbo.o.2 h;simp at this]at hinv;replace Hinv:=Y8 hinv;clear hinv z0 z1 z2 z3 z4;go_wp2_with fail;go_meet;exact⟨db,out,rfl,Hown1.o,Hinv.o,by omega,Chg.refl _ _,Hx1.o⟩
  case rest =>
  obtain⟨db2,out2,rfl,hown2,hinv2,hol2,hc2,hx2⟩:=hcut;obtain⟨la2,lc2,rfl⟩:=Wv hown2;replace z0:=(hc2.cell (p:=⟨bb,0,none⟩) zl hnb).trans z0;replace z1:=(hc2.cell (p:=⟨bb,1,none⟩) zl hnb).trans z1;replace z2:=(hc2.cell (p:=⟨bb,2,none⟩) zl hnb).trans z2;replace z3:=(hc2.cell (p:=⟨bb,3,none⟩) zl hnb).trans z3;replace z4:=(hc2.cell (p:=⟨bb,4,none⟩) zl hnb).trans z4;have hrl:=Qh wc #[.string p.1,.int .i64 p.2.st,.int .i64 p.2.ow,.string p.2.nm,.int .i64 p.2.dl] 161 5 (by rfl);have hbz:W0.heap.size≤(wc.alloc (.cells #[.string p.1,.int .i64 p.2.st,.int .i64 p.2.ow,.string p.2.nm,.int .i64 p.2.dl] 161)).heap.size:=by have:=hx2.size;simp;omega
  have Hx2:=Y8 hx2;have Hown2:=Y8 hown2;have Hinv2:=Y8 hinv2;clear hx2 hc2 hown2 hinv2 q0 q1 q2 q3 Hinv Hown1 Hx1;go_wp2_with (at_builtin;refine Vu _ rfl _ _ 131 rfl W0.heap.size 161 i0 _ 5 56 Pw hi hz0 hz1 hz2 rfl (by decide) _ out2.length _ rfl (Hown2.o.alloc _) (fun _=>True) _ 1 _ rfl hrl (by simp[Value.oneCell']) (by unfold maxLen;omega) (by omega) hbz ?_;intro v' w6 ha;obtain⟨a3,c3',hv3⟩:=Wv ha.own;subst hv3);have hend:w6.ownsRow W0.heap.size 161 5 (.slice a3 (out2.length+1) c3') (out2++[p]).length (Vz (out2++[p])):=by
   rw[Uj,Zs];exact ha.own
  have hx6:=(Hx2.o.alloc (.cells #[.string p.1,.int .i64 p.2.st,.int .i64 p.2.ow,.string p.2.nm,.int .i64 p.2.dl] 161)).grown ha.grown fun k hk=>(Hown2.o.lt k hk).1
  have Hend:=Y8 hend;have Hx6:=Y8 hx6;clear ha hend hx6 hrl hbz;go_roundw;case rel=>exact⟨k+1,db2,out2++[p],by omega,by go_num,rfl,Hend.o,by rw[← Hinv2.o];simp,by simp;omega,Hx6.o⟩
  simp[intOf];omega
 have hd:decide ((k:Int)<(l.length:Int))=false:=by simp;omega
 rw[Zf0 (by omega)]at hinv;cases db with
 | true =>
  have hout:out=Jb l key ⟨st,ow,nm,dl⟩:=by rw[← hinv];simp[Vr]
  subst hout;clear q0 q1 q2 q3 hinv;go_wp2_with fail;go_ret;exact⟨_,rfl,Zq8 Hown.o hlow,Hx0.o.trans Hx.o⟩
 | false =>
  have hinv2:out++[(key,(⟨st,ow,nm,dl⟩:Rc))]=Jb l key ⟨st,ow,nm,dl⟩:=by rw[← hinv];simp[Vr]
  have hrl:=Qh wr #[.string key,.int .i64 st,.int .i64 ow,.string nm,.int .i64 dl] 161 5 (by rfl);have hbz:W0.heap.size≤(wr.alloc (.cells #[.string key,.int .i64 st,.int .i64 ow,.string nm,.int .i64 dl] 161)).heap.size:=by have:=Hx.o.size;simp;omega
  clear hinv;go_wp2_with (at_builtin;refine Vu _ rfl _ _ 131 rfl W0.heap.size 161 i0 _ 5 56 Pw hi hz0 hz1 hz2 rfl (by decide) _ out.length _ rfl (Hown.o.alloc _) (fun _=>True) _ 1 _ rfl hrl (by simp[Value.oneCell']) (by unfold maxLen;omega) (by omega) hbz ?_;intro v' w6 ha;obtain⟨a3,c3',hv3⟩:=Wv ha.own;subst hv3);go_ret;refine⟨_,rfl,?_,?_⟩
  ·rw[← hinv2,Uj,Zs];exact Zq8 ha.own hlow
  exact Hx0.o.trans ((Hx.o.alloc _).grown ha.grown fun k hk=>(Hown.o.lt k hk).1)
structure Xm(w:World)(b:Nat)(cs:List Value):Prop where
 lt:b<w.heap.size
 fz:∀ k,w.frozen? ⟨b,k,none⟩=false
 at_:∀ k,k<cs.length→w.cell? ⟨b,k,none⟩=cs[k]?
theorem Xm.chg{U:Nat→Prop}{w w':World}{b:Nat}{cs:List Value}(h:Xm w b cs)(c:Chg U w w')(hb:¬ U b):Xm w' b cs :=
 ⟨Zgp h.lt c.size,fun k=>(c.frozen (p:=⟨b,k,none⟩) h.lt hb).trans (h.fz k),fun k hk=>(c.cell (p:=⟨b,k,none⟩) h.lt hb).trans (h.at_ k hk)⟩
theorem Xm.ext{w w':World}{b:Nat}{cs:List Value}(h:Xm w b cs)(x:Ext w w'):Xm w' b cs:=h.chg (x.chg fun _=>False) fun h=>h
theorem Xm.new(w:World)(cs:Array Value)(t:TypeId):Xm (w.alloc (.cells cs t)) w.heap.size cs.toList :=
 ⟨by simp,fun k=>by go_simp,fun k hk=>by go_simp⟩
theorem Xm.set{w:World}{b:Nat}{cs:List Value}(h:Xm w b cs){j:Nat}(hj:j<cs.length)(u:Value):Xm (w.setCell ⟨b,j,none⟩ u) b (cs.set j u):=by
 obtain⟨h1,h2,h3⟩:=h;have hc:=h3 j hj;rw[Zz hj]at hc;refine⟨by simpa[World.setCell]using h1,fun k=>?_,fun k hk=>?_⟩
 ·have:=h2 k;simp only[World.frozen?,World.setCell]at this⊢;rw[Zes];simp only[Zc6];cases hh:w.heap[b]? with
  | none=>rfl
  | some o=>cases o<;>simp_all
 rw[Zf]at hk;have hck:=h3 k hk;rw[Yv];by_cases e:j=k
 ·subst e;rw[Zgn rfl,Zgn hj];go_simp
 rw[Zgq e,← hck];go_simp
theorem Chg.thenB{S T:Nat→Prop}{a b c:World}(h:Chg S a b)(k:Chg T b c)(hT:∀ i,i<a.heap.size→T i→S i):Chg S a c :=
 ⟨k.os.trans h.os,k.tape.trans h.tape,k.output.trans h.output,Zgo h.size k.size,fun i hi hS=>(k.block i (Zgp hi h.size) (fun ht=>hS (hT i hi ht))).trans (h.block i hi hS)⟩
theorem Xm.drew{w:World}{b:Nat}{cs:List Value}(h:Xm w b cs):Xm w.drew b cs:=h.ext (Yk w).drew
theorem Xm.far{w:World}{b c j:Nat}{cs:List Value}(h:Xm w b cs)(hne:b≠c)(u:Value):Xm (w.setCell ⟨c,j,none⟩ u) b cs:=h.chg ((Chg.refl (· = c) w).setCell (p:=⟨c,j,none⟩) (.inl rfl) u) hne
theorem RdE.far{α:Type}{E:Enc α}{w:World}{S:Nat→Prop}{v:Value}{l:List α}{c j:Nat}(h:RdE E w S v l)(hS:¬ S c)(u:Value):RdE E (w.setCell ⟨c,j,none⟩ u) S v l:=Rd.chg h ((Chg.refl (· = c) w).setCell (p:=⟨c,j,none⟩) (.inl rfl) u) (fun k hk e=>hS (e▸hk))
theorem Own.far{α:Type}{E:Enc α}{w:World}{B:Nat}{v:Value}{l:List α}{c j:Nat}(h:Own E w B v l)(hS:v.ownBlock≠some c)(u:Value):Own E (w.setCell ⟨c,j,none⟩ u) B v l:=h.chg ((Chg.refl (· = c) w).setCell (p:=⟨c,j,none⟩) (.inl rfl) u) (fun k hk e=>hS (by rw[hk,e]))
theorem Zlz{w:World}{B z g n c m:Nat}{t:TypeId}{xs:List Value}(h:w.ownsRow B t z (.slice (some ⟨g,0,none⟩) n c) m xs)(j:Nat)(u:Value):(w.setCell ⟨g,j,none⟩ u).ownsRow B t z (.slice (some ⟨g,0,none⟩) n c) m (xs.set j u):=by
 obtain⟨h1,h2⟩:=h;refine⟨by rw[Zf];exact h1,?_⟩;rcases h2 with⟨h2,_⟩ | ⟨g',cap,cur,he,hb,hg,hn,hm,hs,ht⟩
 ·simp at h2
 simp only[Yd,Yc,Zga,Zg0,Zfw]at he;obtain⟨rfl,he2,rfl⟩:=he;refine .inr ⟨g,c,cur.setIfInBounds j u,?_,hb,?_,hn,hm,by simpa using hs,?_⟩
 ·rw[← he2]
 ·simp[World.setCell,Zes,hg]
 rw[← ht];simp[List.take_set]
structure Wc where
 cl:Int
 st:Int
 text:ByteArray
 op:Int
 ttl:Int
 lv:Value
 ns:List Nm
 rv:Value
 rs:List Rc
 ans:Zzk
 i:Int
def Vq(r:Zzk):List Value:=[.int .i64 r.e,.int .i64 r.at_,.string r.nm,.int .i64 r.rc.st,.int .i64 r.rc.ow,.string r.rc.nm,.int .i64 r.rc.dl,.int .i64 r.tick]
def machC(T:Tbl)(m:Wc):List Value:=[T.catV,T.clsV,T.joiV,T.bidV,T.scrV,T.staV,T.ignV,T.extV,T.mapV,T.decV,T.excV,T.proV,.int .i64 m.cl,.int .i64 m.st,.string m.text,.int .i64 m.op,.int .i64 m.ttl,m.lv,m.rv,.int .i64 m.ans.e,.int .i64 m.ans.at_,.string m.ans.nm,.int .i64 m.ans.rc.st,.int .i64 m.ans.rc.ow,.string m.ans.rc.nm,.int .i64 m.ans.rc.dl,.int .i64 m.ans.tick,.int .i64 m.i]
structure MOk(m:Wc):Prop where
 s0:0≤m.st
 s1:m.st≤7
 c0:0≤m.cl
 c1:m.cl<64∧KS m.ns∧0≤m.ans.tick
 n0:2≤m.st→m.st≤6→1≤m.ns.length∧m.ns.length≤16∧0≤m.i∧m.i<m.ns.length
 i4:m.st=4→m.i=0
 r3:m.st=3→(m.rs.length:Int)=m.i
 r4:4≤m.st→m.st≤5→m.rs.length=m.ns.length
 e2:1≤m.st→m.st≤2→m.rs=[]∧(m.st=1→m.i=0)
structure Vy(w:World)(S:Nat→Prop)(T:Tbl)(b:Nat)(m:Wc):Prop where
 cells:Xm w b (machC T m)
 ns:Wo w S m.lv m.ns
 rs:Q4 w S m.rv m.rs
theorem Vy.chg{S U:Nat→Prop}{w w':World}{T:Tbl}{b:Nat}{m:Wc}(h:Vy w S T b m)(c:Chg U w w')(hb:¬ U b)(hS:∀ k,S k→¬ U k):Vy w' S T b m :=
 ⟨h.cells.chg c hb,Rd.chg h.ns c hS,Rd.chg h.rs c hS⟩
structure Shr where
 cl:Int
 cp:Int
 clock:Int
 sum:Int
 kv:Value
 ks:List Kp
 rv:Value
 rs:List Kp
def Zi8(x:Shr):List Value:=[.int .i64 x.cl,.int .i64 x.cp,.int .i64 x.clock,.int .i64 x.sum,x.kv,x.rv]
structure Q1(w:World)(S:Nat→Prop)(b:Nat)(x:Shr):Prop where
 cells:Xm w b (Zi8 x)
 ks:KeptAt w S x.kv x.ks
 rs:KeptAt w S x.rv x.rs
theorem Q1.chg{S U:Nat→Prop}{w w':World}{b:Nat}{x:Shr}(h:Q1 w S b x)(c:Chg U w w')(hb:¬ U b)(hS:∀ k,S k→¬ U k):Q1 w' S b x :=
 ⟨h.cells.chg c hb,Rd.chg h.ks c hS,Rd.chg h.rs c hS⟩
structure XOk(t:Nat)(x:Shr):Prop where
 c0:0≤x.clock
 c1:x.clock≤1073741824
 m0 : -(16*t:Int)≤x.sum
 m1:x.sum≤16*t
 k:x.ks.length≤t
 r:x.rs.length≤t
theorem XOk.up{t:Nat}{x:Shr}(h:XOk t x):XOk (t+1) x:=⟨h.c0,h.c1,by have:=h.m0;omega,by have:=h.m1;omega,by have:=h.k;omega,by have:=h.r;omega⟩
theorem Dr:(prog.info? 55).map (fun i=>(i.zero,i.size,i.bytes))=some (some (.agg #[.int .i64 0,.int .i64 0,.int .i64 0,.slice none 0 0,.int .i64 0,.int .i64 0,.string ⟨#[]⟩,.int .i64 0,.int .i64 0,.string ⟨#[]⟩,.int .i64 0,.int .i64 0,.int .i64 0,.int .i64 0,.int .i64 0,.int .i64 0,.int .i64 0,.string ⟨#[]⟩,.int .i64 0,.int .i64 0,.string ⟨#[]⟩,.int .i64 0,.int .i64 0]),23,232):=by kernel_rfl
theorem Zl1:prog.underlying 23=some (.slice 55):=by kernel_rfl
abbrev OpS:={o:Opn // o.nv.oneCell'=true}
def Zkr(l:List OpS):List Value:=Lx (l.map Subtype.val)
theorem Jm:∀ a b:List Opn,Lx (a++b)=Lx a++Lx b
 | [],_=>rfl
 | n::r,b=>by simp[Lx,Jm r b]
theorem Zm7(l:List OpS):∀ u∈Zkr l,u.oneCell'=true:=by
 induction l with
 | nil=>simp[Zkr,Lx]
 | cons o r ih =>
  intro u hu;obtain⟨o,ho⟩:=o;simp only[Zkr,Zg4,Lx,Zj]at hu;rcases hu with hu|hu
  ·simp only[opC,Zg,Zh,Zfi]at hu;rcases hu with rfl|rfl|rfl|rfl|rfl|rfl|rfl|rfl|rfl|rfl|rfl|rfl|rfl|rfl|rfl|rfl|rfl|rfl|rfl|rfl|rfl|rfl|rfl;all_goals first|rfl|exact ho
  exact ih u hu
noncomputable def opE:Enc OpS where
 ty:=55
 sl:=23
 z:=23
 bytes:=232
 cells l:=Zkr l
 app a b:=by simp[Zkr,Jm]
 len l:=by simp[Zkr,Mz]
 one l:=Zm7 l
 und:=Zl1
 i:=Classical.choose (Zgl Dr)
 zero:=.agg #[.int .i64 0,.int .i64 0,.int .i64 0,.slice none 0 0,.int .i64 0,.int .i64 0,.string ⟨#[]⟩,.int .i64 0,.int .i64 0,.string ⟨#[]⟩,.int .i64 0,.int .i64 0,.int .i64 0,.int .i64 0,.int .i64 0,.int .i64 0,.int .i64 0,.string ⟨#[]⟩,.int .i64 0,.int .i64 0,.string ⟨#[]⟩,.int .i64 0,.int .i64 0]
 info:=(Yo (Zgl Dr)).1
 hz:=(Yo (Zgl Dr)).2.1
 hs:=(Yo (Zgl Dr)).2.2.1
 hb:=(Yo (Zgl Dr)).2.2.2
 hc:=rfl
 pos:=by omega
theorem Nv:(prog.info? 147).map (fun i=>(i.zero,i.size,i.bytes))=some (some (.pointer none),1,8):=by kernel_rfl
theorem Zib:prog.underlying 144=some (.slice 147):=by kernel_rfl
def Zkp(b:Nat):Value:=.pointer (some ⟨b,0,none⟩)
noncomputable def Zlw:Enc Nat where
 ty:=147
 sl:=144
 z:=1
 bytes:=8
 cells l:=l.map Zkp
 app a b:=Yy
 len l:=by simp
 one l:=Fp _ (fun _=>rfl) l
 und:=Zib
 i:=Classical.choose (Zgl Nv)
 zero:=.pointer none
 info:=(Yo (Zgl Nv)).1
 hz:=(Yo (Zgl Nv)).2.1
 hs:=(Yo (Zgl Nv)).2.2.1
 hb:=(Yo (Zgl Nv)).2.2.2
 hc:=rfl
 pos:=by omega
theorem Zio{l:List Nat}{j:Nat}{x:Nat}(h:l[j]?=some x):(Zlw.cells l)[j]?=some (Zkp x):=by
 show(l.map Zkp)[j]?=_;rw[Zn,h];rfl
theorem Fs:(prog.info? 24).map (fun i=>(i.zero,i.size,i.bytes))=some (some (.slice none 0 0),1,24):=by kernel_rfl
theorem Zkk:prog.underlying 143=some (.slice 24):=by kernel_rfl
noncomputable def ssE:Enc Sl where
 ty:=24
 sl:=143
 z:=1
 bytes:=24
 cells l:=l.map Sl.v
 app a b:=Yy
 len l:=by simp
 one l:=Fp _ (fun _=>rfl) l
 und:=Zkk
 i:=Classical.choose (Zgl Fs)
 zero:=.slice none 0 0
 info:=(Yo (Zgl Fs)).1
 hz:=(Yo (Zgl Fs)).2.1
 hs:=(Yo (Zgl Fs)).2.2.1
 hb:=(Yo (Zgl Fs)).2.2.2
 hc:=rfl
 pos:=by omega
theorem Zzu{l:List Sl}{j:Nat}{x:Sl}(h:l[j]?=some x):(ssE.cells l)[j]?=some x.v:=by
 show(l.map Sl.v)[j]?=_;rw[Zn,h];rfl
structure Dk where
 xb:Nat
 x:Shr
 mv:Value
 ms:List (Nat×Wc)
 gb:Nat
 cb:Nat
 bx:List Sl
 bs_:List (List ByteArray)
 ov:Value
 ops:List OpS
 gl:Nat
 cl:Nat
 last:List Int
 t:Nat
 n:Nat
def Dk.bv(d:Dk):Value:=.slice (some ⟨d.gb,0,none⟩) d.bx.length d.cb
def Dk.lv(d:Dk):Value:=.slice (some ⟨d.gl,0,none⟩) d.last.length d.cl
def Zvb(d:Dk):List Value:=[.pointer (some ⟨d.xb,0,none⟩),d.mv,d.bv,d.ov,d.lv,.int .i64 d.t]
def Zz0(o:Opn):Prop:=0≤o.cl∧o.cl<64∧-1≤o.dec∧o.dec≤2000000∧KS o.ns∧0≤o.res.tick
structure Wu(w:World)(U:Nat→Prop)(T:Tbl)(b B:Nat)(d:Dk):Prop where
 cells:Xm w b (Zvb d)
 hU:∀ k,U k→B≤k∧k<w.heap.size
 ub:U b
 ux:U d.xb
 ugb:U d.gb
 ugl:U d.gl
 um:∀ p∈d.ms,U p.1
 uo:∀ k,d.ov.ownBlock=some k→U k
 dis:(b::d.xb::d.gb::d.gl::d.ms.map Prod.fst).Nodup
 dio:∀ k,d.ov.ownBlock=some k→k ∉ b::d.xb::d.gb::d.gl::d.ms.map Prod.fst
 tbl:Xg w (fun k=>¬ U k) T
 shr:Q1 w (fun k=>¬ U k) d.xb d.x
 xok:XOk d.n d.x
 ptr:RdE Zlw w (fun k=>¬ U k) d.mv (d.ms.map Prod.fst)
 mach:∀ p∈d.ms,Vy w (fun k=>¬ U k) T p.1 p.2∧MOk p.2
 box:Own ssE w B d.bv d.bx
 boxes:∀ (j:Nat) (s:Sl) (l:List ByteArray),d.bx[j]?=some s→d.bs_[j]?=some l→RdE Vm w (fun k=>¬ U k) s.v l∧l.length≤8
 lb:d.bx.length=d.ms.length
 lbs:d.bs_.length=d.ms.length
 ll:d.last.length=d.ms.length
 lm:d.ms.length≤64
 own:Own opE w B d.ov d.ops
 nms:∀ o∈d.ops,Wo w (fun k=>¬ U k) o.1.nv o.1.ns
 lo:d.ops.length≤4096
 n16:∀ o∈d.ops,o.1.ns.length≤16∧Zz0 o.1
 lown:Own Ww w B d.lv d.last
theorem Zm3{l:List Nat}(nd:l.Nodup){i j x:Nat}(h1:l[i]?=some x)(h2:l[j]?=some x):i=j:=by
 obtain⟨a1,e1⟩:=Zr.1 h1;obtain⟨a2,e2⟩:=Zr.1 h2;have:=Zfz.1 nd;rcases Zf1 i j with h|h|h
 ·exact absurd (e1.trans e2.symm) (this i j a1 a2 h)
 ·exact h
 exact absurd (e2.trans e1.symm) (this j i a2 a1 h)
theorem Wu.step{w w':World}{U:Nat→Prop}{T:Tbl}{b B k mb:Nat}{d:Dk}{m m':Wc}{x':Shr}(h:Wu w U T b B d)(hk:d.ms[k]?=some (mb,m))(c:Chg (fun j=>j=mb∨j=d.xb) w w')
 (hm:Vy w' (fun k=>¬ U k) T mb m') (hok:MOk m') (hx:Q1 w' (fun k=>¬ U k) d.xb x') (hxo:XOk (d.n+1) x') :
 Wu w' U T b B {d with x:=x',ms:=d.ms.set k (mb,m'),n:=d.n+1}:=by
 have hum:=h.um _ (Zy hk);have hux:=h.ux;have hS:∀ j,¬ U j→¬ (j=mb∨j=d.xb):=fun j hj=>by rintro(rfl|rfl);exact hj hum;exact hj hux
 have hfst:(d.ms.set k (mb,m')).map Prod.fst=d.ms.map Prod.fst:=by
  rw[Zey];have hkl:=(Zr.1 hk).1;apply Zdi;intro j;rw[Yv];split
  ·rename_i e;subst e;rw[Zgn (by simpa using hkl),Zn,hk];rfl
  rfl
 have hmem:∀ p∈d.ms.set k (mb,m'),(p∈d.ms∧p.1≠mb)∨p=(mb,m'):=fun p hp=>by
  obtain⟨j,hj⟩:=Zgd hp;rw[Yv]at hj;split at hj
  ·split at hj
   ·exact .inr (Zgm hj).symm
   simp at hj
  rename_i hne;refine .inl ⟨Zy hj,fun e=>?_⟩;have nd:(d.ms.map Prod.fst).Nodup:=(Zg6.1 (Zg6.1 (Zg6.1 (Zg6.1 h.dis).2).2).2).2;have h1:(d.ms.map Prod.fst)[k]?=some mb:=by rw[Zn,hk];rfl
  have h2:(d.ms.map Prod.fst)[j]?=some mb:=by rw[Zn,hj,← e];rfl
  exact hne (Zm3 nd h1 h2)
 have d0:=Zg6.1 h.dis;have d1:=Zg6.1 d0.2;have d2:=Zg6.1 d1.2;have d3:=Zg6.1 d2.2;have hmbm:mb∈d.ms.map Prod.fst:=Zgg.2 ⟨_,Zy hk,rfl⟩;have nb:¬ (b=mb∨b=d.xb):=by
  rintro(e|e)
  ·exact d0.1 (by rw[e];simp[hmbm])
  exact d0.1 (by rw[e];simp)
 have ngb:¬ (d.gb=mb∨d.gb=d.xb):=by
  rintro(e|e)
  ·exact d2.1 (by rw[e];simp[hmbm])
  exact d1.1 (by rw[e];simp)
 have ngl:¬ (d.gl=mb∨d.gl=d.xb):=by
  rintro(e|e)
  ·exact d3.1 (by rw[e];simp[hmbm])
  exact d1.1 (by rw[e];simp)
 have nx:∀ p∈d.ms,p.1≠d.xb:=fun p hp e=>d1.1 (by rw[← e];simp;exact .inr (.inr ⟨_,hp⟩))
 exact {
  cells:=h.cells.chg c nb
  hU:=fun j hj=>⟨(h.hU j hj).1,Zgp (h.hU j hj).2 c.size⟩
  ub:=h.ub,ux:=h.ux,ugb:=h.ugb,ugl:=h.ugl
  um:=fun p hp=>by rcases hmem p hp with⟨h1,_⟩|rfl;exact h.um p h1;exact hum
  uo:=h.uo
  dis:=by rw[hfst];exact h.dis
  dio:=by rw[hfst];exact h.dio
  tbl:=h.tbl.chg c hS
  shr:=hx
  xok:=hxo
  ptr:=by rw[hfst];exact Rd.chg h.ptr c hS
  mach:=fun p hp=>by
   rcases hmem p hp with⟨h1,h2⟩|rfl
   ·exact⟨(h.mach p h1).1.chg c (by rintro(e|e);exact h2 e;exact nx p h1 e) hS,(h.mach p h1).2⟩
   exact⟨hm,hok⟩
  box:=h.box.chg c (by intro j hj;simp only[Dk.bv,Value.ownBlock,Yc]at hj;subst hj;exact ngb)
  boxes:=fun j s l h1 h2=>⟨Rd.chg (h.boxes j s l h1 h2).1 c hS,(h.boxes j s l h1 h2).2⟩
  lb:=by simpa using h.lb
  lbs:=by simpa using h.lbs
  ll:=by simpa using h.ll
  lm:=by simpa using h.lm
  own:=h.own.chg c (by
   intro j hj;have:=h.dio j hj;rintro(e|e)
   ·exact this (by rw[e];simp[hmbm])
   exact this (by rw[e];simp))
  nms:=fun o ho=>Rd.chg (h.nms o ho) c hS
  lo:=h.lo
  n16:=h.n16
  lown:=h.lown.chg c (by intro j hj;simp only[Dk.lv,Value.ownBlock,Yc]at hj;subst hj;exact ngl)}
theorem Xe{S:Nat→Prop}{a:World}{b:Nat}(hb:S b∨a.heap.size≤b):∀ {vs:List Value} {o:Nat} {w:World},Chg S a w→Chg S a (w.setCells b o vs)
 | [],_,_,h=>h
 | v::r,o,w,h=>Xe hb (vs:=r) (h.setCell (p:=⟨b,o,none⟩) hb v)
theorem Zos{w:World}{S:Nat→Prop}{T:Tbl}(h:Xg w S T):∀ v∈Qk T,v.oneCell'=true:=by
 obtain⟨_,_,e0,_,_⟩:=h.cat.shape;obtain⟨_,_,e1,_,_⟩:=h.cls.shape;obtain⟨_,_,e2,_,_⟩:=h.joi.shape;obtain⟨_,_,e3,_,_⟩:=h.bid.shape;obtain⟨_,_,e4,_,_⟩:=h.scr.shape;obtain⟨_,_,e5,_,_⟩:=h.sta.shape;obtain⟨_,_,e6,_,_⟩:=h.ign.shape;obtain⟨_,_,e7,_,_⟩:=h.ext.shape;obtain⟨_,_,e8,_,_⟩:=h.map.shape;obtain⟨_,_,e9,_,_⟩:=h.dec.shape;obtain⟨_,_,e10,_,_⟩:=h.exc.shape;obtain⟨_,_,e11,_,_⟩:=h.pro.shape;intro v hv;simp only[Qk,Zg,Zh,Zfi]at hv;rcases hv with rfl|rfl|rfl|rfl|rfl|rfl|rfl|rfl|rfl|rfl|rfl|rfl
 ·rw[e0];rfl
 ·rw[e1];rfl
 ·rw[e2];rfl
 ·rw[e3];rfl
 ·rw[e4];rfl
 ·rw[e5];rfl
 ·rw[e6];rfl
 ·rw[e7];rfl
 ·rw[e8];rfl
 ·rw[e9];rfl
 ·rw[e10];rfl
 rw[e11];rfl
theorem Xm.there{w:World}{b o n:Nat}{cs:List Value}(h:Xm w b cs)(hn:o+n≤cs.length):w.there b o n:=fun j hj =>
 ⟨by rw[h.at_ (o+j) (by omega),Zz (by omega)];rfl,h.fz _⟩
theorem Xm.mid{w:World}{b o:Nat}{cs vs cs':List Value}(h:Xm w b cs)(ho:o+vs.length≤cs.length)(he:cs'=cs.take o++(vs++cs.drop (o+vs.length))):Xm (w.setCells b o vs) b cs':=by
 subst he;refine⟨Zgp h.lt (Xe (S:=fun _=>True) (.inl trivial) (Chg.refl _ w)).size,fun k=>by rw[World.frozen?_setCells];exact h.fz k,fun k hk=>?_⟩;have hl:(cs.take o).length=o:=by simp;omega
 by_cases h1:k<o
 ·rw[World.cell?_setCells_out b vs o w ⟨b,k,none⟩ (fun _ _=>.inl h1),h.at_ k (by omega),Ze (by omega),List.getElem?_take_of_lt h1]
 by_cases h2:k<o+vs.length
 ·have e:=World.cell?_setCells_in b vs o w (fun j hj=>((h.there ho) j hj).1) (k-o) (by omega);rw[show o+(k-o)=k by omega]at e;rw[e,Zd (by omega),hl,Ze (by omega),Zz (by omega)]
 rw[World.cell?_setCells_out b vs o w ⟨b,k,none⟩ (fun _ _=>.inr (by simp only;omega)),Zd (by omega),hl,Zd (by omega),Yx];rw[h.at_ k (by simp at hk;omega)];congr 1;omega
theorem Zpb{S R:Nat→Prop}(va vb:Value)(a b:List Int)(w:World)(ha:Xw w S va a)(hb:Xw w R vb b):Calls prog 26 #[va,vb] w fun e w'=>e=.returned (.bool (decide (a=b)))∧Ext w w':=by
 obtain⟨A,C,rfl,hlC,hC⟩:=ha.shape;obtain⟨A2,C2,rfl,hlC2,hC2⟩:=hb.shape;obtain⟨n,hn⟩:=gnX (a.length);obtain⟨m,hm⟩:=gnX (b.length);have HA:=Y8 ha;have HB:=Y8 hb;rw[hn]at hlC⊢;rw[hm]at hlC2⊢;have Hn:=Y8 hn;have Hm:=Y8 hm;unfold maxLen at hC hC2;clear ha hb hn hm;by_cases hnm:n=m
 ·subst hnm;go_enter func26,ntmps26;go_wp2_with fail;go_loopw [13] (fun o wr=>∃ i:Nat,i≤n∧o=.int .i64 (i:Int)∧a.take i=b.take i∧Ext w wr) (fun o _=>n-(intOf o).toNat);case atStart=>exact⟨0,by omega,rfl,by simp,Yk _⟩
  obtain⟨i,hi,rfl,htk,hx⟩:=hrel;have Htk:=Y8 htk;have Hx:=Y8 hx;clear htk hx;by_cases hlt:i<n
  ·obtain⟨hd_i,i0_i,i1_i⟩:=LTl i n;obtain⟨x,hs_x⟩:=geX (l:=(a)) (i:=i) (by have:=Hn.o;omega);obtain⟨g_x,o_x,c_x,hvv,_,_,_,hgl_x,a0_x⟩:=(HA.o.ext Hx.o).get hs_x;obtain⟨rfl,-,rfl⟩:=slcX hvv;clear hvv;have Hs_x:=Y8 hs_x;clear hs_x;obtain⟨y,hs_y⟩:=geX (l:=(b)) (i:=i) (by have:=Hm.o;omega);obtain⟨g_y,o_y,c_y,hvv,_,_,_,hgl_y,a0_y⟩:=(HB.o.ext Hx.o).get hs_y;obtain⟨rfl,-,rfl⟩:=slcX hvv;clear hvv;have Hs_y:=Y8 hs_y;clear hs_y;have m1:=lat a0_x;have m2:=lat a0_y;have e1:=Wq Hs_x.o;have e2:=Wq Hs_y.o;cases hxy:(x==y)
   ·have h1:(!(x==y))=true:=by rw[hxy];rfl
    have h2:(x !=y)=true:=h1;have h3:¬ x=y:=by simpa using hxy
    have Hno:=Y8 (show decide (a=b)=false by
     rw[Zg1];intro e;have h4:=Hs_x.o;rw[e,Hs_y.o]at h4;exact h3 (Zgm h4).symm)
    clear h3 e1 e2 a0_x a0_y;go_wp2_with fail;have hun:=Ya;refine wreX ?_;repeat(refine(Yu ?_:);intro K hK;go_simp;refine hK _ ?_;clear hK K)
    refine Yt ?_;intro w9 hy9;clear hun;try simp only[Yb]
    go_wp2_with fail;go_ret;exact⟨by rw[Hno.o];rfl,Hx.o.trans hy9⟩
   have h1:(!(x==y))=false:=by rw[hxy];rfl
   have h2:(x !=y)=false:=h1;have h3:x=y:=by simpa using hxy
   have Hyes:=Y8 (show a.take (i+1)=b.take (i+1) by rw[e1,e2,Htk.o,h3]);clear h3 e1 e2 a0_x a0_y;go_wp2_with fail;have hun:=Ya;refine wreX ?_;repeat(refine(Yu ?_:);intro K hK;go_simp;refine hK _ ?_;clear hK K)
   refine Yt ?_;intro w9 hy9;clear hun;try simp only[Yb]
   go_wp2_with fail;go_roundw;case rel=>exact⟨i+1,by omega,by go_num,Hyes.o,Hx.o.trans hy9⟩
   (simp[intOf];omega)
  have hd_i:=GEl i n;go_wp2_with fail;go_ret;refine⟨?_,Hx.o⟩;have h1:=Htk.o;rw[Zm (by rw[Hn.o];omega),Zm (by rw[Hm.o];omega)]at h1;simp[h1]
 have d1:(!((n:Int)==(m:Int)))=true:=by simp;omega
 have d2:((n:Int)!=(m:Int))=true:=d1;have d3:(!(n==m))=true:=by simp;omega
 have d4:(n !=m)=true:=d3;have d5:¬ (n:Int)=(m:Int):=by omega
 go_enter func26,ntmps26;go_wp2_with fail;go_ret;refine⟨?_,Yk _⟩;have:¬ a=b:=fun e=>hnm (by rw[← Hn.o,← Hm.o,e])
 simp[this]
section
structure Zo1 where
 ty:TypeId
 z:Nat
 n:Nat
 cs:List Value
def Enc.row{α:Type}(E:Enc α)(l:List α):Zo1:=⟨E.ty,E.z,l.length,E.cells l⟩
def Zi4(w:World)(B:Nat)(v:Value)(r:Zo1):Prop:=w.ownsRow B r.ty r.z v r.n r.cs
structure K3(w:World)(B:Nat)(vs:List Value)(rs:List Zo1):Prop where
 own:∀ (i:Nat) v r,vs[i]?=some v→rs[i]?=some r→Zi4 w B v r
 len:vs.length=rs.length
 dis:∀ (i j:Nat) u v q,i≠j→vs[i]?=some u→vs[j]?=some v→u.ownBlock=some q→v.ownBlock≠some q
section
variable {w w1 w':World} {B:Nat} {vs:List Value} {rs:List Zo1}
theorem Zi4.lt{v:Value}{r:Zo1}(h:Zi4 w B v r):∀ q,v.ownBlock=some q→B≤q∧q<w.heap.size:=fun q hq=>by
 rcases h.2 with⟨rfl,_⟩ | ⟨g,cap,cur,rfl,hb,hgg,_⟩
 ·simp[Value.ownBlock]at hq
 simp only[Value.ownBlock,Yc]at hq;subst hq;exact⟨hb,(Zgk.1 hgg).1⟩
theorem Zi4.chg{S:Nat→Prop}{v:Value}{r:Zo1}(h:Zi4 w B v r)(c:Chg S w w')(hS:∀ q,v.ownBlock=some q→¬ S q):Zi4 w' B v r:=by
 refine⟨h.1,?_⟩;rcases h.2 with hn | ⟨g,cap,cur,rfl,hb,hgg,rest⟩
 ·exact .inl hn
 refine .inr ⟨g,cap,cur,rfl,hb,?_,rest⟩;rw[c.block g (Zgk.1 hgg).1 (hS g rfl)];exact hgg
theorem K3.chg{S:Nat→Prop}(h:K3 w B vs rs)(c:Chg S w w')(hS:∀ q,B≤q→¬ S q):K3 w' B vs rs :=
 ⟨fun i v r h1 h2=>(h.own i v r h1 h2).chg c fun q hq=>hS q ((h.own i v r h1 h2).lt q hq).1,h.len,h.dis⟩
theorem K3.ext(h:K3 w B vs rs)(x:Ext w w'):K3 w' B vs rs:=h.chg (x.chg fun _=>False) fun _ _ e=>e
theorem K3.grow{α:Type}{E:Enc α}{i:Nat}{v:Value}{l:List α}{A:Option Addr}{n c:Nat}(h:K3 w B vs rs)(x:Ext w w1)(hv:vs[i]?=some v)(hg:Grew E w1 B v l A n c w'):K3 w' B (vs.set i (.slice A n c)) (rs.set i (E.row l)):=by
 have h1:=h.ext x;have hil:=(Zr.1 hv).1;have hlt:∀ (j:Nat) u q,vs[j]?=some u→u.ownBlock=some q→q<w1.heap.size:=fun j u q hu hq=>by
  obtain⟨r,hr⟩:=geX (l:=rs) (i:=j) (by rw[← h.len];exact(Zr.1 hu).1);exact((h1.own j u r hu hr).lt q hq).2
 have hat:∀ q,(Value.slice A n c).ownBlock=some q→v.ownBlock=some q∨q=w1.heap.size:=fun q hq=>by
  rcases hg.at_ with h2|h2
  ·exact .inl (by rw[← h2];exact hq)
  rw[hq]at h2;exact .inr (Zgm h2)
 refine⟨fun j u r hu hr=>?_,by rw[Zf,Zf];exact h.len,fun j k u y q hjk hu hy hq he=>?_⟩
 ·by_cases e:i=j
  ·subst e;rw[Zc hil]at hu;rw[Zc (by rw[← h.len];exact hil)]at hr;obtain rfl:=Zgm hu;obtain rfl:=Zgm hr;have ho:=hg.own;have hl:=hg.len;subst hl;exact ho
  rw[Zb e]at hu hr;exact(h1.own j u r hu hr).chg hg.chg fun q hq he=>h.dis i j v u q e hv hu he hq
 by_cases e:i=j
 ·subst e;rw[Zc hil]at hu;rw[Zb hjk]at hy;obtain rfl:=Zgm hu;rcases hat q hq with h2|h2
  ·exact h.dis i k v y q hjk hv hy h2 he
  have:=hlt k y q hy he;omega
 rw[Zb e]at hu;by_cases e2:i=k
 ·subst e2;rw[Zc hil]at hy;obtain rfl:=Zgm hy;rcases hat q he with h2|h2
  ·exact h.dis j i u v q hjk hu hv hq h2
  have:=hlt j u q hu hq;omega
 rw[Zb e2]at hy;exact h.dis j k u y q hjk hu hy hq he
theorem K3.get{α:Type}{E:Enc α}(h:K3 w B vs rs){i:Nat}{v:Value}{l:List α}(hv:vs[i]?=some v)(hr:rs[i]?=some (E.row l)):Own E w B v l:=h.own i v _ hv hr
end
theorem Zxs(w:World)(cs:Array Value)(t:TypeId)(z g:Nat)(hg:w.heap.size=g)(h:cs.size=z):Rd (w.alloc (.cells cs t)) (fun k=>g≤k) z (.slice (some ⟨g,0,none⟩) 1 1) 1 cs.toList:=by
 subst hg;refine⟨by simp[h],_,1,rfl,Ym _,by unfold maxLen;omega,fun _=>⟨w.heap.size,0,rfl,Ym _,by simp,fun j u hu=>?_⟩⟩;rw[Zg7];show(w.alloc (.cells cs t)).cell? ⟨w.heap.size,j,none⟩=some u;have h1:(w.alloc (.cells cs t)).heap[w.heap.size]?=some (.cells cs t):=Zg3 w _;simp only[World.cell?,h1];simpa using hu
theorem Mt(x:ByteArray)(t:TypeId)(w:World)(g:Nat)(hg:w.heap.size=g):RdE Vm (w.alloc (.cells #[.string x] t)) (fun k=>g≤k) (.slice (some ⟨g,0,none⟩) 1 1) [x]:=Zxs w _ t 1 g hg rfl
theorem Lc(x:Int)(t:TypeId)(w:World)(g:Nat)(hg:w.heap.size=g):RdE Ww (w.alloc (.cells #[.int .i64 x] t)) (fun k=>g≤k) (.slice (some ⟨g,0,none⟩) 1 1) [x]:=Zxs w _ t 1 g hg rfl
end
