/- Lemmas of this claim. Conditions: as named. -/
import Derived.Test.YtnbclgbicnpmnaaGreatA03
import Derived.Test.YtnbclgbicnpmnaaGreatA04
import Derived.Test.YtnbclgbicnpmnaaGreatA05
import Derived.Test.YtnbclgbicnpmnaaGreatA09
import Derived.Test.YtnbclgbicnpmnaaGreatA13
import Derived.Test.YtnbclgbicnpmnaaGreatA14
import Derived.Test.YtnbclgbicnpmnaaGreatA15
namespace Go.Proofs.YtnbclgbicnpmnaaGreat
open Go.RowKit Go.Sort
set_option maxHeartbeats 0
set_option maxRecDepth 100000
set_option linter.all false
theorem Zud:(Tryz.prog.info? 161).map (fun i=>(i.zero,i.size,i.bytes))=some (some (.agg #[.string ⟨#[]⟩,.int .i64 0,.int .i64 0,.string ⟨#[]⟩,.int .i64 0]),5,56):=by kernel_rfl
theorem Mc:Tryz.prog.underlying 131=some (.slice 161):=by kernel_rfl
theorem Zwh{key:ByteArray}{r:Rc}{d:Bool}{p:Kp}{l:List Kp}(h:p.1=key):Vz key r d (p::l)=Vz key r d l:=by rw[Vz,Zlg h]
theorem Zq6{key:ByteArray}{r:Rc}{p:Kp}{l:List Kp}(h:p.1≠key)(hl:kb key<kb p.1):Vz key r false (p::l)=(key,r)::p::Vz key r true l:=by rw[Vz,Zlk h,Zlg ⟨rfl,hl⟩]
theorem Zwi{key:ByteArray}{r:Rc}{d:Bool}{p:Kp}{l:List Kp}(h:p.1≠key)(hl:¬ (d=false∧kb key<kb p.1)):Vz key r d (p::l)=p::Vz key r d l:=by rw[Vz,Zlk h,Zlk hl]
theorem Kc(l:List Kp)(p:Kp):Wi (l++[p])=Wi l++Lp p:=by rw[Uj];simp[Wi]
theorem Ztd{w:World}{base base':Nat}{e:TypeId}{size:Nat}{v:Value}{n:Nat}{xs:List Value}(h:w.ownsRow base e size v n xs)(hb:base'≤base):w.ownsRow base' e size v n xs:=by
 refine⟨h.1,?_⟩;rcases h.2 with h2 | ⟨g,cap,cur,h1,h2,h3⟩
 ·exact .inl h2
 exact .inr ⟨g,cap,cur,h1,Zlh hb h2,h3⟩
def Zvg(l:List Kp)(w:World)(e:Ending)(w':World):Prop:=∃ v,e=.returned v∧w'.ownsRow w.heap.size 161 5 v l.length (Wi l)∧Ext w w'
theorem Ua{S:Nat→Prop}(v:Value)(l:List Kp)(key:ByteArray)(r:Rc)(w:World)(hl:KeptAt w S v l)(hll:l.length≤100000) :
 Calls Tryz.prog 73 #[v,.string key,rcV r] w (Zvg (Ki l key r) w):=by
 obtain⟨A,c,rfl⟩:=hl.shape;obtain⟨i0,hi,hz0,hz1,hz2⟩:=Zlf Zud;obtain⟨st,ow,nm,dl⟩:=r;unfold rcV;have Hl:=Ya hl;clear hl;go_enter Tryz.func73,Tryz.ntmps73;go_wp2_with fail;have Hx0:=Ya ((Yn w).alloc (.cells #[.int .i64 st,.int .i64 ow,.string nm,.int .i64 dl] 51));have q0:(w.alloc (.cells #[.int .i64 st,.int .i64 ow,.string nm,.int .i64 dl] 51)).cell? ⟨w.heap.size,0,none⟩=some (.int .i64 st):=by go_simp
 have q1:(w.alloc (.cells #[.int .i64 st,.int .i64 ow,.string nm,.int .i64 dl] 51)).cell? ⟨w.heap.size,1,none⟩=some (.int .i64 ow):=by go_simp
 have q2:(w.alloc (.cells #[.int .i64 st,.int .i64 ow,.string nm,.int .i64 dl] 51)).cell? ⟨w.heap.size,2,none⟩=some (.string nm):=by go_simp
 have q3:(w.alloc (.cells #[.int .i64 st,.int .i64 ow,.string nm,.int .i64 dl] 51)).cell? ⟨w.heap.size,3,none⟩=some (.int .i64 dl):=by go_simp
 have ql:w.heap.size<(w.alloc (.cells #[.int .i64 st,.int .i64 ow,.string nm,.int .i64 dl] 51)).heap.size:=by simp
 obtain⟨W0,hW0⟩:=gnX (w.alloc (.cells #[.int .i64 st,.int .i64 ow,.string nm,.int .i64 dl] 51));rw[hW0]at Hx0 q0 q1 q2 q3 ql;rw[hW0];have hlow:w.heap.size≤W0.heap.size:=by omega
 clear hW0;go_loopw [16,8,7] (fun o d v wr=>∃ (k:Nat) (db:Bool) (out:List Kp),k≤l.length∧o=.int .i64 (k:Int)∧d=.bool db∧wr.ownsRow W0.heap.size 161 5 v out.length (Wi out)∧out++Vz key ⟨st,ow,nm,dl⟩ db (l.drop k)=Ki l key ⟨st,ow,nm,dl⟩∧out.length≤2*k∧Ext W0 wr) (fun o _ _ _=>l.length-(intOf o).toNat);case atStart=>exact⟨0,st==0,[],by omega,rfl,rfl,Zkb _ _ _ _,rfl,by simp,Yn _⟩
 obtain⟨k,db,out,hk,rfl,rfl,hown,hinv,hol,hx⟩:=hrel;obtain⟨la,lc,rfl⟩:=Wz hown;have Hx:=Ya hx;have Hown:=Ya hown;replace q0:=(hx.cell (p:=⟨w.heap.size,0,none⟩) ql).trans q0;replace q1:=(hx.cell (p:=⟨w.heap.size,1,none⟩) ql).trans q1;replace q2:=(hx.cell (p:=⟨w.heap.size,2,none⟩) ql).trans q2;replace q3:=(hx.cell (p:=⟨w.heap.size,3,none⟩) ql).trans q3;replace ql:=Zll ql hx.size;clear hx hown;by_cases hlt:k<l.length
 ·have hd:decide ((k:Int)<(l.length:Int))=true:=by simpa using hlt
  obtain⟨p,hpk⟩:∃ p,l[k]?=some p:=⟨l[k],by simp[hlt]⟩;obtain⟨g,o,c',hv,p1,p2,_,b1,x0,x1,x2,x3,x4⟩:=KeptAt.get (Rd.ext Hl.o (Hx0.o.trans Hx.o)) hpk;simp only[Yg,Zl2]at hv;obtain⟨rfl,rfl⟩:=hv;have j0:(0:Int)≤(k:Int):=by omega
  have j1:(k:Int)<(l.length:Int):=by omega
  rw[Gr hpk]at hinv;have Hinv:=Ya hinv;clear hpk hinv;by_cases he:p.1=key
  ·have hinv:=Hinv.o;rw[Zwh he]at hinv;subst he;replace Hinv:=Ya hinv;clear hinv q0 q1 q2 q3;go_wp2_with fail;go_roundw;case rel=>exact⟨k+1,db,out,by omega,by go_num,rfl,(Ka Hown.o ((Yn _).alloc _)),Hinv.o,by omega,Hx.o.alloc _⟩
   simp[intOf];omega
  have hne:(p.1.toList==key.toList)=false:=by rw[Zkv,Zkv];simp only[beq_eq_false_iff_ne];exact fun e=>he (Ov e)
  have He:=Ya he;clear he;go_upto_region 7 with fail;have z0:(wr.alloc (.cells #[.string p.1,.int .i64 p.2.st,.int .i64 p.2.ow,.string p.2.nm,.int .i64 p.2.dl] 161)).cell? ⟨wr.heap.size,0,none⟩=some (.string p.1):=by go_simp
  have z1:(wr.alloc (.cells #[.string p.1,.int .i64 p.2.st,.int .i64 p.2.ow,.string p.2.nm,.int .i64 p.2.dl] 161)).cell? ⟨wr.heap.size,1,none⟩=some (.int .i64 p.2.st):=by go_simp
  have z2:(wr.alloc (.cells #[.string p.1,.int .i64 p.2.st,.int .i64 p.2.ow,.string p.2.nm,.int .i64 p.2.dl] 161)).cell? ⟨wr.heap.size,2,none⟩=some (.int .i64 p.2.ow):=by go_simp
  have z3:(wr.alloc (.cells #[.string p.1,.int .i64 p.2.st,.int .i64 p.2.ow,.string p.2.nm,.int .i64 p.2.dl] 161)).cell? ⟨wr.heap.size,3,none⟩=some (.string p.2.nm):=by go_simp
  have z4:(wr.alloc (.cells #[.string p.1,.int .i64 p.2.st,.int .i64 p.2.ow,.string p.2.nm,.int .i64 p.2.dl] 161)).cell? ⟨wr.heap.size,4,none⟩=some (.int .i64 p.2.dl):=by go_simp
  have hxW:Ext wr (wr.alloc (.cells #[.string p.1,.int .i64 p.2.st,.int .i64 p.2.ow,.string p.2.nm,.int .i64 p.2.dl] 161)):=(Yn wr).alloc _;have zl:wr.heap.size<(wr.alloc (.cells #[.string p.1,.int .i64 p.2.st,.int .i64 p.2.ow,.string p.2.nm,.int .i64 p.2.dl] 161)).heap.size:=by simp
  obtain⟨bb,hbb⟩:=gnX (wr.heap.size);obtain⟨W1,hW1⟩:=gnX (wr.alloc (.cells #[.string p.1,.int .i64 p.2.st,.int .i64 p.2.ow,.string p.2.nm,.int .i64 p.2.dl] 161));rw[hW1]at z0 z1 z2 z3 z4 hxW zl;rw[hW1];rw[hbb]at z0 z1 z2 z3 z4 zl;rw[hbb];replace q0:=(hxW.cell (p:=⟨w.heap.size,0,none⟩) ql).trans q0;replace q1:=(hxW.cell (p:=⟨w.heap.size,1,none⟩) ql).trans q1;replace q2:=(hxW.cell (p:=⟨w.heap.size,2,none⟩) ql).trans q2;replace q3:=(hxW.cell (p:=⟨w.heap.size,3,none⟩) ql).trans q3;have Hown1:=Ya (Ka Hown.o hxW);have Hx1:=Ya (Hx.o.trans hxW);have hw1:W0.heap.size≤W1.heap.size:=by have:=(Hx.o.trans hxW).size;exact this
  have hnb:¬ (Value.slice la out.length lc).ownBlock=some bb:=fun e=>by have:=(Hown.o.lt bb e).2;omega
  clear hW1 hbb hxW x0 x1 x2 x3 x4 Hx Hown b1;go_cut [31] from 17 to 42 (fun x wx=>(∃ bo:Bool,x=.bool bo∧(bo=true↔db=false∧kb key<kb p.1))∧wx=W1)
  case first =>
   clear q0 q1 q2 q3 z1 z2 z3 z4;cases db with
   | true =>
    go_wp2_with fail;go_meet;exact⟨⟨_,rfl,by simp⟩,rfl⟩
   | false =>
    by_cases hin:kb key<kb p.1
    ·obtain⟨g1,_⟩:=Pb (x:=p.1) (s:=key) hin;go_wp2_with fail;go_meet;exact⟨⟨_,rfl,by simpa using hin⟩,rfl⟩
    have g1:Op.bytesLess p.1.toList key.toList=true:=by
     have:=Fr (x:=p.1) (s:=key) hin;rw[hne,Bool.or_false]at this;exact this
    go_wp2_with fail;go_meet;exact⟨⟨_,rfl,by simpa using hin⟩,rfl⟩
  case rest =>
  obtain⟨⟨bo,rfl,hbo⟩,rfl⟩:=hcut;have Hbo:=Ya hbo;clear hbo;go_upto_if 31 with fail;go_cut [8,7] from 17 to 42 (fun d v wx=>∃ (db2:Bool) (out2:List Kp),d=.bool db2∧wx.ownsRow W0.heap.size 161 5 v out2.length (Wi out2)∧out2++p::Vz key ⟨st,ow,nm,dl⟩ db2 (l.drop (k+1))=Ki l key ⟨st,ow,nm,dl⟩∧out2.length≤2*k+1∧Chg (fun i=>(Value.slice la out.length lc).ownBlock=some i) wc wx∧Ext W0 wx)
  case first =>
   cases bo with
   | true =>
    obtain⟨hdb,hin⟩:=Hbo.o.1 rfl;have hinv:=Hinv.o;rw[hdb,Zq6 He.o hin]at hinv;have hrl:=V0 wc #[.string key,.int .i64 st,.int .i64 ow,.string nm,.int .i64 dl] 161 5 (by rfl);have hbz:W0.heap.size≤(wc.alloc (.cells #[.string key,.int .i64 st,.int .i64 ow,.string nm,.int .i64 dl] 161)).heap.size:=by simp;omega
    replace Hinv:=Ya hinv;clear hinv hin hdb z0 z1 z2 z3 z4;go_wp2_with (at_builtin;refine Vd _ rfl _ _ 131 rfl W0.heap.size 161 i0 _ 5 56 Mc hi hz0 hz1 hz2 rfl (by decide) _ out.length _ rfl (Hown1.o.alloc _) (fun _=>True) _ 1 _ rfl hrl (by simp[Value.oneCell']) (by unfold maxLen;omega) (by omega) hbz ?_;intro v' w6 ha;obtain⟨a3,c3',hv3⟩:=Wz ha.own;subst hv3);go_meet;refine⟨true,out++[(key,⟨st,ow,nm,dl⟩)],rfl,?_,by rw[← Hinv.o];simp,by simp;omega,((Chg.refl _ wc).alloc _).grown ha.grown fun k hk=>.inl hk,(Hx1.o.alloc _).grown ha.grown fun k hk=>(Hown1.o.lt k hk).1⟩;rw[Kc,Zs];exact ha.own
   | false =>
    have hinv:=Hinv.o;rw[Zwi He.o fun h=>by have:=Hbo.o.2 h;simp at this]at hinv;replace Hinv:=Ya hinv;clear hinv z0 z1 z2 z3 z4;go_wp2_with fail;go_meet;exact⟨db,out,rfl,Hown1.o,Hinv.o,by omega,Chg.refl _ _,Hx1.o⟩
  case rest =>
  obtain⟨db2,out2,rfl,hown2,hinv2,hol2,hc2,hx2⟩:=hcut;obtain⟨la2,lc2,rfl⟩:=Wz hown2;replace z0:=(hc2.cell (p:=⟨bb,0,none⟩) zl hnb).trans z0;replace z1:=(hc2.cell (p:=⟨bb,1,none⟩) zl hnb).trans z1;replace z2:=(hc2.cell (p:=⟨bb,2,none⟩) zl hnb).trans z2;replace z3:=(hc2.cell (p:=⟨bb,3,none⟩) zl hnb).trans z3;replace z4:=(hc2.cell (p:=⟨bb,4,none⟩) zl hnb).trans z4;have hrl:=V0 wc #[.string p.1,.int .i64 p.2.st,.int .i64 p.2.ow,.string p.2.nm,.int .i64 p.2.dl] 161 5 (by rfl);have hbz:W0.heap.size≤(wc.alloc (.cells #[.string p.1,.int .i64 p.2.st,.int .i64 p.2.ow,.string p.2.nm,.int .i64 p.2.dl] 161)).heap.size:=by have:=hx2.size;simp;omega
  have Hx2:=Ya hx2;have Hown2:=Ya hown2;have Hinv2:=Ya hinv2;clear hx2 hc2 hown2 hinv2 q0 q1 q2 q3 Hinv Hown1 Hx1;go_wp2_with (at_builtin;refine Vd _ rfl _ _ 131 rfl W0.heap.size 161 i0 _ 5 56 Mc hi hz0 hz1 hz2 rfl (by decide) _ out2.length _ rfl (Hown2.o.alloc _) (fun _=>True) _ 1 _ rfl hrl (by simp[Value.oneCell']) (by unfold maxLen;omega) (by omega) hbz ?_;intro v' w6 ha;obtain⟨a3,c3',hv3⟩:=Wz ha.own;subst hv3);have hend:w6.ownsRow W0.heap.size 161 5 (.slice a3 (out2.length+1) c3') (out2++[p]).length (Wi (out2++[p])):=by
   rw[Kc,Zs];exact ha.own
  have hx6:=(Hx2.o.alloc (.cells #[.string p.1,.int .i64 p.2.st,.int .i64 p.2.ow,.string p.2.nm,.int .i64 p.2.dl] 161)).grown ha.grown fun k hk=>(Hown2.o.lt k hk).1
  have Hend:=Ya hend;have Hx6:=Ya hx6;clear ha hend hx6 hrl hbz;go_roundw;case rel=>exact⟨k+1,db2,out2++[p],by omega,by go_num,rfl,Hend.o,by rw[← Hinv2.o];simp,by simp;omega,Hx6.o⟩
  simp[intOf];omega
 have hd:decide ((k:Int)<(l.length:Int))=false:=by simp;omega
 rw[Zk4 (by omega)]at hinv;cases db with
 | true =>
  have hout:out=Ki l key ⟨st,ow,nm,dl⟩:=by rw[← hinv];simp[Vz]
  subst hout;clear q0 q1 q2 q3 hinv;go_wp2_with fail;go_ret;exact⟨_,rfl,Ztd Hown.o hlow,Hx0.o.trans Hx.o⟩
 | false =>
  have hinv2:out++[(key,(⟨st,ow,nm,dl⟩:Rc))]=Ki l key ⟨st,ow,nm,dl⟩:=by rw[← hinv];simp[Vz]
  have hrl:=V0 wr #[.string key,.int .i64 st,.int .i64 ow,.string nm,.int .i64 dl] 161 5 (by rfl);have hbz:W0.heap.size≤(wr.alloc (.cells #[.string key,.int .i64 st,.int .i64 ow,.string nm,.int .i64 dl] 161)).heap.size:=by have:=Hx.o.size;simp;omega
  clear hinv;go_wp2_with (at_builtin;refine Vd _ rfl _ _ 131 rfl W0.heap.size 161 i0 _ 5 56 Mc hi hz0 hz1 hz2 rfl (by decide) _ out.length _ rfl (Hown.o.alloc _) (fun _=>True) _ 1 _ rfl hrl (by simp[Value.oneCell']) (by unfold maxLen;omega) (by omega) hbz ?_;intro v' w6 ha;obtain⟨a3,c3',hv3⟩:=Wz ha.own;subst hv3);go_ret;refine⟨_,rfl,?_,?_⟩
  ·rw[← hinv2,Kc,Zs];exact Ztd ha.own hlow
  exact Hx0.o.trans ((Hx.o.alloc _).grown ha.grown fun k hk=>(Hown.o.lt k hk).1)
section
theorem Zt6{α:Type}(E:Enc α)(hz:E.z=1)(l:List α){i:Nat}(hi:i<l.length)(x:α)(u:Value)(hu:E.cells [x]=[u]):E.cells (l.set i x)=(E.cells l).set i u:=by
 have e0:l=l.take i++([l[i]]++l.drop (i+1)):=by simp
 have e1:l.set i x=l.take i++([x]++l.drop (i+1)):=by
  rw[Ziv,Zlg hi];rfl
 have el:(E.cells (l.take i)).length=i:=by rw[E.len,hz,Zp];omega
 have ey:(E.cells [l[i]]).length=1:=by rw[E.len,hz];rfl
 obtain⟨y,hy⟩:∃ y,E.cells [l[i]]=[y]:=List.length_eq_one_iff.1 ey;have e2:E.cells l=E.cells (l.take i)++([y]++E.cells (l.drop (i+1))):=by
  rw[← hy,← E.app,← E.app,← e0]
 rw[e1,E.app,E.app,hu,e2,Zid,Zlk (by omega),el];simp
section
variable {α:Type} {E:Enc α} {w:World} {B g n c:Nat} {l:List α}
theorem Own.put(h:Own E w B (.slice (some ⟨g,0,none⟩) n c) l)(hz:E.z=1){i:Nat}(hi:i<l.length)(x:α){u:Value}(hu:E.cells [x]=[u]) :
 Own E (w.setCell ⟨g,i,none⟩ u) B (.slice (some ⟨g,0,none⟩) n c) (l.set i x):=by
 obtain⟨h1,h2⟩:=h;refine⟨by rw[E.len],?_⟩;rcases h2 with⟨h2,_⟩ | ⟨g',cap,cur,he,hb,hg,hn,hm,hs,ht⟩
 ·simp at h2
 simp only[Yg,Yf,Zld,Zl2,Zks]at he;obtain⟨rfl,he2,rfl⟩:=he;refine .inr ⟨g,c,cur.setIfInBounds i u,?_,hb,?_,?_,hm,by simpa using hs,?_⟩
 ·rw[Zf,← he2]
 ·simp[World.setCell,Zjv,hg]
 ·rw[Zf];exact hn
 rw[Zt6 E hz l hi x u hu,← ht,Zf];simp[List.take_set]
theorem Own.some_{v:Value}(h:Own E w B v l)(hl:0<l.length):∃ g c,v=.slice (some ⟨g,0,none⟩) l.length c∧B≤g∧g<w.heap.size∧l.length≤c∧c≤maxLen:=by
 obtain⟨h1,h2⟩:=h;rcases h2 with⟨_,h2⟩ | ⟨g',cap,cur,he,hb,hg,hn,hm,hs,ht⟩
 ·omega
 exact⟨g',cap,he,hb,(Zlj.1 hg).1,hn,hm⟩
theorem Own.at_(h:Own E w B (.slice (some ⟨g,0,none⟩) n c) l){j:Nat}{u:Value}(hu:(E.cells l)[j]?=some u):w.cell? ⟨g,j,none⟩=some u:=by
 have:=h.cells (g:=g) rfl j u hu;rw[Pw]at this;exact this
theorem Own.blk(h:Own E w B (.slice (some ⟨g,0,none⟩) n c) l):B≤g∧g<w.heap.size:=h.lt g rfl
theorem Own.thaw(h:Own E w B (.slice (some ⟨g,0,none⟩) n c) l)(j:Nat):w.frozen? ⟨g,j,none⟩=false:=by
 rcases h.2 with⟨h2,_⟩ | ⟨g',cap,cur,he,hb,hg,hn,hm,hs,ht⟩
 ·simp at h2
 simp only[Yg,Yf,Zld,Zl2,Zks]at he;obtain⟨rfl,he2,rfl⟩:=he;simp[World.frozen?,hg]
theorem Zze{w:World}{p q:Addr}(u:Value)(h:q.block≠p.block):(w.setCell p u).cell? q=w.cell? q:=Zk1 (Ziw w p u q.block h)
end
theorem RdE.take{α:Type}{E:Enc α}{w:World}{S:Nat→Prop}{A:Option Addr}{n c:Nat}{l:List α}(h:RdE E w S (.slice A n c) l)(hz:E.z=1){i:Nat}(hi:i≤l.length):RdE E w S (.slice A i c) (l.take i):=by
 have ecl:E.cells (l.take i)=(E.cells l).take i:=by
  have e:E.cells l=E.cells (l.take i)++E.cells (l.drop i):=by rw[← E.app,Zjr]
  have el:(E.cells (l.take i)).length=i:=by rw[E.len,hz,Zp];omega
  conv=>rhs;rw[e]
  exact(List.take_left' el).symm
 have hl:(l.take i).length=i:=by rw[Zp];omega
 unfold RdE at h⊢;rw[ecl,hl];obtain⟨h1,A',c',hv,h2,h3,h4⟩:=h;cases hv
 rw[hz]at h1;refine⟨by rw[Zp,h1,hz];omega,A,c,rfl,by omega,h3,fun h0=>?_⟩;obtain⟨g,o,e,hS,hg,hc⟩:=h4 (by omega);refine⟨g,o,e,hS,hg,fun j u hu=>hc j u ?_⟩;rw[Yy]at hu;split at hu
 ·exact hu
 simp at hu
theorem RdE.drop{α:Type}{E:Enc α}{w:World}{S:Nat→Prop}{g o n c:Nat}{l:List α}(h:RdE E w S (.slice (some ⟨g,o,none⟩) n c) l)(hz:E.z=1){i m:Nat}(hi:i≤l.length)(hm:m=l.length-i){A2:Option Addr}{c2:Nat}(hA:0<m→A2=some ⟨g,o+i,none⟩)(hc1:m≤c2)(hc2:c2≤maxLen):RdE E w S (.slice A2 m c2) (l.drop i):=by
 have ecl:E.cells (l.drop i)=(E.cells l).drop i:=by
  have e:E.cells l=E.cells (l.take i)++E.cells (l.drop i):=by rw[← E.app,Zjr]
  have el:(E.cells (l.take i)).length=i:=by rw[E.len,hz,Zp];omega
  conv=>rhs;rw[e]
  exact(List.drop_left' el).symm
 have hl:(l.drop i).length=m:=by rw[Z8,hm]
 unfold RdE at h⊢;rw[ecl,hl];obtain⟨h1,A',c',hv,h2,h3,h4⟩:=h;cases hv
 rw[hz]at h1;refine⟨by rw[Z8,h1,hm,Zhw,hz,Zhw],A2,c2,rfl,hc1,hc2,fun h0=>?_⟩;obtain rfl:=hA h0;have h00:0<l.length:=by omega
 obtain⟨g',o',e,hS,hg,hc⟩:=h4 h00;cases e
 refine⟨g,o+i,rfl,hS,hg,fun j u hu=>?_⟩;rw[Yz]at hu;have:=hc (i+j) u hu
 rwa [← Zkf]at this
theorem ints_at{l:List Int}{j:Nat}{x:Int}(h:l[j]?=some x):(Wh.cells l)[j]?=some (.int .i64 x):=by
 show(l.map (Value.int .i64))[j]?=_;rw[Zn,h];rfl
end
theorem Jk:(Tryz.prog.info? 4).map (fun i=>(i.zero,i.size,i.bytes))=some (some (.bool false),1,1):=by kernel_rfl
theorem Iv:Tryz.prog.underlying 117=some (.slice 4):=by kernel_rfl
noncomputable def Ps:Enc Bool where
 ty:=4
 sl:=117
 z:=1
 bytes:=1
 cells l:=l.map Value.bool
 app a b:=Z9
 len l:=by simp
 one l:=Bs _ (fun _=>rfl) l
 und:=Iv
 i:=Classical.choose (Zlf Jk)
 zero:=.bool false
 info:=(Yq (Zlf Jk)).1
 hz:=(Yq (Zlf Jk)).2.1
 hs:=(Yq (Zlf Jk)).2.2.1
 hb:=(Yq (Zlf Jk)).2.2.2
 hc:=rfl
 pos:=by omega
theorem Fv{l:List Bool}{j:Nat}{x:Bool}(h:l[j]?=some x):(Ps.cells l)[j]?=some (.bool x):=by
 show(l.map Value.bool)[j]?=_;rw[Zn,h];rfl
structure Sl where
 a:Option Addr
 n:Nat
 c:Nat
def Sl.v(s:Sl):Value:=.slice s.a s.n s.c
theorem Um:(Tryz.prog.info? 22).map (fun i=>(i.zero,i.size,i.bytes))=some (some (.slice none 0 0),1,24):=by kernel_rfl
theorem Zs1:Tryz.prog.underlying 268=some (.slice 22):=by kernel_rfl
noncomputable def Zmo:Enc Sl where
 ty:=22
 sl:=268
 z:=1
 bytes:=24
 cells l:=l.map Sl.v
 app a b:=Z9
 len l:=by simp
 one l:=Bs _ (fun _=>rfl) l
 und:=Zs1
 i:=Classical.choose (Zlf Um)
 zero:=.slice none 0 0
 info:=(Yq (Zlf Um)).1
 hz:=(Yq (Zlf Um)).2.1
 hs:=(Yq (Zlf Um)).2.2.1
 hb:=(Yq (Zlf Um)).2.2.2
 hc:=rfl
 pos:=by omega
theorem Ah{l:List Sl}{j:Nat}{x:Sl}(h:l[j]?=some x):(Zmo.cells l)[j]?=some x.v:=by
 show(l.map Sl.v)[j]?=_;rw[Zn,h];rfl
def Kh(w:World)(S:Nat→Prop)(vs:List Sl)(ls:List (List Int)):Prop:=vs.length=ls.length∧∀ (j:Nat) (s:Sl) (x:List Int),vs[j]?=some s→ls[j]?=some x→Xz w S s.v x
theorem Kh.ext{w w':World}{S:Nat→Prop}{vs:List Sl}{ls:List (List Int)}(h:Kh w S vs ls)(x:Ext w w'):Kh w' S vs ls:=⟨h.1,fun j s y h1 h2=>(h.2 j s y h1 h2).ext x⟩
theorem Kh.chg{w w':World}{S T:Nat→Prop}{vs:List Sl}{ls:List (List Int)}(h:Kh w S vs ls)(c:Chg T w w')(hd:∀ k,S k→¬ T k):Kh w' S vs ls:=⟨h.1,fun j s y h1 h2=>(h.2 j s y h1 h2).chg c hd⟩
theorem Kh.mono{w:World}{S T:Nat→Prop}{vs:List Sl}{ls:List (List Int)}(h:Kh w S vs ls)(hd:∀ k,S k→k<w.heap.size→T k):Kh w T vs ls:=⟨h.1,fun j s y h1 h2=>Rd.mono (h.2 j s y h1 h2) hd⟩
def Zxn(w:World)(v:Value)(ls:List (List Int)):Prop:=∃ vs:List Sl,RdE Zmo w (fun _=>True) v vs∧Kh w (fun _=>True) vs ls
theorem Zxn.ext{w w':World}{v:Value}{ls:List (List Int)}(h:Zxn w v ls)(x:Ext w w'):Zxn w' v ls:=by
 obtain⟨vs,h1,h2⟩:=h;exact⟨vs,h1.ext x,h2.ext x⟩
theorem Zxn.shape{w:World}{v:Value}{ls:List (List Int)}(h:Zxn w v ls):∃ A c,v=.slice A ls.length c∧ls.length≤c∧c≤maxLen:=by
 obtain⟨vs,h1,h2,_⟩:=h;obtain⟨A,c,e,h3,h4⟩:=h1.shape;rw[h2]at e h3;exact⟨A,c,e,h3,h4⟩
theorem Zxn.get{w:World}{v:Value}{ls:List (List Int)}(h:Zxn w v ls){j:Nat}{x:List Int}(hj:ls[j]?=some x) :
 ∃ g o c u,v=.slice (some ⟨g,o,none⟩) ls.length c∧ls.length≤c∧c≤maxLen∧g<w.heap.size∧w.cell? ⟨g,o+j,none⟩=some u∧Xz w (fun _=>True) u x:=by
 obtain⟨vs,h1,h2,h3⟩:=h;have hjl:=(Zr.1 hj).1;obtain⟨g,o,c,e,k1,k2,k3,k4,k5⟩:=Rd.at_ h1 (show j<vs.length by omega);have hs:vs[j]?=some vs[j]:=Zz (by omega);rw[h2]at e k1;exact⟨g,o,c,_,e,k1,k2,k4,k5 j _ (Ah hs),h3 j _ _ hs hj⟩
def Nw(w:World)(B:Nat)(v:Value)(vs:List Sl)(ls:List (List Int)):Prop:=Own Zmo w B v vs∧Kh w (fun k=>v.ownBlock≠some k) vs ls
theorem Nw.ext{w w':World}{B:Nat}{v:Value}{vs:List Sl}{ls:List (List Int)}(h:Nw w B v vs ls)(x:Ext w w'):Nw w' B v vs ls:=⟨h.1.ext x,h.2.ext x⟩
theorem Nw.at_{w:World}{B:Nat}{v:Value}{vs:List Sl}{ls:List (List Int)}(h:Nw w B v vs ls):Zxn w v ls:=⟨vs,Rd.mono h.1.rd fun _ _ _=>trivial,h.2.mono fun _ _ _=>trivial⟩
section
def KS(l:List Nm):Prop:=∀ n∈l,n.k.size≤16384
theorem KS.nil:KS []:=fun _ h=>by cases h
theorem KS.snoc{l:List Nm}{n:Nm}(h:KS l)(hn:n.k.size≤16384):KS (l++[n]):=fun x hx=>by
 rcases Zj.1 hx with h1|h1
 ·exact h x h1
 rw[Zi.1 h1];exact hn
def Behind(o:Option (List UInt8))(n:Nm):Bool:=match o with|none=>true|some x=>decide (x<kb n.k)
def Ge(L:List Nm)(o:Option (List UInt8)):Nat:=L.countP (fun n=>!Behind o n)
theorem I3(L:List Nm):Ge L none=0:=by unfold Ge Behind;simp
theorem behind_next{o:Option (List UInt8)}{m n:Nm}(hm:Behind o m=true)(hn:Behind o n=false):Behind (some (kb m.k)) n=false:=by
 cases o with
 | none=>simp[Behind]at hn
 | some x =>
  simp only[Behind,Zl5,Zl7]at hm hn⊢;intro h;exact hn (Zhc hm h)
theorem Nh{L:List Nm}{o:Option (List UInt8)}{m n:Nm}(hm:Behind o m=true)(hmin:Behind o n=true→¬ kb n.k<kb m.k)(hne:n.k≠m.k):Behind (some (kb m.k)) n=Behind o n:=by
 cases hb:Behind o n
 ·exact behind_next hm hb
 simp only[Behind,Zl5];rcases Zpd hne with h|h
 ·exact absurd h (hmin hb)
 exact h
theorem I4{L:List Nm}{o:Option (List UInt8)}{k:Nat}{m:Nm}(hk:L[k]?=some m)(hm:Behind o m=true)(hmin:∀ n∈L,Behind o n=true→¬ kb n.k<kb m.k)(huq:∀ i n,L[i]?=some n→n.k=m.k→i=k) :
 Ge L (some (kb m.k))=Ge L o+1:=by
 have hkl:=(Zr.1 hk).1;have e:L=L.take k++m::L.drop (k+1):=by
  have:=Zr.1 hk;obtain⟨h1,h2⟩:=this;rw[← h2];simp
 have a1:(L.take k).countP (fun n=>!Behind (some (kb m.k)) n)=(L.take k).countP (fun n=>!Behind o n):=by
  apply List.countP_congr;intro n hn;obtain⟨i,hi,rfl⟩:=Zj8.1 hn;have hi':i<k:=by rw[Zp]at hi;omega
  have hin:L[i]?=some (L.take k)[i]:=by rw[List.getElem_take];exact Zz _
  rw[Nh (L:=L) hm (hmin _ (Zy hin)) (fun e=>by have:=huq _ _ hin e;omega)]
 have a2:(L.drop (k+1)).countP (fun n=>!Behind (some (kb m.k)) n)=(L.drop (k+1)).countP (fun n=>!Behind o n):=by
  apply List.countP_congr;intro n hn;obtain⟨i,hi,rfl⟩:=Zj8.1 hn;have hin:L[k+1+i]?=some (L.drop (k+1))[i]:=by rw[List.getElem_drop];exact Zz _
  rw[Nh (L:=L) hm (hmin _ (Zy hin)) (fun e=>by have:=huq _ _ hin e;omega)]
 have b1:Behind (some (kb m.k)) m=false:=by simp[Behind,Zin]
 unfold Ge;rw[e,Zi2,Zi2,a1,Zih,Zih,a2,b1,hm];simp;omega
theorem I2{L:List Nm}{o:Option (List UInt8)}(h:Ge L o<L.length):∃ (k:Nat) (m:Nm),L[k]?=some m∧Behind o m=true:=by
 refine Zjo fun hn=>?_
 have:Ge L o=L.length:=by
  unfold Ge;rw[List.countP_eq_length];intro n hm;obtain⟨k,hk⟩:=Zjm hm;cases hb:Behind o n
  ·rfl
  exact absurd ⟨k,n,hk,hb⟩ hn
 omega
def Sel(L:List Nm)(o:Option (List UInt8))(i:Nat)(z:Int):Prop :=
 (z = -1∧∀ j n,j<i→L[j]?=some n→Behind o n=false) ∨
 ∃ (k:Nat) (m:Nm),z=(k:Int)∧k<i∧L[k]?=some m∧Behind o m=true∧(∀ j n,j<i→L[j]?=some n→Behind o n=true→¬ kb n.k<kb m.k)∧∀ j n,j<k→L[j]?=some n→n.k≠m.k
section
variable {L:List Nm} {o:Option (List UInt8)} {i:Nat} {z:Int} {n:Nm}
theorem Ng{m n:Nm}(h:n.k=m.k):Behind o n=Behind o m:=by cases o<;>simp[Behind,h]
theorem Sel.start(L:List Nm)(o:Option (List UInt8)):Sel L o 0 (-1):=.inl ⟨rfl,fun j n h=>by omega⟩
theorem Sel.skip(h:Sel L o i z)(hn:L[i]?=some n)(hb:Behind o n=false):Sel L o (i+1) z:=by
 rcases h with⟨rfl,h⟩ | ⟨k,m,rfl,hk,hm,hb2,h1,h2⟩
 ·refine .inl ⟨rfl,fun j x hj hx=>?_⟩;rcases(show j<i∨j=i by omega)with h3|rfl
  ·exact h j x h3 hx
  rw[hn]at hx;cases hx;exact hb
 refine .inr ⟨k,m,rfl,by omega,hm,hb2,fun j x hj hx hbx=>?_,h2⟩;rcases(show j<i∨j=i by omega)with h3|rfl
 ·exact h1 j x h3 hx hbx
 rw[hn]at hx;cases hx;rw[hb]at hbx;cases hbx
theorem Sel.first(h:Sel L o i (-1))(hn:L[i]?=some n)(hb:Behind o n=true):Sel L o (i+1) (i:Int):=by
 rcases h with⟨_,h⟩ | ⟨k,m,e,_⟩
 ·refine .inr ⟨i,n,rfl,by omega,hn,hb,fun j x hj hx hbx=>?_,fun j x hj hx e=>?_⟩
  ·rcases(show j<i∨j=i by omega)with h3|rfl
   ·rw[h j x h3 hx]at hbx;cases hbx
   rw[hn]at hx;cases hx;exact Zin _
  have:=h j x hj hx;rw[Ng e,hb]at this;cases this
 omega
theorem Sel.less{k:Nat}{m:Nm}(h:Sel L o i (k:Int))(hm:L[k]?=some m)(hn:L[i]?=some n)(hb:Behind o n=true)(hl:kb n.k<kb m.k):Sel L o (i+1) (i:Int):=by
 rcases h with⟨e,_⟩ | ⟨k',m',e,hk,hm',hb2,h1,h2⟩
 ·omega
 obtain rfl:k'=k:=by omega
 rw[hm]at hm';cases hm'
 refine .inr ⟨i,n,rfl,by omega,hn,hb,fun j x hj hx hbx hlt=>?_,fun j x hj hx e=>?_⟩
 ·rcases(show j<i∨j=i by omega)with h3|rfl
  ·exact h1 j x h3 hx hbx (Zhc hlt hl)
  rw[hn]at hx;cases hx;exact Zin _ hlt
 exact h1 j x hj hx (by rw[Ng e];exact hb) (by rw[e];exact hl)
theorem Sel.keep{k:Nat}{m:Nm}(h:Sel L o i (k:Int))(hm:L[k]?=some m)(hn:L[i]?=some n)(hl:¬ kb n.k<kb m.k):Sel L o (i+1) (k:Int):=by
 rcases h with⟨e,_⟩ | ⟨k',m',e,hk,hm',hb2,h1,h2⟩
 ·omega
 obtain rfl:k'=k:=by omega
 rw[hm]at hm';cases hm'
 refine .inr ⟨k',m,rfl,by omega,hm,hb2,fun j x hj hx hbx=>?_,h2⟩;rcases(show j<i∨j=i by omega)with h3|rfl
 ·exact h1 j x h3 hx hbx
 rw[hn]at hx;cases hx;exact hl
theorem Sel.at_(h:Sel L o i z):z = -1∨∃ (k:Nat) (m:Nm),z=(k:Int)∧k<i∧L[k]?=some m:=by
 rcases h with⟨e,_⟩ | ⟨k,m,e,hk,hm,_⟩
 ·exact .inl e
 exact .inr ⟨k,m,e,hk,hm⟩
theorem Sel.found(h:Sel L o L.length z)(hc:Ge L o<L.length):∃ (k:Nat) (m:Nm),z=(k:Int)∧k<L.length∧L[k]?=some m∧Behind o m=true∧(∀ x∈L,Behind o x=true→¬ kb x.k<kb m.k)∧∀ j x,j<k→L[j]?=some x→x.k≠m.k:=by
 rcases h with⟨_,h⟩ | ⟨k,m,e,hk,hm,hb2,h1,h2⟩
 ·obtain⟨k,m,hm,hb⟩:=I2 hc;rw[h k m (Zr.1 hm).1 hm]at hb;cases hb
 refine⟨k,m,e,hk,hm,hb2,fun x hx hbx=>?_,h2⟩;obtain⟨j,hj⟩:=Zjm hx;exact h1 j x (Zr.1 hj).1 hj hbx
def Zzz(out:List Nm):Option (List UInt8):=out.getLast?.map fun n=>kb n.k
theorem Zwx(out:List Nm)(m:Nm):Zzz (out++[m])=some (kb m.k):=by simp[Zzz]
theorem Zqr{out:List Nm}{y:Nm}(h:out[out.length-1]?=some y):Zzz out=some (kb y.k):=by
 unfold Zzz;rw[Ziz,h];rfl
theorem Tq{a b:ByteArray}(h:kb a<kb b):Op.bytesLess a.toList b.toList=true:=by
 rw[Go.Proofs.bytesLess_eq,Zkv,Zkv];unfold kb at h;simpa using h
theorem Ot{a b:ByteArray}(h:¬ kb a<kb b):Op.bytesLess a.toList b.toList=false:=by
 rw[Go.Proofs.bytesLess_eq,Zkv,Zkv];unfold kb at h;simpa using h
theorem Zo8{x s:ByteArray}(h:kb s<kb x):Op.bytesLess x.toList s.toList=false∧(x.toList==s.toList)=false:=by
 unfold kb at h;exact Pb h
theorem Zqz{x s:ByteArray}(h:¬ kb s<kb x):(!Op.bytesLess x.toList s.toList&&!(x.toList==s.toList))=false:=by
 unfold kb at h;have:=Fr h;cases h1:Op.bytesLess x.toList s.toList<;>cases h2:(x.toList==s.toList)<;>simp_all
end
end
theorem Zq1{w:World}{B z g n c m:Nat}{t:TypeId}{xs:List Value}(h:w.ownsRow B t z (.slice (some ⟨g,0,none⟩) n c) m xs)(j:Nat)(u:Value):(w.setCell ⟨g,j,none⟩ u).ownsRow B t z (.slice (some ⟨g,0,none⟩) n c) m (xs.set j u):=by
 obtain⟨h1,h2⟩:=h;refine⟨by rw[Zf];exact h1,?_⟩;rcases h2 with⟨h2,_⟩ | ⟨g',cap,cur,he,hb,hg,hn,hm,hs,ht⟩
 ·simp at h2
 simp only[Yg,Yf,Zld,Zl2,Zks]at he;obtain⟨rfl,he2,rfl⟩:=he;refine .inr ⟨g,c,cur.setIfInBounds j u,?_,hb,?_,hn,hm,by simpa using hs,?_⟩
 ·rw[← he2]
 ·simp[World.setCell,Zjv,hg]
 rw[← ht];simp[List.take_set]
structure Jv where
 cl:Int
 st:Int
 text:ByteArray
 op:Int
 ttl:Int
 lv:Value
 ns:List Nm
 rv:Value
 rs:List Rc
 ans:Ad
 i:Int
def Vy(r:Ad):List Value:=[.int .i64 r.e,.int .i64 r.at_,.string r.nm,.int .i64 r.rc.st,.int .i64 r.rc.ow,.string r.rc.nm,.int .i64 r.rc.dl,.int .i64 r.tick]
def machC(T:Tbl)(m:Jv):List Value:=[T.catV,T.clsV,T.joiV,T.bidV,T.scrV,T.staV,T.ignV,T.extV,T.mapV,T.decV,T.excV,T.proV,.int .i64 m.cl,.int .i64 m.st,.string m.text,.int .i64 m.op,.int .i64 m.ttl,m.lv,m.rv,.int .i64 m.ans.e,.int .i64 m.ans.at_,.string m.ans.nm,.int .i64 m.ans.rc.st,.int .i64 m.ans.rc.ow,.string m.ans.rc.nm,.int .i64 m.ans.rc.dl,.int .i64 m.ans.tick,.int .i64 m.i]
structure MOk(m:Jv):Prop where
 s0:0≤m.st
 s1:m.st≤7
 c0:0≤m.cl
 c1:m.cl<64∧KS m.ns∧0≤m.ans.tick
 n0:2≤m.st→m.st≤6→1≤m.ns.length∧m.ns.length≤16∧0≤m.i∧m.i<m.ns.length
 i4:m.st=4→m.i=0
 r3:m.st=3→(m.rs.length:Int)=m.i
 r4:4≤m.st→m.st≤5→m.rs.length=m.ns.length
 e2:1≤m.st→m.st≤2→m.rs=[]∧(m.st=1→m.i=0)
structure Wg(w:World)(S:Nat→Prop)(T:Tbl)(b:Nat)(m:Jv):Prop where
 cells:Xs w b (machC T m)
 ns:Wb w S m.lv m.ns
 rs:Jy w S m.rv m.rs
theorem Wg.chg{S U:Nat→Prop}{w w':World}{T:Tbl}{b:Nat}{m:Jv}(h:Wg w S T b m)(c:Chg U w w')(hb:¬ U b)(hS:∀ k,S k→¬ U k):Wg w' S T b m :=
 ⟨h.cells.chg c hb,Rd.chg h.ns c hS,Rd.chg h.rs c hS⟩
structure Shr where
 cl:Int
 cp:Int
 clock:Int
 sum:Int
 kv:Value
 ks:List Kp
 rv:Value
 rs:List Kp
def Zmp(x:Shr):List Value:=[.int .i64 x.cl,.int .i64 x.cp,.int .i64 x.clock,.int .i64 x.sum,x.kv,x.rv]
structure Qn(w:World)(S:Nat→Prop)(b:Nat)(x:Shr):Prop where
 cells:Xs w b (Zmp x)
 ks:KeptAt w S x.kv x.ks
 rs:KeptAt w S x.rv x.rs
theorem Qn.chg{S U:Nat→Prop}{w w':World}{b:Nat}{x:Shr}(h:Qn w S b x)(c:Chg U w w')(hb:¬ U b)(hS:∀ k,S k→¬ U k):Qn w' S b x :=
 ⟨h.cells.chg c hb,Rd.chg h.ks c hS,Rd.chg h.rs c hS⟩
structure XOk(t:Nat)(x:Shr):Prop where
 c0:0≤x.clock
 c1:x.clock≤1073741824
 m0 : -(16*t:Int)≤x.sum
 m1:x.sum≤16*t
 k:x.ks.length≤t
 r:x.rs.length≤t
theorem XOk.up{t:Nat}{x:Shr}(h:XOk t x):XOk (t+1) x:=⟨h.c0,h.c1,by have:=h.m0;omega,by have:=h.m1;omega,by have:=h.k;omega,by have:=h.r;omega⟩
section
section
variable {α:Type} {ops:Array Oper} {rest:List Oper} {o:Oper} {a:Act} {w:World} {Q:Exit→Act→World→Prop} {K:Act→World→Prop} {B:Nat} {S:Nat→Prop} {v x:Value} {l m:List α}
theorem Zmw(E:Enc α)(s y:Operand)(t:TypeId)(ho:o.op=.call {callee:=.builtin .append,args:=#[s,y],argTypes:=#[t,t]})(ht:t=E.sl)(hs:a.eval s=v)(hown:Own E w B v l)
 (hx:a.eval y=x) (hr:RdE E w S x m) (h63:l.length+m.length≤maxLen) (hby:(l.length+m.length)*E.bytes≤140737488355328) (hB:B≤w.heap.size)
 (h:∀ A n c w',Grew E w B v (l++m) A n c w'→K (a.put o.dst (.slice A n c)) w'):o.wp Tryz.prog a w K Q:=by
 subst ht;refine J8 w s y E.sl ho B E.ty E.i E.zero E.z E.bytes E.und E.info E.hz E.hs E.hb E.hc E.pos v l.length (E.cells l) hs hown S x m.length (E.cells m) hx hr (E.one m) h63 hby hB ?_;intro v' w' ha;obtain⟨A,n,c,rfl,hg⟩:=Zui hown ha;exact h A n c w' hg
theorem Wy(E:Enc α)(s y:Operand)(t:TypeId)(hgd:o.guard=none)(ho:o.op=.call {callee:=.builtin .append,args:=#[s,y],argTypes:=#[t,t]})(ht:t=E.sl)(hs:a.eval s=v)(hown:Own E w B v l)
 (hx:a.eval y=x) (hr:RdE E w S x m) (h63:l.length+m.length≤maxLen) (hby:(l.length+m.length)*E.bytes≤140737488355328) (hB:B≤w.heap.size)
 (h:∀ A n c w',Grew E w B v (l++m) A n c w'→wpList Tryz.prog ops Q rest (a.put o.dst (.slice A n c)) w'):wpList Tryz.prog ops Q (o::rest) a w :=
 Zil hgd fun _ hK=>Zmw E s y t ho ht hs hown hx hr h63 hby hB fun A n c w' hg=>hK _ _ (h A n c w' hg)
end
noncomputable def Gl:Enc Nat where
 ty:=3
 sl:=22
 z:=1
 bytes:=8
 cells l:=l.map Tn
 app a b:=Z9
 len l:=by simp
 one l:=Bs _ (fun _=>rfl) l
 und:=Zxs
 i:=Classical.choose (Zlf Qa)
 zero:=.int .i64 0
 info:=(Yq (Zlf Qa)).1
 hz:=(Yq (Zlf Qa)).2.1
 hs:=(Yq (Zlf Qa)).2.2.1
 hb:=(Yq (Zlf Qa)).2.2.2
 hc:=rfl
 pos:=by omega
theorem Zns{l:List Nat}{j:Nat}{x:Nat}(h:l[j]?=some x):(Gl.cells l)[j]?=some (Tn x):=by
 show(l.map Tn)[j]?=_;rw[Zn,h];rfl
theorem Lg(w:World)(z:Nat)(t:TypeId)(g:Nat)(hg:w.heap.size=g):RdE Gl (w.alloc (.cells #[.int .i64 (z:Int)] t)) (fun _=>True) (.slice (some ⟨g,0,none⟩) 1 1) [z]:=by
 subst hg;exact V0 w #[.int .i64 (z:Int)] t 1 rfl
structure Bg(os:List Opn)(i:Nat)(l:List Nat):Prop where
 asc:l.Pairwise (fun a b=>lxO os a b=true)
 mem:∀ j,j∈l↔j<i∧Rh os j=true
theorem Bg.done{os:List Opn}{l:List Nat}(h:Bg os os.length l):l=Nq os :=
 Ig.unique ⟨h.asc,fun j=>by rw[h.mem];exact⟨fun q=>q.2,fun q=>⟨Dw q,q⟩⟩⟩ (Dj os)
theorem Bg.skip{os:List Opn}{i:Nat}{l:List Nat}(h:Bg os i l)(hd:Rh os i=false):Bg os (i+1) l :=
 ⟨h.asc,fun j=>by
   rw[h.mem];constructor
   ·rintro⟨h1,h2⟩;exact⟨by omega,h2⟩
   rintro⟨h1,h2⟩;refine⟨?_,h2⟩;rcases(show j<i∨j=i by omega)with h3|rfl
   ·exact h3
   rw[hd]at h2;cases h2⟩
theorem Bg.put{os:List Opn}{i k:Nat}{l:List Nat}(h:Bg os i l)(hd:Rh os i=true)(hk:k≤l.length)(hhi:∀ p j,k≤p→l[p]?=some j→Kq os i<Kq os j)(hlo:∀ j,0<k→l[k-1]?=some j→Kq os j≤Kq os i) :
 Bg os (i+1) (l.take k++[i]++l.drop k):=by
 have hm:=h.mem;have ha:=h.asc;have hpre:∀ j∈l.take k,lxO os j i=true:=fun j hj=>by
  obtain⟨p,hp,rfl⟩:=Zj8.1 hj;rw[Zp]at hp;rw[List.getElem_take];have hpl:p<l.length:=by omega
  have hlast:=hlo l[k-1] (by omega) (Zz (by omega));have hji:=(hm l[p]).1 (Zii _);have hle:Kq os l[p]≤Kq os l[k-1]:=by
   rcases(show p<k-1∨p=k-1 by omega)with h1|rfl
   ·have:=Zk5.1 ha p (k-1) hpl (by omega) h1;simp only[lxO,Zl5]at this;omega
   exact Zkd _
  simp only[lxO,Zl5];omega
 have hpost:∀ j∈l.drop k,lxO os i j=true:=fun j hj=>by
  obtain⟨p,hp,rfl⟩:=Zj8.1 hj;rw[List.getElem_drop];rw[Z8]at hp;have:=hhi (k+p) l[k+p] (by omega) (Zz (by omega));simp only[lxO,Zl5];omega
 refine⟨?_,fun j=>?_⟩
 ·rw[← Zjr k l]at ha;rw[List.pairwise_append]at ha;obtain⟨h1,h2,h3⟩:=ha;rw[List.append_assoc,List.pairwise_append];refine⟨h1,?_,?_⟩
  ·rw[List.singleton_append,Zkg];exact⟨hpost,h2⟩
  intro a haa b hb;rcases Zg.1 hb with rfl|hb
  ·exact hpre a haa
  exact h3 a haa b hb
 have e:j∈l.take k++[i]++l.drop k↔j∈l∨j=i:=by
  conv=>rhs;rw[← Zjr k l]
  simp only[Zj,Zi];constructor
  ·rintro((h1|h1)|h1)
   ·exact .inl (.inl h1)
   ·exact .inr h1
   exact .inl (.inr h1)
  rintro((h1|h1)|h1)
  ·exact .inl (.inl h1)
  ·exact .inr h1
  exact .inl (.inr h1)
 rw[e,hm];constructor
 ·rintro(⟨h1,h2⟩|rfl)
  ·exact⟨by omega,h2⟩
  exact⟨by omega,hd⟩
 rintro⟨h1,h2⟩;rcases(show j<i∨j=i by omega)with h3|rfl
 ·exact .inl ⟨h3,h2⟩
 exact .inr rfl
end
theorem Zss{S R:Nat→Prop}(va vb:Value)(a b:List Int)(w:World)(ha:Xz w S va a)(hb:Xz w R vb b):Calls Tryz.prog 26 #[va,vb] w fun e w'=>e=.returned (.bool (decide (a=b)))∧Ext w w':=by
 obtain⟨A,C,rfl,hlC,hC⟩:=ha.shape;obtain⟨A2,C2,rfl,hlC2,hC2⟩:=hb.shape;obtain⟨n,hn⟩:=gnX (a.length);obtain⟨m,hm⟩:=gnX (b.length);have HA:=Ya ha;have HB:=Ya hb;rw[hn]at hlC⊢;rw[hm]at hlC2⊢;have Hn:=Ya hn;have Hm:=Ya hm;unfold maxLen at hC hC2;clear ha hb hn hm;by_cases hnm:n=m
 ·subst hnm;go_enter Tryz.func26,Tryz.ntmps26;go_wp2_with fail;go_loopw [13] (fun o wr=>∃ i:Nat,i≤n∧o=.int .i64 (i:Int)∧a.take i=b.take i∧Ext w wr) (fun o _=>n-(intOf o).toNat);case atStart=>exact⟨0,by omega,rfl,by simp,Yn _⟩
  obtain⟨i,hi,rfl,htk,hx⟩:=hrel;have Htk:=Ya htk;have Hx:=Ya hx;clear htk hx;by_cases hlt:i<n
  ·obtain⟨hd_i,i0_i,i1_i⟩:=LTl i n (by omega);obtain⟨x,hs_x⟩:=geX (l:=(a)) (i:=i) (by have:=Hn.o;omega);obtain⟨g_x,o_x,c_x,hvv,_,_,_,hgl_x,a0_x⟩:=(HA.o.ext Hx.o).get hs_x;simp only[Yg]at hvv;obtain⟨rfl,-,rfl⟩:=hvv;have Hs_x:=Ya hs_x;clear hs_x;obtain⟨y,hs_y⟩:=geX (l:=(b)) (i:=i) (by have:=Hm.o;omega);obtain⟨g_y,o_y,c_y,hvv,_,_,_,hgl_y,a0_y⟩:=(HB.o.ext Hx.o).get hs_y;simp only[Yg]at hvv;obtain⟨rfl,-,rfl⟩:=hvv;have Hs_y:=Ya hs_y;clear hs_y;have m1:=lat a0_x;have m2:=lat a0_y;have e1:=Wp Hs_x.o;have e2:=Wp Hs_y.o;cases hxy:(x==y)
   ·have h1:(!(x==y))=true:=by rw[hxy];rfl
    have h2:(x !=y)=true:=h1;have h3:¬ x=y:=by simpa using hxy
    have Hno:=Ya (show decide (a=b)=false by
     rw[Zl7];intro e;have h4:=Hs_x.o;rw[e,Hs_y.o]at h4;exact h3 (Zlc h4).symm)
    clear h3 e1 e2 a0_x a0_y;go_wp2_with fail;have hun:=Yd;refine Y0 (by kernel_rfl) (by kernel_rfl) ?_;repeat((with_reducible refine Yw ?_);intro K hK;go_simp;(with_reducible refine hK _ ?_);clear hK K)
    (with_reducible refine Yv ?_)
    intro w9 hy9;clear hun;try simp only[Ye]
    go_wp2_with fail;go_ret;exact⟨by rw[Hno.o];rfl,Hx.o.trans hy9⟩
   have h1:(!(x==y))=false:=by rw[hxy];rfl
   have h2:(x !=y)=false:=h1;have h3:x=y:=by simpa using hxy
   have Hyes:=Ya (show a.take (i+1)=b.take (i+1) by rw[e1,e2,Htk.o,h3]);clear h3 e1 e2 a0_x a0_y;go_wp2_with fail;have hun:=Yd;refine Y0 (by kernel_rfl) (by kernel_rfl) ?_;repeat((with_reducible refine Yw ?_);intro K hK;go_simp;(with_reducible refine hK _ ?_);clear hK K)
   (with_reducible refine Yv ?_)
   intro w9 hy9;clear hun;try simp only[Ye]
   go_wp2_with fail;go_roundw;case rel=>exact⟨i+1,by omega,by go_num,Hyes.o,Hx.o.trans hy9⟩
   (simp[intOf];omega)
  have hd_i:=GEl i n (by omega);go_wp2_with fail;go_ret;refine⟨?_,Hx.o⟩;have h1:=Htk.o;rw[Zm (by rw[Hn.o];omega),Zm (by rw[Hm.o];omega)]at h1;simp[h1]
 have d1:(!((n:Int)==(m:Int)))=true:=by simp;omega
 have d2:((n:Int)!=(m:Int))=true:=d1;have d3:(!(n==m))=true:=by simp;omega
 have d4:(n !=m)=true:=d3;have d5:¬ (n:Int)=(m:Int):=by omega
 go_enter Tryz.func26,Tryz.ntmps26;go_wp2_with fail;go_ret;refine⟨?_,Yn _⟩;have:¬ a=b:=fun e=>hnm (by rw[← Hn.o,← Hm.o,e])
 simp[this]
end Go.Proofs.YtnbclgbicnpmnaaGreat
