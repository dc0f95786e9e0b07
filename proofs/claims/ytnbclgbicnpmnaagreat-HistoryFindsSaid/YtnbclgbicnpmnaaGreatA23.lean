/- Lemmas of this claim: OrdB, HChk. Conditions: as named. -/
import Derived.Deep.MidRow
import Derived.Deep.WholeRow
import Derived.Test.YtnbclgbicnpmnaaGreatA10
namespace Go.Proofs.YtnbclgbicnpmnaaGreat
open Go.RowKit Go.Sort Tryz
set_option maxHeartbeats 0
set_option maxRecDepth 100000
set_option linter.all false
section
open Go.RowKit Go.Sort Go.Shelf
theorem Uv.range{w:World}{b p:Nat}{o:Opn}(h:Uv w b p o):w.rangeAt b p (opC o):=fun j v hv=>by
 rw[h.2 j (by have:=(Zr.1 hv).1;rwa [Kv]at this),hv]
theorem Zxk:(prog.underlying 55).map TypeDesc.isRow=some true:=by kernel_rfl
theorem Lj:(prog.info? 55).map (·.size)=some 23:=by kernel_rfl
theorem Zsw(o:Opn):opV o=.agg (opC o).toArray:=rfl
def opO(o:Opn):Obj:=.cells (opC o).toArray 55
theorem Mu(w:World)(o:Opn):Uv (w.alloc (opO o)) w.heap.size 0 o:=by
 refine⟨by simp,fun k hk=>?_⟩;unfold opO;rw[Zjd,cell_of_row _ _ k (opC o).toArray 55 (0,0) (Zjc w _)];simp
section
variable {ops:Array Oper} {rest:List Oper} {dst:Option Nat} {x y:Operand} {t:TypeId} {pos:String} {af:Array Edge} {a:Act} {w:World} {Q:Exit→Act→World→Prop} {b p:Nat} {o:Opn}
theorem Wl(h:Uv w b p o)(hx:a.eval x=.pointer (some ⟨b,p,none⟩))(hK:wpList prog ops Q rest (a.put dst (opV o)) w) :
 wpList prog ops Q ({dst:=dst,op:=.load 55 x,type:=t,pos:=pos,after:=af,guard:=none}::rest) a w:=by
 have hu:=Zxk;rw[Zjl]at hu;obtain⟨d,hu,hd⟩:=hu;exact Zfu rfl _ x rfl b p hx (opC o) d h.range hu hd (by rw[Lj];rfl) hK
theorem V5{c:Array Value}(hc:c.size=23)(hx:a.eval x=.pointer (some ⟨w.heap.size,0,none⟩))(hy:a.eval y=opV o)(hnv:o.nv.oneCell'=true)(hK:wpList prog ops Q rest (a.put dst undef) (w.alloc (opO o))) :
 wpList prog ops Q ({dst:=dst,op:=.store 55 x y,type:=t,pos:=pos,after:=af,guard:=none}::rest) a (w.alloc (.cells c 55)):=by
 refine Zgr rfl fun _ hK'=>?_
 unfold Oper.wp execOp;rw[Zsw]at hy;have hall:(opC o).toArray.all (·.oneCell')=true:=by
  have e:∀ v∈opC o,v.oneCell'=true:=by
   intro v hv;simp only[opC,Zg,Zh,Zin]at hv;rcases hv with rfl|rfl|rfl|rfl|rfl|rfl|rfl|rfl|rfl|rfl|rfl|rfl|rfl|rfl|rfl|rfl|rfl|rfl|rfl|rfl|rfl|rfl|rfl<;>first|exact hnv|rfl
  simpa using e
 have hrun:=run_storeAt_new (P:=prog) w 55 c (opC o).toArray (by rw[Lj];rfl) hc hall;simp only[hx,hy,Zhs,hrun,Zir,Zhr];exact hK' _ _ hK
end
def Zwb(i:Nat):Value:=.int .i64 (i:Int)
def Vo(w:World)(S:Nat→Prop)(v:Value)(l:List Nat):Prop:=Rd w S 1 v l.length (l.map Zwb)
theorem Nd(A:Option Addr)(C:Nat)(fv:Value)(w:World):Calls prog 135 #[.slice A 0 C,.int .i64 0,.int .i64 0,fv] w fun e w'=>e=.returned (.tuple #[])∧w=w':=by
 go_enter func135,ntmps135;go_wp2_with fail;go_loopw [8] (fun v wr=>v=.int .i64 1∧w=wr) (fun _ _=>0);case atStart=>exact⟨rfl,rfl⟩
 obtain⟨rfl,rfl⟩:=hrel;go_wp2_with fail;go_end0;exact⟨rfl,rfl⟩
theorem Zz4(A:Option Addr)(C:Nat)(fv:Value)(w:World):Calls prog 99 #[.slice A 0 C,.int .i64 0,fv] w fun e w'=>e=.returned (.tuple #[])∧w=w':=by
 go_enter func99,ntmps99;go_wp2_with fail;go_loopw [7,8] (fun u v wr=>u=.int .i64 0∧v=.int .i64 20∧w=wr) (fun _ _ _=>0);case atStart=>exact⟨rfl,rfl,rfl⟩
 obtain⟨rfl,rfl,rfl⟩:=hrel;go_wp2_with (go_at_call 135;refine(Nd _ _ _ _).mono ?_;rintro e w' ⟨rfl,rfl⟩);go_loopw [6] (fun v wr=>v=.int .i64 20∧w=wr) (fun _ _=>0);case atStart=>exact⟨rfl,rfl⟩
 obtain⟨rfl,rfl⟩:=hrel;go_wp2_with fail;go_end0;exact⟨rfl,rfl⟩
theorem Zrz(A:Option Addr)(C:Nat)(fv:Value)(w:World):Calls prog 66 #[.slice A 0 C,fv] w fun e w'=>e=.returned (.tuple #[])∧w=w':=by
 go_enter func66,ntmps66;go_wp2_with (go_at_call 99;refine(Zz4 _ _ _ _).mono ?_;rintro e w' ⟨rfl,rfl⟩);go_end0;exact⟨rfl,rfl⟩
def Zu7{n:Nat}(i:Fin n):Value:=Zwb i.val
theorem Zqb{n:Nat}:OneCell (Zu7 (n:=n)):=fun _=>rfl
theorem Zo6{α:Type}[Inhabited α]{enc:α→Value}{w0 W:World}{blk off:Nat}{d:Array α}(h:SW enc w0 blk off d W):Chg (· = blk) w0 W:=by
 obtain⟨m,os,rfl⟩:=h;unfold sortWorld;refine⟨rfl,rfl,rfl,?_,fun k hk hne=>?_⟩
 ·show w0.heap.size≤((putRow enc (Sort.ahead w0 m) blk off d).heap++os).size;rw[Array.size_append,Sort.size_putRow];exact Nat.le_add_right _ _
 show((putRow enc (Sort.ahead w0 m) blk off d).heap++os)[k]?=_;rw[Array.getElem?_append_left (by rw[Sort.size_putRow];exact hk)];simp only[putRow,mapBlock,Sort.heap_ahead];rw[Zht,Zk9 (fun e=>hne e.symm)]
theorem Zry{os:List Opn}{N:Nat}[Inhabited (Fin N)]{sz:Nat}{d0 d:Array (Fin N)}(h0:d0.toList.map (·.val)=Ak os os.length)(hsz:d0.size=sz)(h:Merged (fun i:Fin N=>Km os i.val) (fun i:Fin N=>i.val) 0 sz d0 d):d.toList.map (·.val)=Kf os:=by
 obtain⟨hp,hs⟩:=h;have hds:d.size=sz:=by rw[hp.1,hsz]
 have hperm:d.toList.Perm d0.toList:=by
  have:=hp.2.2;rw[← hsz]at this;have e1:d0.extract 0 d0.size=d0:=by simp
  have e2:d.extract 0 d0.size=d:=by rw[hsz,← hds];simp
  rw[e1,e2]at this;exact this
 have hnd:(d.toList.map (·.val)).Nodup:=(hperm.map _).nodup_iff.2 (by rw[h0];exact(P2 os os.length).imp fun h=>Zgs h);refine Zxf.unique ⟨?_,fun i=>?_⟩ (Jn os)
 ·rw[Zjh];intro i j hi hj hij;simp only[Zq,Zh3]at hi hj;have h1:=hs i j (Zjn _) hij (by omega);have hne:(d.toList.map (·.val))[i]'(by simpa using hi)≠(d.toList.map (·.val))[j]'(by simpa using hj):=by
   intro e;have:=(List.getElem_inj hnd).1 e;omega
  simp only[Zfz,Array.getElem_toList]at hne⊢;rw[Zgq d i hi,Zgq d j hj]at h1;simp only[lxK,lxO,Zji,Zjm]at h1⊢;omega
 rw[(hperm.map _).mem_iff,h0,Fh];exact⟨fun h=>h.2,fun h=>⟨Du h,h⟩⟩
def Zqq(os:List Opn)(w:World)(e:Ending)(w':World):Prop:=∃ v,e=.returned v∧Vo w' (fun k=>w.heap.size≤k) v (Kf os)∧Ext w w'
theorem V6.mono{w:World}{S T:Nat→Prop}{v:Value}{l:List Opn}(h:V6 w S v l)(hST:∀ k,S k→k<w.heap.size→T k):V6 w T v l:=⟨Rd.mono h.1 hST,fun p hp=>Rd.mono (h.2 p hp) hST⟩
theorem Tc{S:Nat→Prop}(v:Value)(os:List Opn)(w:World)(ho:V6 w S v os)(hn:os.length≤1000000000000) :
 Calls prog 28 #[v] w (Zqq os w):=by
 obtain⟨i0,hi0,hz0,hz1,hz2⟩:=Zju Tx;obtain⟨A,C,rfl⟩:=ho.shape;obtain⟨n,hnn⟩:=gnX (os.length);have Hnn:=Y4 hnn;have Ho:=Y4 (ho.mono (T:=fun k=>k<w.heap.size) fun k _ hk=>hk);rw[hnn]at hn⊢;clear hnn ho;go_enter func28,ntmps28;go_wp2_with fail;go_loopw [3,8] (fun l o wr=>∃ i:Nat,i≤n∧o=.int .i64 (i:Int)∧wr.ownsRow (w.heap.size+1) 3 1 l (Ak os i).length ((Ak os i).map Zwb)∧Ext w wr∧wr.cell? ⟨w.heap.size,0,none⟩=some (.slice A n C)∧w.heap.size<wr.heap.size) (fun _ o _=>n-(intOf o).toNat);case atStart=>exact⟨0,by omega,rfl,Zie _ _ _ _,(Yl w).alloc _,by go_simp,by simp⟩
 obtain⟨i,hi,rfl,hrow,hx,hB,hBl⟩:=hrel;by_cases hin:i<n
 ·have hd:decide ((i:Int)<(n:Int))=true:=by simp;omega
  obtain⟨o,hoi⟩:∃ o,os[i]?=some o:=⟨os[i]'(by rw[Hnn.o];exact hin),by rw[Zz]⟩;obtain⟨g,p,c,hv,hc1,hc2,_,hA,hN⟩:=(Ho.o.ext hx).get hoi;simp only[Ye]at hv;obtain⟨rfl,_,rfl⟩:=hv;rw[Hnn.o]at hc1;have hC:C≤9223372036854775807:=by unfold maxLen at hc2;omega
  have HA:=Y4 hA;have hN2:=hN.shape;obtain⟨nA,nC,hnv⟩:=hN2;have hone:o.nv.oneCell'=true:=by rw[hnv];rfl
  have hNew:=Mu wr o;have hNd:=hNew.dec;have hx1:Ext w (wr.alloc (opO o)):=hx.alloc _;have hrow1:=hrow.alloc (opO o);have hB1:(wr.alloc (opO o)).cell? ⟨w.heap.size,0,none⟩=some (.slice (some ⟨g,p,none⟩) n C):=(((Yl wr).alloc (opO o)).cell (p:=⟨w.heap.size,0,none⟩) hBl).trans hB;have hBl1:w.heap.size<(wr.alloc (opO o)).heap.size:=by simp;omega
  obtain⟨la,lc,rfl⟩:=Xb hrow;have hlen:=P3 os i;clear hN hnv hA;by_cases hdec:o.dec = -1
  ·have hdq:(o.dec != -1)=false:=by simp[hdec]
   have Hnx:=Y4 (show Ak os (i+1)=Ak os i by rw[Sg,Zk9 (by simp[Fs,Vb hoi,hdec])]);have Hoi:=Y4 hoi;clear hoi hdec;go_wp2_with (first|(refine Wl HA.o rfl ?_)|(refine V5 rfl rfl rfl hone ?_));go_roundw;case rel=>exact⟨i+1,by omega,by go_num,by rw[Hnx.o];exact hrow1,hx1,hB1,hBl1⟩
   simp[intOf];omega
  have hdq:(o.dec != -1)=true:=by simp[hdec]
  have Hnx:=Y4 (show Ak os (i+1)=Ak os i++[i] by rw[Sg,Zjx (by simp[Fs,Vb hoi,hdec])]);have Hoi:=Y4 hoi;clear hoi hdec;go_wp2_with (first|(refine Wl HA.o rfl ?_)|(refine V5 rfl rfl rfl hone ?_)|(at_builtin;refine wpList_append_own _ rfl _ _ 22 rfl (w.heap.size+1) 3 i0 _ 1 8 Ij hi0 hz0 hz1 hz2 rfl (by decide) _ _ _ rfl (hrow1.alloc _) ⟨wr.heap.size+1,0,none⟩ 1 1 [Zwb i] rfl rfl ?c1 ?c2 ?c3 ?c4 ?c5 ?_;rotate_left 5;intro v' w3 hown' hg3 hnil3;go_frame));go_roundw;case rel =>
   refine⟨i+1,by omega,by go_num,?_,(hx1.alloc _).grown hg3 (fun k hk=>by have:=(hrow1.lt k hk).1;omega),?_,?_⟩
   ·rw[Hnx.o];simpa[Zwb]using hown'
   ·have hne:∀ k,(Value.slice la (Ak os i).length lc).ownBlock=some k→w.heap.size≠k:=fun k hk=>by have:=(hrow1.lt k hk).1;omega
    rw[Zia (a:=⟨w.heap.size,0,none⟩) (hg3.block w.heap.size (by simp;omega) (fun e=>hne _ e.symm rfl))];exact(((Yl (wr.alloc (opO o))).alloc _).cell (p:=⟨w.heap.size,0,none⟩) hBl1).trans hB1
   have:=hg3.size;simp at this;omega
  case measure=>simp[intOf];omega
  case c1 =>
   intro j u hj;have:=cell_one_new (wr.alloc (opO o)) (Zwb i) 3 j u hj;rw[show(wr.alloc (opO o)).heap.size=wr.heap.size+1 by simp]at this;exact this
  case c2=>simp[Value.oneCell',Zwb]
  case c3=>unfold maxLen;omega
  case c4=>omega
  case c5=>simp;omega
 have hd:decide ((i:Int)<(n:Int))=false:=by simp;omega
 obtain rfl:i=n:=by omega
 obtain⟨la,lc,rfl⟩:=Xb hrow;have hlen:=P3 os i;by_cases h0:(Ak os i).length=0
 ·have h1:Kf os=[]:=by
   have:=Jn os;have hm:∀ j,j ∉ Kf os:=fun j hj=>by
    have h2:=(this.mem j).1 hj;have h3:j∈Ak os i:=Fh.2 ⟨by rw[← Hnn.o];exact Du h2,h2⟩;rw[Zjk h0]at h3;simp at h3
   exact Zi5.2 hm
  have H1:=Y4 h1;have Hrow:=Y4 (Rd.of_own (S:=fun k=>w.heap.size≤k) hrow fun k hk=>by have:=(hrow.lt k hk).1;omega);have H0:=Y4 h0;rw[h0];clear h0 h1 hrow;go_wp2_with (go_at_call 66;refine(Zrz _ _ _ _).mono ?_;rintro e w' ⟨rfl,rfl⟩);go_ret;refine⟨_,rfl,?_,hx⟩;have hr:=Hrow.o;rw[H0.o,Zjk H0.o]at hr;unfold Vo;rw[H1.o];exact hr
 -- the row
 obtain⟨m,hm⟩:=gnX ((Ak os i).length);have hiN:0<i:=by omega
 haveI:Inhabited (Fin i):=⟨⟨0,hiN⟩⟩;have hlt:∀ j∈Ak os i,j<i:=fun j hj=>(Fh.1 hj).1
 obtain⟨d0,hd0⟩:∃ d0:Array (Fin i),d0.toList.map (·.val)=Ak os i:=by
  refine⟨((Ak os i).attach.map fun x=>(⟨x.1,hlt x.1 x.2⟩:Fin i)).toArray,?_⟩;rw[List.toList_toArray,Zi6];exact List.attach_map_subtype_val _
 have hsz:d0.size=m:=by rw[← hm,← hd0];simp
 rcases hrow.2 with⟨hv,hz⟩ | ⟨g,cap,cur,hv,hbase,hb,hnc,hcm,hcs,htk⟩
 ·exact absurd hz h0
 simp only[Ye]at hv;obtain⟨rfl,_,rfl⟩:=hv;have hcell:∀ j,j<d0.size→wr.cell? ⟨g,0+j,none⟩=some (Zu7 d0[j]!)∧wr.frozen? ⟨g,0+j,none⟩=false:=by
  intro j hj;have e1:cur[j]?=some (Zu7 d0[j]!):=by
   have h1:(cur.toList.take ((Ak os i).length*1))[j]?=some (Zu7 d0[j]!):=by
    rw[htk,Zn,← hd0,Zn,Array.getElem?_toList,Zgq d0 j hj,Zjt hj];rfl
   rw[Yw,Zjx (by omega)]at h1;simpa using h1
  rw[Zjd];exact⟨(cell_of_row wr g j cur _ _ hb).trans e1,by simp[World.frozen?,hb]⟩
 have R:Row1 Zu7 wr g 0 d0:=⟨Zqb,hcell,(Zjz.1 hb).1⟩;have hBne:w.heap.size≠g:=by omega
 have ho2:=Ho.o.ext hx;have hcmp:CmpLays1 prog 67 #[.pointer (some ⟨w.heap.size,0,none⟩)] Zu7 (cfK fun j:Fin i=>Km os j.val) g 0 m wr:=by
  intro q obs dk hdk x y;have hc:=Zo6 (enc:=Zu7) (w0:=wr) (blk:=g) (off:=0) (d:=dk) (W:=sortWorld Zu7 wr g 0 q dk obs) ⟨q,obs,rfl⟩;obtain⟨a,ha⟩:=geX (l:=os) (i:=x.val) (by rw[Hnn.o];exact x.isLt);obtain⟨b,hb⟩:=geX (l:=os) (i:=y.val) (by rw[Hnn.o];exact y.isLt);have ho3:=ho2.chg hc (fun k hk e=>by omega);have hB3:=(hc.cell (p:=⟨w.heap.size,0,none⟩) hBl hBne).trans hB;have hB4:∀ N,os.length=N→(sortWorld Zu7 wr g 0 q dk obs).cell? ⟨w.heap.size,0,none⟩=some (.slice A N C)→(sortWorld Zu7 wr g 0 q dk obs).cell? ⟨w.heap.size,0,none⟩=some (.slice A os.length C):=fun N e h=>by rw[e];exact h
  have:=Cx w.heap.size x.val y.val A C os a b _ (hB4 _ Hnn.o hB3) ho3 ha hb;refine Zhx this ?_;rintro e w' ⟨rfl,q',os',hw'⟩;refine⟨?_,q',os',hw'⟩;rw[← Vb ha,← Vb hb];rfl
 have hso:=M9 Zu7 (fun j:Fin i=>Km os j.val) (fun j:Fin i=>j.val) m g 0 lc #[.pointer (some ⟨w.heap.size,0,none⟩)] d0 wr hcmp R hsz (by omega) (fun p q hpq hq=>by
  have hl:=P2 os i;rw[← hd0,List.pairwise_map]at hl;have:=Zjh.1 hl p q (by simp;omega) (by simp;omega) hpq;rw[Zgq d0 p (by omega),Zgq d0 q (by omega)];simpa using this)
 have HS:=Y4 hso;have Hd0:=Y4 hd0;have Hm:=Y4 hm;have HC:=Y4 hcell;have HR:=Y4 R;rw[hm];clear hso hd0 hm hcell R hcmp hrow hb htk hlt;go_wp2_with fail;refine Zhx HS.o ?_;rintro e w5 ⟨rfl,d,hSW,hds,hM⟩;have hres:=Zry (os:=os) (by rw[Hd0.o,Hnn.o]) hsz hM;have hch:=Zo6 hSW;have hx5:Ext w w5:=hx.chg_new hch (fun k hk=>by omega);have hh:=hSW.holds HR.o.hblk HC.o (by omega);have Hres:=Y4 hres;have Hx5:=Y4 hx5;have Hh:=Y4 hh;have hsz5:=hch.size;clear hres hx5 hh hch hSW hM;go_wp2_with fail;go_ret;refine⟨_,rfl,?_,Hx5.o⟩;unfold Vo;have hL:(Kf os).length=m:=by rw[← Hres.o];simp[hds]
 rw[hL];refine⟨by simp[hL],_,_,rfl,by rw[← Hm.o];exact hnc,hcm,fun _=>⟨g,0,rfl,by omega,Zk8 HR.o.hblk hsz5,fun j u hu=>?_⟩⟩;have hj:j<d.size:=by
  have:=(Zr.1 hu).1;simp at this;omega
 have:=(Hh.o j hj).1;rw[this,← hu,← Hres.o,Zi6,Zn,Array.getElem?_toList,Zjt hj,Zgq d j hj];rfl
end
open Go.Maps (Keyed int_keyed)
open Go.ChangeMaps Go.MapKept Go.WideMaps
theorem Zo7:prog.underlying 172=some (.map 3 4):=by kernel_rfl
theorem Zo8:prog.underlying 173=some (.map 3 55):=by kernel_rfl
theorem Np:prog.underlying 3=some (.int .i64):=by kernel_rfl
theorem Ry:Keyed prog 3:=int_keyed Np
def Znx:Opn:=⟨0,0,0,.slice none 0 0,[],⟨0,0,⟨#[]⟩,default,0⟩,0,0,0,⟨0,0,⟨#[]⟩,default,0⟩⟩
theorem Zll(w:World):(zeroValue 55).run prog w=.ok (opV Znx) w:=by kernel_rfl
theorem Zr1(w:World):(zeroValue 4).run prog w=.ok (.bool false) w:=by kernel_rfl
theorem wf_i64{k:Int}(h:I64 k):(Lit.int .i64 k).wf=true:=by
 unfold I64 at h;simp[Lit.wf,IntKind.min,IntKind.max,IntKind.signed,IntKind.bits];omega
open Classical in
noncomputable def opR(v:Value):Option (DataW Unit×List MemPlace):=if h:∃ o,v=opV o∧o.nv.oneCell'=true then some (.lit (.int .i64 h.choose.ans),[])else none
theorem Zmf{a b:Opn}(h:opV a=opV b):a.ans=b.ans:=by
 unfold opV at h;simp only[Value.agg.injEq,Array.mk.injEq,Zfx,Value.int.injEq,Zjj]at h;exact h.2.2.2.2.2.2.2.2.2.2.2.2.2.2.1
theorem Zkw(o:Opn)(h1:o.nv.oneCell'=true):opR (opV o)=some (.lit (.int .i64 o.ans),[]):=by
 have h:∃ p,opV o=opV p∧p.nv.oneCell'=true:=⟨o,rfl,h1⟩;unfold opR;rw[Zfl h,← Zmf h.choose_spec.1]
theorem Zmg{v:Value}{z:DataW Unit×List MemPlace}(h:opR v=some z):∃ o,v=opV o∧o.nv.oneCell'=true∧z=(.lit (.int .i64 o.ans),[]):=by
 unfold opR at h;split at h
 ·rename_i hh;simp only[Yd]at h;exact⟨hh.choose,hh.choose_spec.1,hh.choose_spec.2,h.symm⟩
 simp at h
def Zqi:Value→Option (DataW Unit×List MemPlace)
 | .bool true=>some (.lit (.bool true),[])
 | _=>none
theorem Zug{v:Value}{z:DataW Unit×List MemPlace}(h:Zqi v=some z):v=.bool true:=by
 unfold Zqi at h;split at h
 ·rfl
 simp at h
def Vi(w:World)(m:Nat)(ks:List Int):Prop:=∃ D,w.ownsMap prog 3 Zqi m ks.length D∧Maps.Tidy D∧∀ k,Maps.has D (.int .i64 k)=true↔k∈ks
theorem Vi.lt{w:World}{m:Nat}{ks:List Int}(h:Vi w m ks):m<w.heap.size:=by
 obtain⟨D,h,_⟩:=h;exact h.lt
theorem Vi.keep{w w':World}{m:Nat}{ks:List Int}(h:Vi w m ks)(hk:w'.heap[m]?=w.heap[m]?):Vi w' m ks:=by
 obtain⟨D,⟨es,clock,hb,r⟩,h2⟩:=h;exact⟨D,⟨es,clock,hk.trans hb,r⟩,h2⟩
theorem Vi.chg{S:Nat→Prop}{w w':World}{m:Nat}{ks:List Int}(h:Vi w m ks)(c:Chg S w w')(hm:¬ S m):Vi w' m ks:=h.keep (c.block m h.lt hm)
theorem Vi.ext{w w':World}{m:Nat}{ks:List Int}(h:Vi w m ks)(x:Ext w w'):Vi w' m ks:=h.keep (x.block h.lt)
theorem Ztl(w:World):Vi (w.alloc (.map #[] 0)) w.heap.size []:=⟨_,Zgf w _ _ _,Zfw,fun k=>by simp[Maps.has]⟩
theorem Vi.look{w:World}{m:Nat}{ks:List Int}(h:Vi w m ks){k:Int}(hk:I64 k):(Instr.lookup 172 (.map (some m)) (.int .i64 k) false).run prog w=.ok (.bool (decide (k∈ks))) w:=by
 obtain⟨D,⟨es,clock,hb,F,hn,rfl⟩,_,h3⟩:=h;rcases Maps.fit_look false Ry Zo7 (Zr1 w) hb F (Zgv Np (wf_i64 hk))with⟨hrun,_,hat⟩ | ⟨e0,y,_,_,hrun,hy,hat,_⟩
 ·have hno:k ∉ ks:=fun hm=>by
   have:=(h3 k).2 hm;rw[Maps.has_false_of_atKey hat]at this;simp at this
  simpa[hno]using hrun
 have hyes:k∈ks:=(h3 k).1 (Maps.has_true_of_atKey hat);rw[Zug hy]at hrun;simpa[hyes]using hrun
theorem Zq7{w:World}{m:Nat}{ks:List Int}(h:Vi w m ks)(hl:ks.length<maxLen){k:Int}(hk:I64 k) :
 ∃ w',(Instr.mapUpdate 172 (.map (some m)) (.int .i64 k) (.bool true)).run prog w=.ok () w'∧Vi w' m (k::ks)∧Chg (· = m) w w':=by
 obtain⟨D,h1,h2,h3⟩:=h;obtain⟨w',hrun,h4,h5⟩:=h1.update Ry Zo7 hl (Zgv Np (wf_i64 hk)) (show Zqi (.bool true)=some (.lit (.bool true),[]) from rfl);refine⟨w',hrun,⟨_,h4,h2.put (by simp[WideAt.IsKeyLit]) _,fun k'=>?_⟩,(Chg.refl _ w).grown h5 fun i hi=>.inl (by simpa using hi.symm)⟩;by_cases e:k'=k
 ·subst e;rw[Maps.has_put_same h2.isMap (by simp[WideAt.IsKeyLit])];simp
 rw[Zgg (by simpa using e),h3];simp[e]
def Jw(w:World)(m n:Nat)(f:Int→Option Int):Prop:=∃ D,w.ownsMap prog 3 opR m n D∧Maps.Tidy D∧∀ k,(f k=none→Maps.has D (.int .i64 k)=false)∧∀ a,f k=some a→∀ z,D.atKey (.int .i64 k) z=.lit (.int .i64 a)
theorem Jw.lt{w:World}{m n:Nat}{f:Int→Option Int}(h:Jw w m n f):m<w.heap.size:=by
 obtain⟨D,h,_⟩:=h;exact h.lt
theorem Jw.keep{w w':World}{m n:Nat}{f:Int→Option Int}(h:Jw w m n f)(hk:w'.heap[m]?=w.heap[m]?):Jw w' m n f:=by
 obtain⟨D,⟨es,clock,hb,r⟩,h2⟩:=h;exact⟨D,⟨es,clock,hk.trans hb,r⟩,h2⟩
theorem Jw.chg{S:Nat→Prop}{w w':World}{m n:Nat}{f:Int→Option Int}(h:Jw w m n f)(c:Chg S w w')(hm:¬ S m):Jw w' m n f:=h.keep (c.block m h.lt hm)
theorem Jw.ext{w w':World}{m n:Nat}{f:Int→Option Int}(h:Jw w m n f)(x:Ext w w'):Jw w' m n f:=h.keep (x.block h.lt)
theorem Ztf(w:World):Jw (w.alloc (.map #[] 0)) w.heap.size 0 (fun _=>none):=⟨_,Zgf w _ _ _,Zfw,fun k=>⟨fun _=>by simp[Maps.has],fun a h=>by simp at h⟩⟩
theorem Jw.look{w:World}{m n:Nat}{f:Int→Option Int}(h:Jw w m n f){k:Int}(hk:I64 k) :
 ∃ o b,(Instr.lookup 173 (.map (some m)) (.int .i64 k) true).run prog w=.ok (.tuple #[opV o,.bool b]) w∧o.nv.oneCell'=true∧((f k=none∧b=false)∨(f k=some o.ans∧b=true)):=by
 obtain⟨D,⟨es,clock,hb,F,hn,rfl⟩,_,h3⟩:=h;rcases Maps.fit_look true Ry Zo8 (Zll w) hb F (Zgv Np (wf_i64 hk))with⟨hrun,_,hat⟩ | ⟨e0,y,_,_,hrun,hy,hat,_⟩
 ·refine⟨Znx,false,by simpa using hrun,rfl,.inl ⟨?_,rfl⟩⟩;cases hf:f k with
  | none=>rfl
  | some a =>
   have:=(h3 k).2 a hf (.lit (.bool true));rw[hat]at this;simp at this
 obtain⟨o,ho,h1,hz⟩:=Zmg hy;refine⟨o,true,by rw[ho]at hrun;simpa using hrun,h1,.inr ⟨?_,rfl⟩⟩;cases hf:f k with
 | none =>
  have:=(h3 k).1 hf;rw[Maps.has_true_of_atKey hat]at this;simp at this
 | some a =>
  have:=(h3 k).2 a hf (.lit (.bool true));rw[hat,hz]at this;simp at this;rw[this]
theorem Zpv{w:World}{m n:Nat}{f:Int→Option Int}(h:Jw w m n f)(hl:n<maxLen){k:Int}(hk:I64 k){o:Opn}(h1:o.nv.oneCell'=true) :
 ∃ w',(Instr.mapUpdate 173 (.map (some m)) (.int .i64 k) (opV o)).run prog w=.ok () w'∧Jw w' m (n+1) (fun c=>if k=c then some o.ans else f c)∧Chg (· = m) w w':=by
 obtain⟨D,h1',h2,h3⟩:=h;obtain⟨w',hrun,h4,h5⟩:=h1'.update Ry Zo8 hl (Zgv Np (wf_i64 hk)) (Zkw o h1);refine⟨w',hrun,⟨_,h4,h2.put (by simp[WideAt.IsKeyLit]) _,fun k'=>?_⟩,(Chg.refl _ w).grown h5 fun i hi=>.inl (by simpa using hi.symm)⟩;by_cases e:k=k'
 ·subst e;simp only[Zfo];refine⟨fun h=>by simp at h,fun a ha z=>?_⟩;simp only[Yd]at ha;subst ha;exact Maps.atKey_put_same h2.isMap (by simp[WideAt.IsKeyLit]) _ _
 simp only[e,Zfm];have hne:(Lit.int .i64 k')≠.int .i64 k:=by simpa using fun h=>e h.symm
 refine⟨fun h=>by rw[Zgg hne];exact(h3 k').1 h,fun a ha z=>?_⟩;rw[Maps.atKey_put_other hne];exact(h3 k').2 a ha z
