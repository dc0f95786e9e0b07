/- Lemmas of this claim: OrdB, HChk, HChk2. Conditions: as named. -/
import Derived.Deep.MidRow
import Derived.Deep.WholeRow
import Derived.Test.YtnbclgbicnpmnaaGreatA13
namespace Go.Proofs.YtnbclgbicnpmnaaGreat
open Go.RowKit Go.Sort
set_option maxHeartbeats 0
set_option maxRecDepth 100000
set_option linter.all false
section
open Go.RowKit Go.Sort Go.Shelf
theorem Kc.range{w:World}{b p:Nat}{o:Opn}(h:Kc w b p o):w.rangeAt b p (opC o):=fun j v hv=>by
 rw[h.2 j (by have:=(Zr.1 hv).1;rwa [Qg]at this),hv]
theorem Ol:(Tryz.prog.underlying 55).map TypeDesc.isRow=some true:=by kernel_rfl
theorem Jx:(Tryz.prog.info? 55).map (·.size)=some 23:=by kernel_rfl
theorem Ty(o:Opn):opV o=.agg (opC o).toArray:=rfl
def opO(o:Opn):Obj:=.cells (opC o).toArray 55
theorem Un(w:World)(o:Opn):Kc (w.alloc (opO o)) w.heap.size 0 o:=by
 refine⟨by simp,fun k hk=>?_⟩;unfold opO;rw[Zle,Zhg _ _ k (opC o).toArray 55 (0,0) (Zl2 w _)];simp
section
variable {ops:Array Oper} {rest:List Oper} {dst:Option Nat} {x y:Operand} {t:TypeId} {pos:String} {af:Array Edge} {a:Act} {w:World} {Q:Exit→Act→World→Prop} {b p:Nat} {o:Opn}
theorem Xh(h:Kc w b p o)(hx:a.eval x=.pointer (some ⟨b,p,none⟩))(hK:wpList Tryz.prog ops Q rest (a.put dst (opV o)) w) :
 wpList Tryz.prog ops Q ({dst:=dst,op:=.load 55 x,type:=t,pos:=pos,after:=af,guard:=none}::rest) a w:=by
 have hu:=Ol;rw[Zl0]at hu;obtain⟨d,hu,hd⟩:=hu;exact Zhq rfl _ x rfl b p hx (opC o) d h.range hu hd (by rw[Jx];rfl) hK
theorem Wl{c:Array Value}(hc:c.size=23)(hx:a.eval x=.pointer (some ⟨w.heap.size,0,none⟩))(hy:a.eval y=opV o)(hnv:o.nv.oneCell'=true)(hK:wpList Tryz.prog ops Q rest (a.put dst undef) (w.alloc (opO o))) :
 wpList Tryz.prog ops Q ({dst:=dst,op:=.store 55 x y,type:=t,pos:=pos,after:=af,guard:=none}::rest) a (w.alloc (.cells c 55)):=by
 refine Zip rfl fun _ hK'=>?_
 unfold Oper.wp execOp;rw[Ty]at hy;have hall:(opC o).toArray.all (·.oneCell')=true:=by
  have e:∀ v∈opC o,v.oneCell'=true:=by
   intro v hv;simp only[opC,Zg,Zh,Zkl]at hv;rcases hv with rfl|rfl|rfl|rfl|rfl|rfl|rfl|rfl|rfl|rfl|rfl|rfl|rfl|rfl|rfl|rfl|rfl|rfl|rfl|rfl|rfl|rfl|rfl<;>first|exact hnv|rfl
  simpa using e
 have hrun:=run_storeAt_new (P:=Tryz.prog) w 55 c (opC o).toArray (by rw[Jx];rfl) hc hall;simp only[hx,hy,Zk1,hrun,Zkw,Zk2];exact hK' _ _ hK
end
def Zyr(i:Nat):Value:=.int .i64 (i:Int)
def Vg(w:World)(S:Nat→Prop)(v:Value)(l:List Nat):Prop:=Rd w S 1 v l.length (l.map Zyr)
theorem Me(A:Option Addr)(C:Nat)(fv:Value)(w:World):Calls Tryz.prog 135 #[.slice A 0 C,.int .i64 0,.int .i64 0,fv] w fun e w'=>e=.returned (.tuple #[])∧w=w':=by
 go_enter Tryz.func135,Tryz.ntmps135;go_wp2_with fail;go_loopw [8] (fun v wr=>v=.int .i64 1∧w=wr) (fun _ _=>0);case atStart=>exact⟨rfl,rfl⟩
 obtain⟨rfl,rfl⟩:=hrel;go_wp2_with fail;go_end0;exact⟨rfl,rfl⟩
theorem Zzo(A:Option Addr)(C:Nat)(fv:Value)(w:World):Calls Tryz.prog 99 #[.slice A 0 C,.int .i64 0,fv] w fun e w'=>e=.returned (.tuple #[])∧w=w':=by
 go_enter Tryz.func99,Tryz.ntmps99;go_wp2_with fail;go_loopw [7,8] (fun u v wr=>u=.int .i64 0∧v=.int .i64 20∧w=wr) (fun _ _ _=>0);case atStart=>exact⟨rfl,rfl,rfl⟩
 obtain⟨rfl,rfl,rfl⟩:=hrel;go_wp2_with (go_at_call 135;refine(Me _ _ _ _).mono ?_;rintro e w' ⟨rfl,rfl⟩);go_loopw [6] (fun v wr=>v=.int .i64 20∧w=wr) (fun _ _=>0);case atStart=>exact⟨rfl,rfl⟩
 obtain⟨rfl,rfl⟩:=hrel;go_wp2_with fail;go_end0;exact⟨rfl,rfl⟩
theorem Zsy(A:Option Addr)(C:Nat)(fv:Value)(w:World):Calls Tryz.prog 66 #[.slice A 0 C,fv] w fun e w'=>e=.returned (.tuple #[])∧w=w':=by
 go_enter Tryz.func66,Tryz.ntmps66;go_wp2_with (go_at_call 99;refine(Zzo _ _ _ _).mono ?_;rintro e w' ⟨rfl,rfl⟩);go_end0;exact⟨rfl,rfl⟩
def Zv8{n:Nat}(i:Fin n):Value:=Zyr i.val
theorem Zrc{n:Nat}:OneCell (Zv8 (n:=n)):=fun _=>rfl
theorem Zp0{α:Type}[Inhabited α]{enc:α→Value}{w0 W:World}{blk off:Nat}{d:Array α}(h:SW enc w0 blk off d W):Chg (· = blk) w0 W:=by
 obtain⟨m,os,rfl⟩:=h;unfold sortWorld;refine⟨rfl,rfl,rfl,?_,fun k hk hne=>?_⟩
 ·show w0.heap.size≤((putRow enc (Sort.ahead w0 m) blk off d).heap++os).size;rw[Array.size_append,Sort.size_putRow];exact Nat.le_add_right _ _
 show((putRow enc (Sort.ahead w0 m) blk off d).heap++os)[k]?=_;rw[Array.getElem?_append_left (by rw[Sort.size_putRow];exact hk)];simp only[putRow,mapBlock,Sort.heap_ahead];rw[Zk9,Zlq (fun e=>hne e.symm)]
theorem Zsx{os:List Opn}{N:Nat}[Inhabited (Fin N)]{sz:Nat}{d0 d:Array (Fin N)}(h0:d0.toList.map (·.val)=Dp os os.length)(hsz:d0.size=sz)(h:Merged (fun i:Fin N=>Fj os i.val) (fun i:Fin N=>i.val) 0 sz d0 d):d.toList.map (·.val)=Cf os:=by
 obtain⟨hp,hs⟩:=h;have hds:d.size=sz:=by rw[hp.1,hsz]
 have hperm:d.toList.Perm d0.toList:=by
  have:=hp.2.2;rw[← hsz]at this;have e1:d0.extract 0 d0.size=d0:=by simp
  have e2:d.extract 0 d0.size=d:=by rw[hsz,← hds];simp
  rw[e1,e2]at this;exact this
 have hnd:(d.toList.map (·.val)).Nodup:=(hperm.map _).nodup_iff.2 (by rw[h0];exact(Py os os.length).imp fun h=>Ziq h);refine Zy6.unique ⟨?_,fun i=>?_⟩ (Pj os)
 ·rw[Zju];intro i j hi hj hij;simp only[Zq,Zih]at hi hj;have h1:=hs i j (Zlf _) hij (by omega);have hne:(d.toList.map (·.val))[i]'(by simpa using hi)≠(d.toList.map (·.val))[j]'(by simpa using hj):=by
   intro e;have:=(List.getElem_inj hnd).1 e;omega
  simp only[List.getElem_map,Array.getElem_toList]at hne⊢;rw[Zio d i hi,Zio d j hj]at h1;simp only[lxK,lxO,Zl1,Zl5]at h1⊢;omega
 rw[(hperm.map _).mem_iff,h0,Af];exact⟨fun h=>h.2,fun h=>⟨Pz h,h⟩⟩
def Zrs(os:List Opn)(w:World)(e:Ending)(w':World):Prop:=∃ v,e=.returned v∧Vg w' (fun k=>w.heap.size≤k) v (Cf os)∧Ext w w'
theorem Vy.mono{w:World}{S T:Nat→Prop}{v:Value}{l:List Opn}(h:Vy w S v l)(hST:∀ k,S k→k<w.heap.size→T k):Vy w T v l:=⟨Rd.mono h.1 hST,fun p hp=>Rd.mono (h.2 p hp) hST⟩
theorem Tu{S:Nat→Prop}(v:Value)(os:List Opn)(w:World)(ho:Vy w S v os)(hn:os.length≤1000000000000) :
 Calls Tryz.prog 28 #[v] w (Zrs os w):=by
 obtain⟨i0,hi0,hz0,hz1,hz2⟩:=Zll Su;obtain⟨A,C,rfl⟩:=ho.shape;obtain⟨n,hnn⟩:=gnX (os.length);have Hnn:=Ya hnn;have Ho:=Ya (ho.mono (T:=fun k=>k<w.heap.size) fun k _ hk=>hk);rw[hnn]at hn⊢;clear hnn ho;go_enter Tryz.func28,Tryz.ntmps28;go_wp2_with fail;go_loopw [3,8] (fun l o wr=>∃ i:Nat,i≤n∧o=.int .i64 (i:Int)∧wr.ownsRow (w.heap.size+1) 3 1 l (Dp os i).length ((Dp os i).map Zyr)∧Ext w wr∧wr.cell? ⟨w.heap.size,0,none⟩=some (.slice A n C)∧w.heap.size<wr.heap.size) (fun _ o _=>n-(intOf o).toNat);case atStart=>exact⟨0,by omega,rfl,Zkg _ _ _ _,(Yn w).alloc _,by go_simp,by simp⟩
 obtain⟨i,hi,rfl,hrow,hx,hB,hBl⟩:=hrel;by_cases hin:i<n
 ·have hd:decide ((i:Int)<(n:Int))=true:=by simp;omega
  obtain⟨o,hoi⟩:∃ o,os[i]?=some o:=⟨os[i]'(by rw[Hnn.o];exact hin),by rw[Zz]⟩;obtain⟨g,p,c,hv,hc1,hc2,_,hA,hN⟩:=(Ho.o.ext hx).get hoi;simp only[Yg]at hv;obtain⟨rfl,_,rfl⟩:=hv;rw[Hnn.o]at hc1;have hC:C≤9223372036854775807:=by unfold maxLen at hc2;omega
  have HA:=Ya hA;have hN2:=hN.shape;obtain⟨nA,nC,hnv⟩:=hN2;have hone:o.nv.oneCell'=true:=by rw[hnv];rfl
  have hNew:=Un wr o;have hNd:=hNew.dec;have hx1:Ext w (wr.alloc (opO o)):=hx.alloc _;have hrow1:=hrow.alloc (opO o);have hB1:(wr.alloc (opO o)).cell? ⟨w.heap.size,0,none⟩=some (.slice (some ⟨g,p,none⟩) n C):=(((Yn wr).alloc (opO o)).cell (p:=⟨w.heap.size,0,none⟩) hBl).trans hB;have hBl1:w.heap.size<(wr.alloc (opO o)).heap.size:=by simp;omega
  obtain⟨la,lc,rfl⟩:=Xf hrow;have hlen:=Px os i;clear hN hnv hA;by_cases hdec:o.dec = -1
  ·have hdq:(o.dec != -1)=false:=by simp[hdec]
   have Hnx:=Ya (show Dp os (i+1)=Dp os i by rw[Re,Zlq (by simp[Zv2,Ai hoi,hdec])]);have Hoi:=Ya hoi;clear hoi hdec;go_wp2_with (first|(refine Xh HA.o rfl ?_)|(refine Wl rfl rfl rfl hone ?_));go_roundw;case rel=>exact⟨i+1,by omega,by go_num,by rw[Hnx.o];exact hrow1,hx1,hB1,hBl1⟩
   simp[intOf];omega
  have hdq:(o.dec != -1)=true:=by simp[hdec]
  have Hnx:=Ya (show Dp os (i+1)=Dp os i++[i] by rw[Re,Zlm (by simp[Zv2,Ai hoi,hdec])]);have Hoi:=Ya hoi;clear hoi hdec;go_wp2_with (first|(refine Xh HA.o rfl ?_)|(refine Wl rfl rfl rfl hone ?_)|(at_builtin;refine wpList_append_own _ rfl _ _ 22 rfl (w.heap.size+1) 3 i0 _ 1 8 Td hi0 hz0 hz1 hz2 rfl (by decide) _ _ _ rfl (hrow1.alloc _) ⟨wr.heap.size+1,0,none⟩ 1 1 [Zyr i] rfl rfl ?c1 ?c2 ?c3 ?c4 ?c5 ?_;rotate_left 5;intro v' w3 hown' hg3 hnil3;go_frame));go_roundw;case rel =>
   refine⟨i+1,by omega,by go_num,?_,(hx1.alloc _).grown hg3 (fun k hk=>by have:=(hrow1.lt k hk).1;omega),?_,?_⟩
   ·rw[Hnx.o];simpa[Zyr]using hown'
   ·have hne:∀ k,(Value.slice la (Dp os i).length lc).ownBlock=some k→w.heap.size≠k:=fun k hk=>by have:=(hrow1.lt k hk).1;omega
    rw[Zkb (a:=⟨w.heap.size,0,none⟩) (hg3.block w.heap.size (by simp;omega) (fun e=>hne _ e.symm rfl))];exact(((Yn (wr.alloc (opO o))).alloc _).cell (p:=⟨w.heap.size,0,none⟩) hBl1).trans hB1
   have:=hg3.size;simp at this;omega
  case measure=>simp[intOf];omega
  case c1 =>
   intro j u hj;have:=cell_one_new (wr.alloc (opO o)) (Zyr i) 3 j u hj;rw[show(wr.alloc (opO o)).heap.size=wr.heap.size+1 by simp]at this;exact this
  case c2=>simp[Value.oneCell',Zyr]
  case c3=>unfold maxLen;omega
  case c4=>omega
  case c5=>simp;omega
 have hd:decide ((i:Int)<(n:Int))=false:=by simp;omega
 obtain rfl:i=n:=by omega
 obtain⟨la,lc,rfl⟩:=Xf hrow;have hlen:=Px os i;by_cases h0:(Dp os i).length=0
 ·have h1:Cf os=[]:=by
   have:=Pj os;have hm:∀ j,j ∉ Cf os:=fun j hj=>by
    have h2:=(this.mem j).1 hj;have h3:j∈Dp os i:=Af.2 ⟨by rw[← Hnn.o];exact Pz h2,h2⟩;rw[Zl6 h0]at h3;simp at h3
   exact Zk3.2 hm
  have H1:=Ya h1;have Hrow:=Ya (Rd.of_own (S:=fun k=>w.heap.size≤k) hrow fun k hk=>by have:=(hrow.lt k hk).1;omega);have H0:=Ya h0;rw[h0];clear h0 h1 hrow;go_wp2_with (go_at_call 66;refine(Zsy _ _ _ _).mono ?_;rintro e w' ⟨rfl,rfl⟩);go_ret;refine⟨_,rfl,?_,hx⟩;have hr:=Hrow.o;rw[H0.o,Zl6 H0.o]at hr;unfold Vg;rw[H1.o];exact hr
 -- the row
 obtain⟨m,hm⟩:=gnX ((Dp os i).length);have hiN:0<i:=by omega
 haveI:Inhabited (Fin i):=⟨⟨0,hiN⟩⟩;have hlt:∀ j∈Dp os i,j<i:=fun j hj=>(Af.1 hj).1
 obtain⟨d0,hd0⟩:∃ d0:Array (Fin i),d0.toList.map (·.val)=Dp os i:=by
  refine⟨((Dp os i).attach.map fun x=>(⟨x.1,hlt x.1 x.2⟩:Fin i)).toArray,?_⟩;rw[List.toList_toArray,Zjy];exact List.attach_map_subtype_val _
 have hsz:d0.size=m:=by rw[← hm,← hd0];simp
 rcases hrow.2 with⟨hv,hz⟩ | ⟨g,cap,cur,hv,hbase,hb,hnc,hcm,hcs,htk⟩
 ·exact absurd hz h0
 simp only[Yg]at hv;obtain⟨rfl,_,rfl⟩:=hv;have hcell:∀ j,j<d0.size→wr.cell? ⟨g,0+j,none⟩=some (Zv8 d0[j]!)∧wr.frozen? ⟨g,0+j,none⟩=false:=by
  intro j hj;have e1:cur[j]?=some (Zv8 d0[j]!):=by
   have h1:(cur.toList.take ((Dp os i).length*1))[j]?=some (Zv8 d0[j]!):=by
    rw[htk,Zn,← hd0,Zn,Array.getElem?_toList,Zio d0 j hj,Zlk hj];rfl
   rw[Yy,Zlm (by omega)]at h1;simpa using h1
  rw[Zle];exact⟨(Zhg wr g j cur _ _ hb).trans e1,by simp[World.frozen?,hb]⟩
 have R:Row1 Zv8 wr g 0 d0:=⟨Zrc,hcell,(Zln.1 hb).1⟩;have hBne:w.heap.size≠g:=by omega
 have ho2:=Ho.o.ext hx;have hcmp:CmpLays1 Tryz.prog 67 #[.pointer (some ⟨w.heap.size,0,none⟩)] Zv8 (cfK fun j:Fin i=>Fj os j.val) g 0 m wr:=by
  intro q obs dk hdk x y;have hc:=Zp0 (enc:=Zv8) (w0:=wr) (blk:=g) (off:=0) (d:=dk) (W:=sortWorld Zv8 wr g 0 q dk obs) ⟨q,obs,rfl⟩;obtain⟨a,ha⟩:=geX (l:=os) (i:=x.val) (by rw[Hnn.o];exact x.isLt);obtain⟨b,hb⟩:=geX (l:=os) (i:=y.val) (by rw[Hnn.o];exact y.isLt);have ho3:=ho2.chg hc (fun k hk e=>by omega);have hB3:=(hc.cell (p:=⟨w.heap.size,0,none⟩) hBl hBne).trans hB;have hB4:∀ N,os.length=N→(sortWorld Zv8 wr g 0 q dk obs).cell? ⟨w.heap.size,0,none⟩=some (.slice A N C)→(sortWorld Zv8 wr g 0 q dk obs).cell? ⟨w.heap.size,0,none⟩=some (.slice A os.length C):=fun N e h=>by rw[e];exact h
  have:=Ig w.heap.size x.val y.val A C os a b _ (hB4 _ Hnn.o hB3) ho3 ha hb;refine Zk6 this ?_;rintro e w' ⟨rfl,q',os',hw'⟩;refine⟨?_,q',os',hw'⟩;rw[← Ai ha,← Ai hb];rfl
 have hso:=My Zv8 (fun j:Fin i=>Fj os j.val) (fun j:Fin i=>j.val) m g 0 lc #[.pointer (some ⟨w.heap.size,0,none⟩)] d0 wr hcmp R hsz (by omega) (fun p q hpq hq=>by
  have hl:=Py os i;rw[← hd0,List.pairwise_map]at hl;have:=Zju.1 hl p q (by simp;omega) (by simp;omega) hpq;rw[Zio d0 p (by omega),Zio d0 q (by omega)];simpa using this)
 have HS:=Ya hso;have Hd0:=Ya hd0;have Hm:=Ya hm;have HC:=Ya hcell;have HR:=Ya R;rw[hm];clear hso hd0 hm hcell R hcmp hrow hb htk hlt;go_wp2_with fail;refine Zk6 HS.o ?_;rintro e w5 ⟨rfl,d,hSW,hds,hM⟩;have hres:=Zsx (os:=os) (by rw[Hd0.o,Hnn.o]) hsz hM;have hch:=Zp0 hSW;have hx5:Ext w w5:=hx.chg_new hch (fun k hk=>by omega);have hh:=hSW.holds HR.o.hblk HC.o (by omega);have Hres:=Ya hres;have Hx5:=Ya hx5;have Hh:=Ya hh;have hsz5:=hch.size;clear hres hx5 hh hch hSW hM;go_wp2_with fail;go_ret;refine⟨_,rfl,?_,Hx5.o⟩;unfold Vg;have hL:(Cf os).length=m:=by rw[← Hres.o];simp[hds]
 rw[hL];refine⟨by simp[hL],_,_,rfl,by rw[← Hm.o];exact hnc,hcm,fun _=>⟨g,0,rfl,by omega,Zlr HR.o.hblk hsz5,fun j u hu=>?_⟩⟩;have hj:j<d.size:=by
  have:=(Zr.1 hu).1;simp at this;omega
 have:=(Hh.o j hj).1;rw[this,← hu,← Hres.o,Zjy,Zn,Array.getElem?_toList,Zlk hj,Zio d j hj];rfl
end
open Go.Maps (Keyed int_keyed)
open Go.ChangeMaps Go.MapKept Go.WideMaps
theorem Zp1:Tryz.prog.underlying 172=some (.map 3 4):=by kernel_rfl
theorem Zp2:Tryz.prog.underlying 173=some (.map 3 55):=by kernel_rfl
theorem Mo:Tryz.prog.underlying 3=some (.int .i64):=by kernel_rfl
theorem Po:Keyed Tryz.prog 3:=int_keyed Mo
def Zp6:Opn:=⟨0,0,0,.slice none 0 0,[],⟨0,0,⟨#[]⟩,default,0⟩,0,0,0,⟨0,0,⟨#[]⟩,default,0⟩⟩
theorem Zn8(w:World):(zeroValue 55).run Tryz.prog w=.ok (opV Zp6) w:=by kernel_rfl
theorem Zs1(w:World):(zeroValue 4).run Tryz.prog w=.ok (.bool false) w:=by kernel_rfl
theorem wf_i64{k:Int}(h:I64 k):(Lit.int .i64 k).wf=true:=by
 unfold I64 at h;simp[Lit.wf,IntKind.min,IntKind.max,IntKind.signed,IntKind.bits];omega
open Classical in
noncomputable def opR(v:Value):Option (DataW Unit×List MemPlace):=if h:∃ o,v=opV o∧o.nv.oneCell'=true then some (.lit (.int .i64 h.choose.ans),[])else none
theorem Znr{a b:Opn}(h:opV a=opV b):a.ans=b.ans:=by
 unfold opV at h;simp only[Value.agg.injEq,Array.mk.injEq,Zhu,Value.int.injEq,Zlc]at h;exact h.2.2.2.2.2.2.2.2.2.2.2.2.2.2.1
theorem Zmf(o:Opn)(h1:o.nv.oneCell'=true):opR (opV o)=some (.lit (.int .i64 o.ans),[]):=by
 have h:∃ p,opV o=opV p∧p.nv.oneCell'=true:=⟨o,rfl,h1⟩;unfold opR;rw[Zhb h,← Znr h.choose_spec.1]
theorem Zns{v:Value}{z:DataW Unit×List MemPlace}(h:opR v=some z):∃ o,v=opV o∧o.nv.oneCell'=true∧z=(.lit (.int .i64 o.ans),[]):=by
 unfold opR at h;split at h
 ·rename_i hh;simp only[Yf]at h;exact⟨hh.choose,hh.choose_spec.1,hh.choose_spec.2,h.symm⟩
 simp at h
def Zrk:Value→Option (DataW Unit×List MemPlace)
 | .bool true=>some (.lit (.bool true),[])
 | _=>none
theorem Zvh{v:Value}{z:DataW Unit×List MemPlace}(h:Zrk v=some z):v=.bool true:=by
 unfold Zrk at h;split at h
 ·rfl
 simp at h
def Vn(w:World)(m:Nat)(ks:List Int):Prop:=∃ D,w.ownsMap Tryz.prog 3 Zrk m ks.length D∧Maps.Tidy D∧∀ k,Maps.has D (.int .i64 k)=true↔k∈ks
theorem Vn.lt{w:World}{m:Nat}{ks:List Int}(h:Vn w m ks):m<w.heap.size:=by
 obtain⟨D,h,_⟩:=h;exact h.lt
theorem Vn.keep{w w':World}{m:Nat}{ks:List Int}(h:Vn w m ks)(hk:w'.heap[m]?=w.heap[m]?):Vn w' m ks:=by
 obtain⟨D,⟨es,clock,hb,r⟩,h2⟩:=h;exact⟨D,⟨es,clock,hk.trans hb,r⟩,h2⟩
theorem Vn.chg{S:Nat→Prop}{w w':World}{m:Nat}{ks:List Int}(h:Vn w m ks)(c:Chg S w w')(hm:¬ S m):Vn w' m ks:=h.keep (c.block m h.lt hm)
theorem Vn.ext{w w':World}{m:Nat}{ks:List Int}(h:Vn w m ks)(x:Ext w w'):Vn w' m ks:=h.keep (x.block h.lt)
theorem Zul(w:World):Vn (w.alloc (.map #[] 0)) w.heap.size []:=⟨_,Zic w _ _ _,Zht,fun k=>by simp[Maps.has]⟩
theorem Vn.look{w:World}{m:Nat}{ks:List Int}(h:Vn w m ks){k:Int}(hk:I64 k):(Instr.lookup 172 (.map (some m)) (.int .i64 k) false).run Tryz.prog w=.ok (.bool (decide (k∈ks))) w:=by
 obtain⟨D,⟨es,clock,hb,F,hn,rfl⟩,_,h3⟩:=h;rcases Maps.fit_look false Po Zp1 (Zs1 w) hb F (Zis Mo (wf_i64 hk))with⟨hrun,_,hat⟩ | ⟨e0,y,_,_,hrun,hy,hat,_⟩
 ·have hno:k ∉ ks:=fun hm=>by
   have:=(h3 k).2 hm;rw[Maps.has_false_of_atKey hat]at this;simp at this
  simpa[hno]using hrun
 have hyes:k∈ks:=(h3 k).1 (Maps.has_true_of_atKey hat);rw[Zvh hy]at hrun;simpa[hyes]using hrun
theorem Zr5{w:World}{m:Nat}{ks:List Int}(h:Vn w m ks)(hl:ks.length<maxLen){k:Int}(hk:I64 k) :
 ∃ w',(Instr.mapUpdate 172 (.map (some m)) (.int .i64 k) (.bool true)).run Tryz.prog w=.ok () w'∧Vn w' m (k::ks)∧Chg (· = m) w w':=by
 obtain⟨D,h1,h2,h3⟩:=h;obtain⟨w',hrun,h4,h5⟩:=h1.update Po Zp1 hl (Zis Mo (wf_i64 hk)) (show Zrk (.bool true)=some (.lit (.bool true),[]) from rfl);refine⟨w',hrun,⟨_,h4,h2.put (by simp[WideAt.IsKeyLit]) _,fun k'=>?_⟩,(Chg.refl _ w).grown h5 fun i hi=>.inl (by simpa using hi.symm)⟩;by_cases e:k'=k
 ·subst e;rw[Maps.has_put_same h2.isMap (by simp[WideAt.IsKeyLit])];simp
 rw[Zie (by simpa using e),h3];simp[e]
def Q5(w:World)(m n:Nat)(f:Int→Option Int):Prop:=∃ D,w.ownsMap Tryz.prog 3 opR m n D∧Maps.Tidy D∧∀ k,(f k=none→Maps.has D (.int .i64 k)=false)∧∀ a,f k=some a→∀ z,D.atKey (.int .i64 k) z=.lit (.int .i64 a)
theorem Q5.lt{w:World}{m n:Nat}{f:Int→Option Int}(h:Q5 w m n f):m<w.heap.size:=by
 obtain⟨D,h,_⟩:=h;exact h.lt
theorem Q5.keep{w w':World}{m n:Nat}{f:Int→Option Int}(h:Q5 w m n f)(hk:w'.heap[m]?=w.heap[m]?):Q5 w' m n f:=by
 obtain⟨D,⟨es,clock,hb,r⟩,h2⟩:=h;exact⟨D,⟨es,clock,hk.trans hb,r⟩,h2⟩
theorem Q5.chg{S:Nat→Prop}{w w':World}{m n:Nat}{f:Int→Option Int}(h:Q5 w m n f)(c:Chg S w w')(hm:¬ S m):Q5 w' m n f:=h.keep (c.block m h.lt hm)
theorem Q5.ext{w w':World}{m n:Nat}{f:Int→Option Int}(h:Q5 w m n f)(x:Ext w w'):Q5 w' m n f:=h.keep (x.block h.lt)
theorem Zug(w:World):Q5 (w.alloc (.map #[] 0)) w.heap.size 0 (fun _=>none):=⟨_,Zic w _ _ _,Zht,fun k=>⟨fun _=>by simp[Maps.has],fun a h=>by simp at h⟩⟩
theorem Q5.look{w:World}{m n:Nat}{f:Int→Option Int}(h:Q5 w m n f){k:Int}(hk:I64 k) :
 ∃ o b,(Instr.lookup 173 (.map (some m)) (.int .i64 k) true).run Tryz.prog w=.ok (.tuple #[opV o,.bool b]) w∧o.nv.oneCell'=true∧((f k=none∧b=false)∨(f k=some o.ans∧b=true)):=by
 obtain⟨D,⟨es,clock,hb,F,hn,rfl⟩,_,h3⟩:=h;rcases Maps.fit_look true Po Zp2 (Zn8 w) hb F (Zis Mo (wf_i64 hk))with⟨hrun,_,hat⟩ | ⟨e0,y,_,_,hrun,hy,hat,_⟩
 ·refine⟨Zp6,false,by simpa using hrun,rfl,.inl ⟨?_,rfl⟩⟩;cases hf:f k with
  | none=>rfl
  | some a =>
   have:=(h3 k).2 a hf (.lit (.bool true));rw[hat]at this;simp at this
 obtain⟨o,ho,h1,hz⟩:=Zns hy;refine⟨o,true,by rw[ho]at hrun;simpa using hrun,h1,.inr ⟨?_,rfl⟩⟩;cases hf:f k with
 | none =>
  have:=(h3 k).1 hf;rw[Maps.has_true_of_atKey hat]at this;simp at this
 | some a =>
  have:=(h3 k).2 a hf (.lit (.bool true));rw[hat,hz]at this;simp at this;rw[this]
theorem Zqy{w:World}{m n:Nat}{f:Int→Option Int}(h:Q5 w m n f)(hl:n<maxLen){k:Int}(hk:I64 k){o:Opn}(h1:o.nv.oneCell'=true) :
 ∃ w',(Instr.mapUpdate 173 (.map (some m)) (.int .i64 k) (opV o)).run Tryz.prog w=.ok () w'∧Q5 w' m (n+1) (fun c=>if k=c then some o.ans else f c)∧Chg (· = m) w w':=by
 obtain⟨D,h1',h2,h3⟩:=h;obtain⟨w',hrun,h4,h5⟩:=h1'.update Po Zp2 hl (Zis Mo (wf_i64 hk)) (Zmf o h1);refine⟨w',hrun,⟨_,h4,h2.put (by simp[WideAt.IsKeyLit]) _,fun k'=>?_⟩,(Chg.refl _ w).grown h5 fun i hi=>.inl (by simpa using hi.symm)⟩;by_cases e:k=k'
 ·subst e;simp only[Zhh];refine⟨fun h=>by simp at h,fun a ha z=>?_⟩;simp only[Yf]at ha;subst ha;exact Maps.atKey_put_same h2.isMap (by simp[WideAt.IsKeyLit]) _ _
 simp only[e,Zhk];have hne:(Lit.int .i64 k')≠.int .i64 k:=by simpa using fun h=>e h.symm
 refine⟨fun h=>by rw[Zie hne];exact(h3 k').1 h,fun a ha z=>?_⟩;rw[Maps.atKey_put_other hne];exact(h3 k').2 a ha z
theorem Zxr(cl:Int)(o:Opn):(decide (o.cl<0)=true∧Vq cl o=false)∨(decide (o.cl<0)=false∧decide (cl≤o.cl)=true∧Vq cl o=false)∨(decide (o.cl<0)=false∧decide (cl≤o.cl)=false∧decide (o.begun<0)=true∧Vq cl o=false) ∨
 (decide (o.cl<0)=false∧decide (cl≤o.cl)=false∧decide (o.begun<0)=false∧(o.dec == -1)=true∧Vq cl o=(o.ans == -1)) ∨
 (decide (o.cl<0)=false∧decide (cl≤o.cl)=false∧decide (o.begun<0)=false∧(o.dec == -1)=false∧decide (o.begun<o.dec)=false∧Vq cl o=false) ∨
 (decide (o.cl<0)=false∧decide (cl≤o.cl)=false∧decide (o.begun<0)=false∧(o.dec == -1)=false∧decide (o.begun<o.dec)=true∧(o.ans == -1)=true∧Vq cl o=true) ∨
 (decide (o.cl<0)=false∧decide (cl≤o.cl)=false∧decide (o.begun<0)=false∧(o.dec == -1)=false∧decide (o.begun<o.dec)=true∧(o.ans == -1)=false∧Vq cl o=decide (o.dec<o.ans)):=by
 by_cases h1:o.cl<0
 ·exact .inl ⟨by simpa using h1,by simp[Vq,h1]⟩
 by_cases h2:cl≤o.cl
 ·exact .inr (.inl ⟨by simpa using h1,by simpa using h2,by simp[Vq,h2]⟩)
 by_cases h3:o.begun<0
 ·exact .inr (.inr (.inl ⟨by simpa using h1,by simpa using h2,by simpa using h3,by simp[Vq,h3]⟩))
 have h0:¬ (o.cl<0∨cl≤o.cl∨o.begun<0):=by omega
 by_cases h4:o.dec = -1
 ·exact .inr (.inr (.inr (.inl ⟨by simpa using h1,by simpa using h2,by simpa using h3,by simpa using h4,by unfold Vq;rw[Zlq h0,Zlm h4]⟩)))
 by_cases h5:o.begun<o.dec
 ·by_cases h6:o.ans = -1
  ·exact .inr (.inr (.inr (.inr (.inr (.inl ⟨by simpa using h1,by simpa using h2,by simpa using h3,by simpa using h4,by simpa using h5,by simpa using h6,by unfold Vq;rw[Zlq h0,Zlq h4];simp[h5,h6]⟩)))))
  exact .inr (.inr (.inr (.inr (.inr (.inr ⟨by simpa using h1,by simpa using h2,by simpa using h3,by simpa using h4,by simpa using h5,by simpa using h6,by unfold Vq;rw[Zlq h0,Zlq h4];simp[h5,h6]⟩)))))
 exact .inr (.inr (.inr (.inr (.inl ⟨by simpa using h1,by simpa using h2,by simpa using h3,by simpa using h4,by simpa using h5,by unfold Vq;rw[Zlq h0,Zlq h4];simp[h5]⟩))))
theorem cons_any(cl cp:Int)(o:Opn)(w:World):Calls Tryz.prog 91 #[.agg #[.int .i64 cl,.int .i64 cp],opV o] w fun e w'=>e=.returned (.bool (Vq cl o))∧Ext w w':=by
 rcases Zxr cl o with⟨d1,hc⟩ | ⟨d1,d2,hc⟩ | ⟨d1,d2,d3,hc⟩ | ⟨d1,d2,d3,d4,hc⟩ | ⟨d1,d2,d3,d4,d5,hc⟩ | ⟨d1,d2,d3,d4,d5,d6,hc⟩ | ⟨d1,d2,d3,d4,d5,d6,hc⟩<;>(
  rw[hc];clear hc;unfold opV;go_enter Tryz.func91,Tryz.ntmps91;go_wp2_with fail;go_ret;exact⟨rfl,((Yn w).alloc _).alloc _⟩)
theorem Ml{ops:Array Oper}{rest:List Oper}{dst:Option Nat}{x y:Operand}{t:TypeId}{pos:String}{af:Array Edge}{a:Act}{w:World}{Q:Exit→Act→World→Prop}{o:Opn}{c:Array Value}{s:Nat}(hs:w.heap.size=s)(hc:c.size=23)(hx:a.eval x=.pointer (some ⟨s,0,none⟩))(hy:a.eval y=opV o)(hnv:o.nv.oneCell'=true)(hK:wpList Tryz.prog ops Q rest (a.put dst undef) (w.alloc (opO o))) :
 wpList Tryz.prog ops Q ({dst:=dst,op:=.store 55 x y,type:=t,pos:=pos,after:=af,guard:=none}::rest) a (w.alloc (.cells c 55)):=by
 subst hs;exact Wl hc hx hy hnv hK
theorem Kc.drewO{w:World}{b p:Nat}{o:Opn}(h:Kc w b p o):Kc w.drew b p o:=h
structure Opn.fits(o:Opn):Prop where
 cl:I64 o.cl
 dec:I64 o.dec
structure Zoz(w:World)(fb m1 m2:Nat)(cl cp:Int)(os:List Opn)(i:Nat)(wr:World):Prop where
 ints:∃ ks,Vn wr m1 ks∧ks.length=i∧∀ k,k∈ks↔seenD os i k=true
 last:Q5 wr m2 i (Jh os i)
 ext:Ext w wr
 c0:wr.cell? ⟨fb,0,none⟩=some (.int .i64 cl)
 c1:wr.cell? ⟨fb,1,none⟩=some (.int .i64 cp)
 lo:w.heap.size≤fb∧w.heap.size≤m1∧w.heap.size≤m2∧fb≠m1∧fb≠m2∧m1≠m2∧fb<wr.heap.size
 oks:∀ j,j<i→Di cl os j=true
theorem Zoz.grow{w:World}{fb m1 m2:Nat}{cl cp:Int}{os:List Opn}{i:Nat}{wr w':World}(h:Zoz w fb m1 m2 cl cp os i wr)(x:Ext wr w'):Zoz w fb m1 m2 cl cp os i w':=by
 obtain⟨ks,h1,h2,h3⟩:=h.ints;exact⟨⟨ks,h1.ext x,h2,h3⟩,h.last.ext x,h.ext.trans x,(x.cell (p:=⟨fb,0,none⟩) h.lo.2.2.2.2.2.2).trans h.c0,(x.cell (p:=⟨fb,1,none⟩) h.lo.2.2.2.2.2.2).trans h.c1,⟨h.lo.1,h.lo.2.1,h.lo.2.2.1,h.lo.2.2.2.1,h.lo.2.2.2.2.1,h.lo.2.2.2.2.2.1,Zlr h.lo.2.2.2.2.2.2 x.size⟩,h.oks⟩
theorem Zvb{S:Nat→Prop}(cl cp:Int)(v:Value)(os:List Opn)(w:World)(ho:Vy w S v os)(hf:∀ o∈os,o.fits) :
 Calls Tryz.prog 56 #[.agg #[.int .i64 cl,.int .i64 cp],v] w fun e w'=>e=.returned (.tuple #[.int .i64 (Vl cl cp os).1,.int .i64 (Vl cl cp os).2])∧Ext w w':=by
 obtain⟨A,C,rfl⟩:=ho.shape;have hmm:=@run_makeMap Tryz.prog;have x0:Ext w (w.alloc (.cells #[.int .i64 cl,.int .i64 cp] 37)):=(Yn w).alloc _;have f0:(w.alloc (.cells #[.int .i64 cl,.int .i64 cp] 37)).cell? ⟨w.heap.size,0,none⟩=some (.int .i64 cl):=by go_simp
 have f1:(w.alloc (.cells #[.int .i64 cl,.int .i64 cp] 37)).cell? ⟨w.heap.size,1,none⟩=some (.int .i64 cp):=by go_simp
 have fl:w.heap.size<(w.alloc (.cells #[.int .i64 cl,.int .i64 cp] 37)).heap.size:=by simp
 obtain⟨n,hnn⟩:=gnX (os.length);have Hnn:=Ya hnn;have Ho:=Ya (ho.mono (T:=fun k=>k<w.heap.size) fun k _ hk=>hk);have Hf:=Ya hf;have X0:=Ya x0;have F0:=Ya f0;have F1:=Ya f1;have Fl:=Ya fl;rw[hnn];clear ho hf x0 f0 f1 fl hnn;rcases Aj cl cp with hc|hc
 ·have HR:=Ya (show Vl cl cp os=(0,3) by unfold Vl;rw[hc];rfl);go_enter Tryz.func56,Tryz.ntmps56;go_wp2_with fail;refine(Ae cl cp _).mono ?_;rintro x w1 (⟨_,rfl,hx1⟩ | ⟨h0,_⟩)
  ·have Hx1:=Ya (X0.o.trans hx1);clear hx1;go_wp2_with fail;go_ret2;rw[HR.o];exact⟨rfl,Hx1.o⟩
  omega
 have Hc:=Ya hc;by_cases hn4:4096<n
 ·have hd4:decide ((4096:Int)<(n:Int))=true:=by simp;omega
  have HR:=Ya (show Vl cl cp os=(0,7) by unfold Vl;rw[Zlq (by omega),Zlm (by rw[Hnn.o];exact hn4)]);go_enter Tryz.func56,Tryz.ntmps56;go_wp2_with fail;refine(Ae cl cp _).mono ?_;rintro x w1 (⟨h0,_⟩ | ⟨_,b,m,rfl,_,_,_,hx1⟩)
  ·omega
  have Hx1:=Ya (X0.o.trans hx1);clear hx1;go_wp2_with fail;go_ret2;rw[HR.o];exact⟨rfl,Hx1.o⟩
 have hd4:decide ((4096:Int)<(n:Int))=false:=by simp;omega
 go_enter Tryz.func56,Tryz.ntmps56;go_wp2_with fail;refine(Ae cl cp _).mono ?_;rintro x w1 (⟨h0,_⟩ | ⟨_,b,m,rfl,_,_,_,hx1⟩)
 ·omega
 have f0:=(hx1.cell (p:=⟨w.heap.size,0,none⟩) Fl.o).trans F0.o;have f1:=(hx1.cell (p:=⟨w.heap.size,1,none⟩) Fl.o).trans F1.o;have fl:=Zlr Fl.o hx1.size;have Hx1:=Ya (X0.o.trans hx1);clear hx1 hc hd4;have hI:Zoz w w.heap.size w1.heap.size (w1.heap.size+1) cl cp os 0 ((w1.alloc (.map #[] 0)).alloc (.map #[] 0)):=by
  have y1:Ext w1 ((w1.alloc (.map #[] 0)).alloc (.map #[] 0)):=((Yn w1).alloc _).alloc _;refine⟨⟨[],(Zul w1).ext ((Yn _).alloc _),rfl,fun k=>by simp[seenD]⟩,?_,Hx1.o.trans y1,(y1.cell (p:=⟨w.heap.size,0,none⟩) fl).trans f0,(y1.cell (p:=⟨w.heap.size,1,none⟩) fl).trans f1,⟨Yp _,Hx1.o.size,by have:=Hx1.o.size;omega,by omega,by omega,by omega,by simp;omega⟩,fun j hj=>by omega⟩;have:=Zug (w1.alloc (.map #[] 0));rw[show(w1.alloc (.map #[] 0)).heap.size=w1.heap.size+1 by simp]at this;exact this
 have HI:=Ya hI;clear hI f0 f1 fl;go_upto_region 8 with fail;obtain⟨fb,hfb⟩:=gnX (w.heap.size);obtain⟨m1,hm1⟩:=gnX (w1.heap.size);obtain⟨wA,hwA⟩:=gnX ((w1.alloc (.map #[] 0)).alloc (.map #[] 0));have hI:=HI.o;rw[hwA]at hI⊢;have hI2:Zoz w fb m1 (m1+1) cl cp os 0 wA:=by rw[← hfb,← hm1];exact hI
 simp only[hm1,hfb];have HI2:=Ya hI2;clear hI hI2 HI hwA hm1 hfb Hx1 X0 F0 F1 Fl;go_wp2_with fail;go_loopw [29] (fun o wr=>∃ i:Nat,i≤n∧o=.int .i64 (i:Int)∧Zoz w fb m1 (m1+1) cl cp os i wr) (fun o _=>n-(intOf o).toNat);case atStart=>exact⟨0,by omega,rfl,HI2.o⟩
 obtain⟨i,hi,rfl,hI⟩:=hrel;have HI:=Ya hI;clear hI HI2;by_cases hin:i<n
 ·have hd:decide ((i:Int)<(n:Int))=true:=by simp;omega
  obtain⟨o,hoi⟩:∃ o,os[i]?=some o:=⟨os[i]'(by rw[Hnn.o];exact hin),by rw[Zz]⟩;obtain⟨g,p,c,hv,hc1,hc2,_,hA,hN⟩:=(Ho.o.ext HI.o.ext).get hoi;simp only[Yg]at hv;obtain⟨rfl,_,rfl⟩:=hv;rw[Hnn.o]at hc1;have hC:C≤9223372036854775807:=by unfold maxLen at hc2;omega
  obtain⟨nA,nC,hnv⟩:=hN.shape;have hone:o.nv.oneCell'=true:=by rw[hnv];rfl
  have hfits:=Hf.o o (Zy hoi);have HA:=Ya hA;have Hoi:=Ya hoi;have xA:Ext wr (wr.alloc (opO o)):=(Yn wr).alloc _;have hN1:=Un wr o;have hcl1:(wr.alloc (opO o)).cell? ⟨wr.heap.size,0,none⟩=some (.int .i64 o.cl):=hN1.2 0 (by omega);obtain⟨ob,b,hlook,hone2,hob⟩:=(HI.o.last.ext xA).look hfits.cl;have Hfits:=Ya hfits;have Hob:=Ya hob;clear hN hnv hA hfits hob hN1 hoi;go_upto_region 12 with(first|(refine Xh HA.o rfl ?_)|(refine Wl rfl rfl rfl hone ?_)|(refine Ml (s:=wr.heap.size+1) (by simp) rfl rfl rfl hone2 ?_));have hI1:=(HI.o.grow xA).grow ((Yn _).alloc (opO ob));have hN2:Kc ((wr.alloc (opO o)).alloc (opO ob)) wr.heap.size 0 o:=(Un wr o).ext ((Yn _).alloc _)
  have hB2:Kc ((wr.alloc (opO o)).alloc (opO ob)) (wr.heap.size+1) 0 ob:=by
   have:=Un (wr.alloc (opO o)) ob
   rwa [show(wr.alloc (opO o)).heap.size=wr.heap.size+1 by simp]at this
  have hnew:w.heap.size≤wr.heap.size:=HI.o.ext.size;have hfar:m1<wr.heap.size∧m1+1<wr.heap.size:=by
   obtain⟨ks,h1,_⟩:=HI.o.ints;exact⟨h1.lt,HI.o.last.lt⟩
  obtain⟨W,hW⟩:=gnX ((wr.alloc (opO o)).alloc (opO ob));obtain⟨e,he⟩:=gnX (wr.heap.size);rw[hW]at hI1 hN2 hB2⊢;rw[he]at hN2 hB2 hnew hfar;simp only[he];have c0:=hI1.c0;have c1:=hI1.c1;have HI1:=Ya hI1;have HN2:=Ya hN2;have HB2:=Ya hB2;clear hI1 hN2 hB2 xA hcl1 hlook hW he HI;go_wp2_with (refine Xh HN2.o rfl ?_);refine(cons_any cl cp o _).mono ?_;rintro x w2 ⟨rfl,hx2⟩;have hI2:=HI1.o.grow hx2;have hN3:=HN2.o.ext hx2;have hB3:=HB2.o.ext hx2;have HI2:=Ya hI2;have HN3:=Ya hN3;have HB3:=Ya hB3;clear hx2 HI1 HN2 HB2 c0 c1 hI2 hN3 hB3;have bad:Di cl os i=false→Yb (Vl cl cp os=((i:Int),4)):=fun h=>Nq Hc.o (by rw[Hnn.o];exact hn4) (by rw[Hnn.o];exact hin) h HI2.o.oks
  have BAD:=Ya bad;clear bad;cases hcb:Vq cl o with
  | false =>
   have HR:=BAD.o (by simp[Di,Hoi.o,hcb]);go_wp2_with fail;go_ret2;rw[HR.o];exact⟨rfl,HI2.o.ext⟩
  | true =>
   have hw13:=HI2.o.ext;go_upto_region 13 with fail;go_cut [41] (fun v wx=>v=.bool (Il os i o)∧wx=w2.drew);case first =>
    have hbg:=HN3.o.begun;by_cases h0:0<i
    ·obtain⟨k,hk1,hk2⟩:∃ k,k+1≤i∧i≤k+1:=⟨i-1,by omega,by omega⟩;obtain⟨q,hq⟩:=geX (l:=os) (i:=k) (by rw[Hnn.o];omega);obtain⟨g',p',c',hv',_,_,_,hQ,_⟩:=(Ho.o.ext hw13).get hq;simp only[Yg,Yf,Zlh,Zky,Zlc]at hv';obtain⟨⟨rfl,rfl⟩,_⟩:=hv';have hqb:=hQ.begun;have rk:(i:Int)-1=(k:Int):=by omega
     have wk:IntKind.i64.wrap (k:Int)=(k:Int):=by rw[Yr _ (by omega)]
     have hz:(0:Int)<(i:Int):=by omega
     have q0:(0:Int)≤(k:Int):=by omega
     have q1:(k:Int)<(n:Int):=by omega
     have hB:Il os i o=decide (o.begun≤q.begun):=by
      unfold Il;rw[show i-1=k by omega,hq];simp[h0]
     have HB:=Ya hB;clear hB hQ hq hk1 hk2;go_wp2_with fail;go_region;go_wp2_with fail;go_meet;exact⟨by rw[HB.o],rfl⟩
    have hz:¬ (0:Int)<(i:Int):=by omega
    have hB:Il os i o=false:=by
     unfold Il;split
     ·simp[h0]
     rfl
    have HB:=Ya hB;clear hB;go_wp2_with fail;go_region;go_wp2_with fail;go_meet;exact⟨by rw[HB.o],rfl⟩
   obtain⟨rfl,rfl⟩:=hcut;cases hbb:Il os i o with
   | true =>
    have HR:=BAD.o (by simp[Di,Hoi.o,hbb]);go_wp2_with fail;go_ret2;rw[HR.o];exact⟨rfl,HI2.o.ext.drew⟩
   | false =>
    obtain⟨ks,hks,hkl,hkm⟩:=HI2.o.ints;have hdc:=HN3.o.dec;have hbg:=HN3.o.begun;have hba:=HB3.o.ans;have hclk:w2.drew.cell? ⟨e,0,none⟩=some (.int .i64 o.cl):=HN3.o.2 0 (by omega);have hl1:=Vn.look (w:=w2.drew) (m:=m1) (ks:=ks) hks Hfits.o.dec;have HKS:=Ya hks;have HKM:=Ya hkm;clear hks hkm;by_cases hsd:(o.dec != -1&&seenD os i o.dec)=true
    ·have HR:=BAD.o (by simp only[Di,Hoi.o,hsd];simp);simp only[Zl7]at hsd;obtain⟨hs1,hs2⟩:=hsd;have hin2:decide (o.dec∈ks)=true:=by simpa using(HKM.o o.dec).2 hs2
     rw[hin2]at hl1;clear hs2 hin2;go_wp2_with fail;go_ret2;rw[HR.o];exact⟨rfl,HI2.o.ext.drew⟩
    have hsd':(o.dec != -1&&seenD os i o.dec)=false:=by simpa using hsd
    have hsel:(o.dec != -1)=false∨((o.dec != -1)=true∧decide (o.dec∈ks)=false):=by
     cases hq:(o.dec != -1)with
     | false=>exact .inl rfl
     | true =>
      rw[hq,Bool.true_and]at hsd';refine .inr ⟨rfl,?_⟩;have:¬ o.dec∈ks:=fun hm=>by rw[(HKM.o o.dec).1 hm]at hsd';simp at hsd'
      simpa using this
    have HSD:=Ya hsd';clear hsd hsd';go_upto_region 14 with fail;go_cut [41] (fun v wx=>v=.bool false∧wx=w2.drew);case first =>
     rcases hsel with hs | ⟨hs,hs2⟩
     ·go_wp2_with fail;go_meet;exact⟨rfl,rfl⟩
     rw[hs2]at hl1;clear hs2;go_wp2_with fail;go_meet;exact⟨rfl,rfl⟩
    obtain⟨rfl,rfl⟩:=hcut;clear hsel hl1;go_upto_region 15 with fail;go_cut [41] (fun v wx=>v=.bool (Gp os i o)∧wx=w2.drew);case first =>
     rcases Hob.o with⟨h1,rfl⟩ | ⟨h1,rfl⟩
     ·have HL:=Ya (show Gp os i o=false by unfold Gp;rw[h1]);clear h1;go_wp2_with fail;go_meet;exact⟨by rw[HL.o],rfl⟩
     by_cases h2:ob.ans = -1
     ·have HL:=Ya (show Gp os i o=true by unfold Gp;rw[h1];simp[h2]);have h2':(ob.ans == -1)=true:=by simpa using h2
      clear h1 h2;go_wp2_with fail;go_meet;exact⟨by rw[HL.o],rfl⟩
     have HL:=Ya (show Gp os i o=decide (o.begun≤ob.ans) by unfold Gp;rw[h1];simp[h2]);have h2':(ob.ans == -1)=false:=by simpa using h2
     clear h1 h2;go_wp2_with fail;go_meet;exact⟨by rw[HL.o],rfl⟩
    obtain⟨rfl,rfl⟩:=hcut;cases hlb:Gp os i o with
    | true =>
     have HR:=BAD.o (by simp[Di,Hoi.o,hlb]);go_wp2_with fail;go_ret2;rw[HR.o];exact⟨rfl,HI2.o.ext.drew⟩
    | false =>
     have hok:Di cl os i=true:=by simp only[Di,Hoi.o,hcb,hbb,HSD.o,hlb];rfl
     obtain⟨w3,hrun3,hL3,hC3⟩:=Zqy (w:=w2.drew) HI2.o.last (by unfold maxLen;omega) Hfits.o.cl hone;have hN4:Kc w3 e 0 o:=Kc.chg (S:=(· = m1+1)) (w:=w2.drew) HN3.o hC3 (by omega);have hdc4:=hN4.dec;have hks3:Vn w3 m1 ks:=Vn.chg (w:=w2.drew) HKS.o hC3 (by omega);obtain⟨w4,hrun4,hK4,hC4⟩:=Zr5 hks3 (by rw[hkl];unfold maxLen;omega) Hfits.o.dec;have hlo:=HI2.o.lo;have hI4:Zoz w fb m1 (m1+1) cl cp os (i+1) w4:=by
      have f3:∀ k,w3.cell? ⟨fb,k,none⟩=w2.cell? ⟨fb,k,none⟩:=fun k=>hC3.cell (p:=⟨fb,k,none⟩) hlo.2.2.2.2.2.2 hlo.2.2.2.2.1
      have f4:∀ k,w4.cell? ⟨fb,k,none⟩=w3.cell? ⟨fb,k,none⟩:=fun k=>hC4.cell (p:=⟨fb,k,none⟩) (Zlr hlo.2.2.2.2.2.2 hC3.size) hlo.2.2.2.1
      refine⟨⟨o.dec::ks,hK4,by simp[hkl],fun k=>?_⟩,?_,(HI2.o.ext.drew.chg_new hC3 fun k hk=>by rw[hk];exact hlo.2.2.1).chg_new hC4 fun k hk=>by rw[hk];exact hlo.2.1,(f4 0).trans ((f3 0).trans HI2.o.c0),(f4 1).trans ((f3 1).trans HI2.o.c1),⟨hlo.1,hlo.2.1,hlo.2.2.1,hlo.2.2.2.1,hlo.2.2.2.2.1,hlo.2.2.2.2.2.1,Zlr (Zlr hlo.2.2.2.2.2.2 hC3.size) hC4.size⟩,fun j hj=>?_⟩
      ·rw[Ou os Hoi.o,Zg,HKM.o]
      ·have:=hL3.chg hC4 (by omega)
       rwa [show(fun c=>if o.cl=c then some o.ans else Jh os i c)=Jh os (i+1) from funext fun c=>(Dm os Hoi.o c).symm]at this
      by_cases ej:j=i
      ·rw[ej];exact hok
      exact HI2.o.oks j (by omega)
     have HI4:=Ya hI4;clear hI4 hK4 hC4 hks3 hL3 hC3 hN4 hok hlo;go_wp2_with (refine Xh HN3.o.drewO rfl ?_);go_roundw;case rel=>exact⟨i+1,by omega,by go_num,HI4.o⟩
     simp[intOf];omega
 have hd:decide ((i:Int)<(n:Int))=false:=by simp;omega
 have HR:=Ya (Fq Hc.o (by rw[Hnn.o];exact hn4) (fun j hj=>HI.o.oks j (by rw[Hnn.o]at hj;omega)));go_wp2_with fail;go_ret2;rw[HR.o];exact⟨rfl,HI.o.ext⟩
end Go.Proofs.YtnbclgbicnpmnaaGreat
