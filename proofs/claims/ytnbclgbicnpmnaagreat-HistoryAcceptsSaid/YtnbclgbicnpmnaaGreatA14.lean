/- Lemmas of this claim: OrdB, HChk. Conditions: as named. -/
import Derived.Deep.MidRow
import Derived.Deep.WholeRow
import Derived.Test.YtnbclgbicnpmnaaGreatA13
namespace Go.Proofs.YtnbclgbicnpmnaaGreat
open Go.RowKit Go.Sort
set_option maxHeartbeats 0
set_option maxRecDepth 100000
set_option linter.all false
section
open Go.RowKit Go.Sort Go.Shelf
theorem Ud.range{w:World}{b p:Nat}{o:Opn}(h:Ud w b p o):w.rangeAt b p (opC o):=fun j v hv=>by
 rw[h.2 j (by have:=(Zr.1 hv).1;rwa [Ko]at this),hv]
theorem Zz2:(Tryz.prog.underlying 55).map TypeDesc.isRow=some true:=by kernel_rfl
theorem Fi:(Tryz.prog.info? 55).map (·.size)=some 23:=by kernel_rfl
theorem Zuo(o:Opn):opV o=.agg (opC o).toArray:=rfl
def opO(o:Opn):Obj:=.cells (opC o).toArray 55
theorem Nl(w:World)(o:Opn):Ud (w.alloc (opO o)) w.heap.size 0 o:=by
 refine⟨by simp,fun k hk=>?_⟩;unfold opO;rw[Zlj,cell_of_row _ _ k (opC o).toArray 55 (0,0) (Zlo w _)];simp
section
variable {ops:Array Oper} {rest:List Oper} {dst:Option Nat} {x y:Operand} {t:TypeId} {pos:String} {af:Array Edge} {a:Act} {w:World} {Q:Exit→Act→World→Prop} {b p:Nat} {o:Opn}
theorem Wj(h:Ud w b p o)(hx:a.eval x=.pointer (some ⟨b,p,none⟩))(hK:wpList Tryz.prog ops Q rest (a.put dst (opV o)) w) :
 wpList Tryz.prog ops Q ({dst:=dst,op:=.load 55 x,type:=t,pos:=pos,after:=af,guard:=none}::rest) a w:=by
 have hu:=Zz2;rw[Zlk]at hu;obtain⟨d,hu,hd⟩:=hu;exact Zi1 rfl _ x rfl b p hx (opC o) d h.range hu hd (by rw[Fi];rfl) hK
theorem V9{c:Array Value}(hc:c.size=23)(hx:a.eval x=.pointer (some ⟨w.heap.size,0,none⟩))(hy:a.eval y=opV o)(hnv:o.nv.oneCell'=true)(hK:wpList Tryz.prog ops Q rest (a.put dst undef) (w.alloc (opO o))) :
 wpList Tryz.prog ops Q ({dst:=dst,op:=.store 55 x y,type:=t,pos:=pos,after:=af,guard:=none}::rest) a (w.alloc (.cells c 55)):=by
 refine Zj3 rfl fun _ hK'=>?_
 unfold Oper.wp execOp;rw[Zuo]at hy;have hall:(opC o).toArray.all (·.oneCell')=true:=by
  have e:∀ v∈opC o,v.oneCell'=true:=by
   intro v hv;simp only[opC,Zg,Zh,Zl8]at hv;rcases hv with rfl|rfl|rfl|rfl|rfl|rfl|rfl|rfl|rfl|rfl|rfl|rfl|rfl|rfl|rfl|rfl|rfl|rfl|rfl|rfl|rfl|rfl|rfl<;>first|exact hnv|rfl
  simpa using e
 have hrun:=run_storeAt_new (P:=Tryz.prog) w 55 c (opC o).toArray (by rw[Fi];rfl) hc hall;simp only[hx,hy,Zjw,hrun,Zkp,Zjv];exact hK' _ _ hK
end
def Zxu(i:Nat):Value:=.int .i64 (i:Int)
def Vi(w:World)(S:Nat→Prop)(v:Value)(l:List Nat):Prop:=Rd w S 1 v l.length (l.map Zxu)
theorem Ms(A:Option Addr)(C:Nat)(fv:Value)(w:World):Calls Tryz.prog 135 #[.slice A 0 C,.int .i64 0,.int .i64 0,fv] w fun e w'=>e=.returned (.tuple #[])∧w=w':=by
 go_enter Tryz.func135,Tryz.ntmps135;go_wp2_with fail;go_loopw [8] (fun v wr=>v=.int .i64 1∧w=wr) (fun _ _=>0);case atStart=>exact⟨rfl,rfl⟩
 obtain⟨rfl,rfl⟩:=hrel;go_wp2_with fail;go_end0;exact⟨rfl,rfl⟩
theorem I1(A:Option Addr)(C:Nat)(fv:Value)(w:World):Calls Tryz.prog 99 #[.slice A 0 C,.int .i64 0,fv] w fun e w'=>e=.returned (.tuple #[])∧w=w':=by
 go_enter Tryz.func99,Tryz.ntmps99;go_wp2_with fail;go_loopw [7,8] (fun u v wr=>u=.int .i64 0∧v=.int .i64 20∧w=wr) (fun _ _ _=>0);case atStart=>exact⟨rfl,rfl,rfl⟩
 obtain⟨rfl,rfl,rfl⟩:=hrel;go_wp2_with (go_at_call 135;refine(Ms _ _ _ _).mono ?_;rintro e w' ⟨rfl,rfl⟩);go_loopw [6] (fun v wr=>v=.int .i64 20∧w=wr) (fun _ _=>0);case atStart=>exact⟨rfl,rfl⟩
 obtain⟨rfl,rfl⟩:=hrel;go_wp2_with fail;go_end0;exact⟨rfl,rfl⟩
theorem Ztw(A:Option Addr)(C:Nat)(fv:Value)(w:World):Calls Tryz.prog 66 #[.slice A 0 C,fv] w fun e w'=>e=.returned (.tuple #[])∧w=w':=by
 go_enter Tryz.func66,Tryz.ntmps66;go_wp2_with (go_at_call 99;refine(I1 _ _ _ _).mono ?_;rintro e w' ⟨rfl,rfl⟩);go_end0;exact⟨rfl,rfl⟩
def Zvt{n:Nat}(i:Fin n):Value:=Zxu i.val
theorem Zs1{n:Nat}:OneCell (Zvt (n:=n)):=fun _=>rfl
theorem Zq5{α:Type}[Inhabited α]{enc:α→Value}{w0 W:World}{blk off:Nat}{d:Array α}(h:SW enc w0 blk off d W):Chg (· = blk) w0 W:=by
 obtain⟨m,os,rfl⟩:=h;unfold sortWorld;refine⟨rfl,rfl,rfl,?_,fun k hk hne=>?_⟩
 ·show w0.heap.size≤((putRow enc (Sort.ahead w0 m) blk off d).heap++os).size;rw[Array.size_append,Sort.size_putRow];exact Nat.le_add_right _ _
 show((putRow enc (Sort.ahead w0 m) blk off d).heap++os)[k]?=_;rw[Array.getElem?_append_left (by rw[Sort.size_putRow];exact hk)];simp only[putRow,mapBlock,Sort.heap_ahead];rw[Zkb,Zm2 (fun e=>hne e.symm)]
theorem Ztv{os:List Opn}{N:Nat}[Inhabited (Fin N)]{sz:Nat}{d0 d:Array (Fin N)}(h0:d0.toList.map (·.val)=Dt os os.length)(hsz:d0.size=sz)(h:Merged (fun i:Fin N=>J6 os i.val) (fun i:Fin N=>i.val) 0 sz d0 d):d.toList.map (·.val)=Kn os:=by
 obtain⟨hp,hs⟩:=h;have hds:d.size=sz:=by rw[hp.1,hsz]
 have hperm:d.toList.Perm d0.toList:=by
  have:=hp.2.2;rw[← hsz]at this;have e1:d0.extract 0 d0.size=d0:=by simp
  have e2:d.extract 0 d0.size=d:=by rw[hsz,← hds];simp
  rw[e1,e2]at this;exact this
 have hnd:(d.toList.map (·.val)).Nodup:=(hperm.map _).nodup_iff.2 (by rw[h0];exact(Om os os.length).imp fun h=>Zj2 h);refine Zz9.unique ⟨?_,fun i=>?_⟩ (Jq os)
 ·rw[Zl1];intro i j hi hj hij;simp only[Zq,Zjl]at hi hj;have h1:=hs i j (Zlx _) hij (by omega);have hne:(d.toList.map (·.val))[i]'(by simpa using hi)≠(d.toList.map (·.val))[j]'(by simpa using hj):=by
   intro e;have:=(List.getElem_inj hnd).1 e;omega
  simp only[Zie,Array.getElem_toList]at hne⊢;rw[Zj5 d i hi,Zj5 d j hj]at h1;simp only[lxK,lxO,Zlt,Zlu]at h1⊢;omega
 rw[(hperm.map _).mem_iff,h0,Au];exact⟨fun h=>h.2,fun h=>⟨Fr h,h⟩⟩
def Zso(os:List Opn)(w:World)(e:Ending)(w':World):Prop:=∃ v,e=.returned v∧Vi w' (fun k=>w.heap.size≤k) v (Kn os)∧Ext w w'
theorem V5.mono{w:World}{S T:Nat→Prop}{v:Value}{l:List Opn}(h:V5 w S v l)(hST:∀ k,S k→k<w.heap.size→T k):V5 w T v l:=⟨Rd.mono h.1 hST,fun p hp=>Rd.mono (h.2 p hp) hST⟩
theorem Lw{S:Nat→Prop}(v:Value)(os:List Opn)(w:World)(ho:V5 w S v os)(hn:os.length≤1000000000000) :
 Calls Tryz.prog 28 #[v] w (Zso os w):=by
 obtain⟨i0,hi0,hz0,hz1,hz2⟩:=Zm7 Ry;obtain⟨A,C,rfl⟩:=ho.shape;obtain⟨n,hnn⟩:=gnX (os.length);have Hnn:=Y4 hnn;have Ho:=Y4 (ho.mono (T:=fun k=>k<w.heap.size) fun k _ hk=>hk);rw[hnn]at hn⊢;clear hnn ho;go_enter Tryz.func28,Tryz.ntmps28;go_wp2_with fail;go_loopw [3,8] (fun l o wr=>∃ i:Nat,i≤n∧o=.int .i64 (i:Int)∧wr.ownsRow (w.heap.size+1) 3 1 l (Dt os i).length ((Dt os i).map Zxu)∧Ext w wr∧wr.cell? ⟨w.heap.size,0,none⟩=some (.slice A n C)∧w.heap.size<wr.heap.size) (fun _ o _=>n-(intOf o).toNat);case atStart=>exact⟨0,by omega,rfl,Zkn _ _ _ _,(Yl w).alloc _,by go_simp,by simp⟩
 obtain⟨i,hi,rfl,hrow,hx,hB,hBl⟩:=hrel;by_cases hin:i<n
 ·have hd:decide ((i:Int)<(n:Int))=true:=by simp;omega
  obtain⟨o,hoi⟩:∃ o,os[i]?=some o:=⟨os[i]'(by rw[Hnn.o];exact hin),by rw[Zz]⟩;obtain⟨g,p,c,hv,hc1,hc2,_,hA,hN⟩:=(Ho.o.ext hx).get hoi;simp only[Ye]at hv;obtain⟨rfl,_,rfl⟩:=hv;rw[Hnn.o]at hc1;have hC:C≤9223372036854775807:=by unfold maxLen at hc2;omega
  have HA:=Y4 hA;have hN2:=hN.shape;obtain⟨nA,nC,hnv⟩:=hN2;have hone:o.nv.oneCell'=true:=by rw[hnv];rfl
  have hNew:=Nl wr o;have hNd:=hNew.dec;have hx1:Ext w (wr.alloc (opO o)):=hx.alloc _;have hrow1:=hrow.alloc (opO o);have hB1:(wr.alloc (opO o)).cell? ⟨w.heap.size,0,none⟩=some (.slice (some ⟨g,p,none⟩) n C):=(((Yl wr).alloc (opO o)).cell (p:=⟨w.heap.size,0,none⟩) hBl).trans hB;have hBl1:w.heap.size<(wr.alloc (opO o)).heap.size:=by simp;omega
  obtain⟨la,lc,rfl⟩:=Wu hrow;have hlen:=Ol os i;clear hN hnv hA;by_cases hdec:o.dec = -1
  ·have hdq:(o.dec != -1)=false:=by simp[hdec]
   have Hnx:=Y4 (show Dt os (i+1)=Dt os i by rw[P4,Zm2 (by simp[Fs,Vf hoi,hdec])]);have Hoi:=Y4 hoi;clear hoi hdec;go_wp2_with (first|(refine Wj HA.o rfl ?_)|(refine V9 rfl rfl rfl hone ?_));go_roundw;case rel=>exact⟨i+1,by omega,by go_num,by rw[Hnx.o];exact hrow1,hx1,hB1,hBl1⟩
   simp[intOf];omega
  have hdq:(o.dec != -1)=true:=by simp[hdec]
  have Hnx:=Y4 (show Dt os (i+1)=Dt os i++[i] by rw[P4,Zm4 (by simp[Fs,Vf hoi,hdec])]);have Hoi:=Y4 hoi;clear hoi hdec;go_wp2_with (first|(refine Wj HA.o rfl ?_)|(refine V9 rfl rfl rfl hone ?_)|(at_builtin;refine wpList_append_own _ rfl _ _ 22 rfl (w.heap.size+1) 3 i0 _ 1 8 Sn hi0 hz0 hz1 hz2 rfl (by decide) _ _ _ rfl (hrow1.alloc _) ⟨wr.heap.size+1,0,none⟩ 1 1 [Zxu i] rfl rfl ?c1 ?c2 ?c3 ?c4 ?c5 ?_;rotate_left 5;intro v' w3 hown' hg3 hnil3;go_frame));go_roundw;case rel =>
   refine⟨i+1,by omega,by go_num,?_,(hx1.alloc _).grown hg3 (fun k hk=>by have:=(hrow1.lt k hk).1;omega),?_,?_⟩
   ·rw[Hnx.o];simpa[Zxu]using hown'
   ·have hne:∀ k,(Value.slice la (Dt os i).length lc).ownBlock=some k→w.heap.size≠k:=fun k hk=>by have:=(hrow1.lt k hk).1;omega
    rw[Zku (a:=⟨w.heap.size,0,none⟩) (hg3.block w.heap.size (by simp;omega) (fun e=>hne _ e.symm rfl))];exact(((Yl (wr.alloc (opO o))).alloc _).cell (p:=⟨w.heap.size,0,none⟩) hBl1).trans hB1
   have:=hg3.size;simp at this;omega
  case measure=>simp[intOf];omega
  case c1 =>
   intro j u hj;have:=cell_one_new (wr.alloc (opO o)) (Zxu i) 3 j u hj;rw[show(wr.alloc (opO o)).heap.size=wr.heap.size+1 by simp]at this;exact this
  case c2=>simp[Value.oneCell',Zxu]
  case c3=>unfold maxLen;omega
  case c4=>omega
  case c5=>simp;omega
 have hd:decide ((i:Int)<(n:Int))=false:=by simp;omega
 obtain rfl:i=n:=by omega
 obtain⟨la,lc,rfl⟩:=Wu hrow;have hlen:=Ol os i;by_cases h0:(Dt os i).length=0
 ·have h1:Kn os=[]:=by
   have:=Jq os;have hm:∀ j,j ∉ Kn os:=fun j hj=>by
    have h2:=(this.mem j).1 hj;have h3:j∈Dt os i:=Au.2 ⟨by rw[← Hnn.o];exact Fr h2,h2⟩;rw[Zll h0]at h3;simp at h3
   exact Zkl.2 hm
  have H1:=Y4 h1;have Hrow:=Y4 (Rd.of_own (S:=fun k=>w.heap.size≤k) hrow fun k hk=>by have:=(hrow.lt k hk).1;omega);have H0:=Y4 h0;rw[h0];clear h0 h1 hrow;go_wp2_with (go_at_call 66;refine(Ztw _ _ _ _).mono ?_;rintro e w' ⟨rfl,rfl⟩);go_ret;refine⟨_,rfl,?_,hx⟩;have hr:=Hrow.o;rw[H0.o,Zll H0.o]at hr;unfold Vi;rw[H1.o];exact hr
 -- the row
 obtain⟨m,hm⟩:=gnX ((Dt os i).length);have hiN:0<i:=by omega
 haveI:Inhabited (Fin i):=⟨⟨0,hiN⟩⟩;have hlt:∀ j∈Dt os i,j<i:=fun j hj=>(Au.1 hj).1
 obtain⟨d0,hd0⟩:∃ d0:Array (Fin i),d0.toList.map (·.val)=Dt os i:=by
  refine⟨((Dt os i).attach.map fun x=>(⟨x.1,hlt x.1 x.2⟩:Fin i)).toArray,?_⟩;rw[List.toList_toArray,Zju];exact List.attach_map_subtype_val _
 have hsz:d0.size=m:=by rw[← hm,← hd0];simp
 rcases hrow.2 with⟨hv,hz⟩ | ⟨g,cap,cur,hv,hbase,hb,hnc,hcm,hcs,htk⟩
 ·exact absurd hz h0
 simp only[Ye]at hv;obtain⟨rfl,_,rfl⟩:=hv;have hcell:∀ j,j<d0.size→wr.cell? ⟨g,0+j,none⟩=some (Zvt d0[j]!)∧wr.frozen? ⟨g,0+j,none⟩=false:=by
  intro j hj;have e1:cur[j]?=some (Zvt d0[j]!):=by
   have h1:(cur.toList.take ((Dt os i).length*1))[j]?=some (Zvt d0[j]!):=by
    rw[htk,Zn,← hd0,Zn,Array.getElem?_toList,Zj5 d0 j hj,Zm9 hj];rfl
   rw[Yw,Zm4 (by omega)]at h1;simpa using h1
  rw[Zlj];exact⟨(cell_of_row wr g j cur _ _ hb).trans e1,by simp[World.frozen?,hb]⟩
 have R:Row1 Zvt wr g 0 d0:=⟨Zs1,hcell,(Zm3.1 hb).1⟩;have hBne:w.heap.size≠g:=by omega
 have ho2:=Ho.o.ext hx;have hcmp:CmpLays1 Tryz.prog 67 #[.pointer (some ⟨w.heap.size,0,none⟩)] Zvt (cfK fun j:Fin i=>J6 os j.val) g 0 m wr:=by
  intro q obs dk hdk x y;have hc:=Zq5 (enc:=Zvt) (w0:=wr) (blk:=g) (off:=0) (d:=dk) (W:=sortWorld Zvt wr g 0 q dk obs) ⟨q,obs,rfl⟩;obtain⟨a,ha⟩:=geX (l:=os) (i:=x.val) (by rw[Hnn.o];exact x.isLt);obtain⟨b,hb⟩:=geX (l:=os) (i:=y.val) (by rw[Hnn.o];exact y.isLt);have ho3:=ho2.chg hc (fun k hk e=>by omega);have hB3:=(hc.cell (p:=⟨w.heap.size,0,none⟩) hBl hBne).trans hB;have hB4:∀ N,os.length=N→(sortWorld Zvt wr g 0 q dk obs).cell? ⟨w.heap.size,0,none⟩=some (.slice A N C)→(sortWorld Zvt wr g 0 q dk obs).cell? ⟨w.heap.size,0,none⟩=some (.slice A os.length C):=fun N e h=>by rw[e];exact h
  have:=Tt w.heap.size x.val y.val A C os a b _ (hB4 _ Hnn.o hB3) ho3 ha hb;refine Zkf this ?_;rintro e w' ⟨rfl,q',os',hw'⟩;refine⟨?_,q',os',hw'⟩;rw[← Vf ha,← Vf hb];rfl
 have hso:=Li Zvt (fun j:Fin i=>J6 os j.val) (fun j:Fin i=>j.val) m g 0 lc #[.pointer (some ⟨w.heap.size,0,none⟩)] d0 wr hcmp R hsz (by omega) (fun p q hpq hq=>by
  have hl:=Om os i;rw[← hd0,List.pairwise_map]at hl;have:=Zl1.1 hl p q (by simp;omega) (by simp;omega) hpq;rw[Zj5 d0 p (by omega),Zj5 d0 q (by omega)];simpa using this)
 have HS:=Y4 hso;have Hd0:=Y4 hd0;have Hm:=Y4 hm;have HC:=Y4 hcell;have HR:=Y4 R;rw[hm];clear hso hd0 hm hcell R hcmp hrow hb htk hlt;go_wp2_with fail;refine Zkf HS.o ?_;rintro e w5 ⟨rfl,d,hSW,hds,hM⟩;have hres:=Ztv (os:=os) (by rw[Hd0.o,Hnn.o]) hsz hM;have hch:=Zq5 hSW;have hx5:Ext w w5:=hx.chg_new hch (fun k hk=>by omega);have hh:=hSW.holds HR.o.hblk HC.o (by omega);have Hres:=Y4 hres;have Hx5:=Y4 hx5;have Hh:=Y4 hh;have hsz5:=hch.size;clear hres hx5 hh hch hSW hM;go_wp2_with fail;go_ret;refine⟨_,rfl,?_,Hx5.o⟩;unfold Vi;have hL:(Kn os).length=m:=by rw[← Hres.o];simp[hds]
 rw[hL];refine⟨by simp[hL],_,_,rfl,by rw[← Hm.o];exact hnc,hcm,fun _=>⟨g,0,rfl,by omega,Zm1 HR.o.hblk hsz5,fun j u hu=>?_⟩⟩;have hj:j<d.size:=by
  have:=(Zr.1 hu).1;simp at this;omega
 have:=(Hh.o j hj).1;rw[this,← hu,← Hres.o,Zju,Zn,Array.getElem?_toList,Zm9 hj,Zj5 d j hj];rfl
end
open Go.Maps (Keyed int_keyed)
open Go.ChangeMaps Go.MapKept Go.WideMaps
theorem Zq6:Tryz.prog.underlying 172=some (.map 3 4):=by kernel_rfl
theorem Zq7:Tryz.prog.underlying 173=some (.map 3 55):=by kernel_rfl
theorem L0:Tryz.prog.underlying 3=some (.int .i64):=by kernel_rfl
theorem O0:Keyed Tryz.prog 3:=int_keyed L0
def Zpy:Opn:=⟨0,0,0,.slice none 0 0,[],⟨0,0,⟨#[]⟩,default,0⟩,0,0,0,⟨0,0,⟨#[]⟩,default,0⟩⟩
theorem Znq(w:World):(zeroValue 55).run Tryz.prog w=.ok (opV Zpy) w:=by kernel_rfl
theorem Zt4(w:World):(zeroValue 4).run Tryz.prog w=.ok (.bool false) w:=by kernel_rfl
theorem wf_i64{k:Int}(h:I64 k):(Lit.int .i64 k).wf=true:=by
 unfold I64 at h;simp[Lit.wf,IntKind.min,IntKind.max,IntKind.signed,IntKind.bits];omega
open Classical in
noncomputable def opR(v:Value):Option (DataW Unit×List MemPlace):=if h:∃ o,v=opV o∧o.nv.oneCell'=true then some (.lit (.int .i64 h.choose.ans),[])else none
theorem Zoj{a b:Opn}(h:opV a=opV b):a.ans=b.ans:=by
 unfold opV at h;simp only[Value.agg.injEq,Array.mk.injEq,Zib,Value.int.injEq,Zls]at h;exact h.2.2.2.2.2.2.2.2.2.2.2.2.2.2.1
theorem Zn8(o:Opn)(h1:o.nv.oneCell'=true):opR (opV o)=some (.lit (.int .i64 o.ans),[]):=by
 have h:∃ p,opV o=opV p∧p.nv.oneCell'=true:=⟨o,rfl,h1⟩;unfold opR;rw[Zhy h,← Zoj h.choose_spec.1]
theorem Zok{v:Value}{z:DataW Unit×List MemPlace}(h:opR v=some z):∃ o,v=opV o∧o.nv.oneCell'=true∧z=(.lit (.int .i64 o.ans),[]):=by
 unfold opR at h;split at h
 ·rename_i hh;simp only[Yd]at h;exact⟨hh.choose,hh.choose_spec.1,hh.choose_spec.2,h.symm⟩
 simp at h
def Zsf:Value→Option (DataW Unit×List MemPlace)
 | .bool true=>some (.lit (.bool true),[])
 | _=>none
theorem Zw2{v:Value}{z:DataW Unit×List MemPlace}(h:Zsf v=some z):v=.bool true:=by
 unfold Zsf at h;split at h
 ·rfl
 simp at h
def Vp(w:World)(m:Nat)(ks:List Int):Prop:=∃ D,w.ownsMap Tryz.prog 3 Zsf m ks.length D∧Maps.Tidy D∧∀ k,Maps.has D (.int .i64 k)=true↔k∈ks
theorem Vp.lt{w:World}{m:Nat}{ks:List Int}(h:Vp w m ks):m<w.heap.size:=by
 obtain⟨D,h,_⟩:=h;exact h.lt
theorem Vp.keep{w w':World}{m:Nat}{ks:List Int}(h:Vp w m ks)(hk:w'.heap[m]?=w.heap[m]?):Vp w' m ks:=by
 obtain⟨D,⟨es,clock,hb,r⟩,h2⟩:=h;exact⟨D,⟨es,clock,hk.trans hb,r⟩,h2⟩
theorem Vp.chg{S:Nat→Prop}{w w':World}{m:Nat}{ks:List Int}(h:Vp w m ks)(c:Chg S w w')(hm:¬ S m):Vp w' m ks:=h.keep (c.block m h.lt hm)
theorem Vp.ext{w w':World}{m:Nat}{ks:List Int}(h:Vp w m ks)(x:Ext w w'):Vp w' m ks:=h.keep (x.block h.lt)
theorem Zvc(w:World):Vp (w.alloc (.map #[] 0)) w.heap.size []:=⟨_,Ziu w _ _ _,Zia,fun k=>by simp[Maps.has]⟩
theorem Vp.look{w:World}{m:Nat}{ks:List Int}(h:Vp w m ks){k:Int}(hk:I64 k):(Instr.lookup 172 (.map (some m)) (.int .i64 k) false).run Tryz.prog w=.ok (.bool (decide (k∈ks))) w:=by
 obtain⟨D,⟨es,clock,hb,F,hn,rfl⟩,_,h3⟩:=h;rcases Maps.fit_look false O0 Zq6 (Zt4 w) hb F (Zjb L0 (wf_i64 hk))with⟨hrun,_,hat⟩ | ⟨e0,y,_,_,hrun,hy,hat,_⟩
 ·have hno:k ∉ ks:=fun hm=>by
   have:=(h3 k).2 hm;rw[Maps.has_false_of_atKey hat]at this;simp at this
  simpa[hno]using hrun
 have hyes:k∈ks:=(h3 k).1 (Maps.has_true_of_atKey hat);rw[Zw2 hy]at hrun;simpa[hyes]using hrun
theorem Zrz{w:World}{m:Nat}{ks:List Int}(h:Vp w m ks)(hl:ks.length<maxLen){k:Int}(hk:I64 k) :
 ∃ w',(Instr.mapUpdate 172 (.map (some m)) (.int .i64 k) (.bool true)).run Tryz.prog w=.ok () w'∧Vp w' m (k::ks)∧Chg (· = m) w w':=by
 obtain⟨D,h1,h2,h3⟩:=h;obtain⟨w',hrun,h4,h5⟩:=h1.update O0 Zq6 hl (Zjb L0 (wf_i64 hk)) (show Zsf (.bool true)=some (.lit (.bool true),[]) from rfl);refine⟨w',hrun,⟨_,h4,h2.put (by simp[WideAt.IsKeyLit]) _,fun k'=>?_⟩,(Chg.refl _ w).grown h5 fun i hi=>.inl (by simpa using hi.symm)⟩;by_cases e:k'=k
 ·subst e;rw[Maps.has_put_same h2.isMap (by simp[WideAt.IsKeyLit])];simp
 rw[Ziv (by simpa using e),h3];simp[e]
def Q2(w:World)(m n:Nat)(f:Int→Option Int):Prop:=∃ D,w.ownsMap Tryz.prog 3 opR m n D∧Maps.Tidy D∧∀ k,(f k=none→Maps.has D (.int .i64 k)=false)∧∀ a,f k=some a→∀ z,D.atKey (.int .i64 k) z=.lit (.int .i64 a)
theorem Q2.lt{w:World}{m n:Nat}{f:Int→Option Int}(h:Q2 w m n f):m<w.heap.size:=by
 obtain⟨D,h,_⟩:=h;exact h.lt
theorem Q2.keep{w w':World}{m n:Nat}{f:Int→Option Int}(h:Q2 w m n f)(hk:w'.heap[m]?=w.heap[m]?):Q2 w' m n f:=by
 obtain⟨D,⟨es,clock,hb,r⟩,h2⟩:=h;exact⟨D,⟨es,clock,hk.trans hb,r⟩,h2⟩
theorem Q2.chg{S:Nat→Prop}{w w':World}{m n:Nat}{f:Int→Option Int}(h:Q2 w m n f)(c:Chg S w w')(hm:¬ S m):Q2 w' m n f:=h.keep (c.block m h.lt hm)
theorem Q2.ext{w w':World}{m n:Nat}{f:Int→Option Int}(h:Q2 w m n f)(x:Ext w w'):Q2 w' m n f:=h.keep (x.block h.lt)
theorem Zv2(w:World):Q2 (w.alloc (.map #[] 0)) w.heap.size 0 (fun _=>none):=⟨_,Ziu w _ _ _,Zia,fun k=>⟨fun _=>by simp[Maps.has],fun a h=>by simp at h⟩⟩
theorem Q2.look{w:World}{m n:Nat}{f:Int→Option Int}(h:Q2 w m n f){k:Int}(hk:I64 k) :
 ∃ o b,(Instr.lookup 173 (.map (some m)) (.int .i64 k) true).run Tryz.prog w=.ok (.tuple #[opV o,.bool b]) w∧o.nv.oneCell'=true∧((f k=none∧b=false)∨(f k=some o.ans∧b=true)):=by
 obtain⟨D,⟨es,clock,hb,F,hn,rfl⟩,_,h3⟩:=h;rcases Maps.fit_look true O0 Zq7 (Znq w) hb F (Zjb L0 (wf_i64 hk))with⟨hrun,_,hat⟩ | ⟨e0,y,_,_,hrun,hy,hat,_⟩
 ·refine⟨Zpy,false,by simpa using hrun,rfl,.inl ⟨?_,rfl⟩⟩;cases hf:f k with
  | none=>rfl
  | some a =>
   have:=(h3 k).2 a hf (.lit (.bool true));rw[hat]at this;simp at this
 obtain⟨o,ho,h1,hz⟩:=Zok hy;refine⟨o,true,by rw[ho]at hrun;simpa using hrun,h1,.inr ⟨?_,rfl⟩⟩;cases hf:f k with
 | none =>
  have:=(h3 k).1 hf;rw[Maps.has_true_of_atKey hat]at this;simp at this
 | some a =>
  have:=(h3 k).2 a hf (.lit (.bool true));rw[hat,hz]at this;simp at this;rw[this]
theorem Zrs{w:World}{m n:Nat}{f:Int→Option Int}(h:Q2 w m n f)(hl:n<maxLen){k:Int}(hk:I64 k){o:Opn}(h1:o.nv.oneCell'=true) :
 ∃ w',(Instr.mapUpdate 173 (.map (some m)) (.int .i64 k) (opV o)).run Tryz.prog w=.ok () w'∧Q2 w' m (n+1) (fun c=>if k=c then some o.ans else f c)∧Chg (· = m) w w':=by
 obtain⟨D,h1',h2,h3⟩:=h;obtain⟨w',hrun,h4,h5⟩:=h1'.update O0 Zq7 hl (Zjb L0 (wf_i64 hk)) (Zn8 o h1);refine⟨w',hrun,⟨_,h4,h2.put (by simp[WideAt.IsKeyLit]) _,fun k'=>?_⟩,(Chg.refl _ w).grown h5 fun i hi=>.inl (by simpa using hi.symm)⟩;by_cases e:k=k'
 ·subst e;simp only[Zi7];refine⟨fun h=>by simp at h,fun a ha z=>?_⟩;simp only[Yd]at ha;subst ha;exact Maps.atKey_put_same h2.isMap (by simp[WideAt.IsKeyLit]) _ _
 simp only[e,Zi9];have hne:(Lit.int .i64 k')≠.int .i64 k:=by simpa using fun h=>e h.symm
 refine⟨fun h=>by rw[Ziv hne];exact(h3 k').1 h,fun a ha z=>?_⟩;rw[Maps.atKey_put_other hne];exact(h3 k').2 a ha z
end Go.Proofs.YtnbclgbicnpmnaaGreat
