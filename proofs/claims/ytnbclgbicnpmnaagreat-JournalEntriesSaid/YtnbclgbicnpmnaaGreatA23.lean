/- Lemmas of this claim: Nf, Snb, Du. Conditions: as named. -/
import Derived.Test.YtnbclgbicnpmnaaGreatA12
import Derived.Test.YtnbclgbicnpmnaaGreatA13
import Derived.Test.YtnbclgbicnpmnaaGreatA22
namespace Go.Proofs.YtnbclgbicnpmnaaGreat
open Go.RowKit Go.Sort
open List renaming getElem?_eq_getElem → Zz, mem_of_getElem? → Zy, getElem?_cons_zero → Zx, getElem?_cons_succ → Zw, setIfInBounds_toArray → Zv, set_cons_zero → Zu, set_cons_succ → Zt, getElem?_eq_some_iff → Zr, length_map → Zq, length_take → Zp, getElem?_map → Zn, take_of_length_le → Zm, length_cons → Zl, length_nil → Zk, not_mem_nil → Zh, mem_cons → Zg, take_add_one → Za, length_replicate → Z0, filterMap_cons → Z1, filterMap_nil → Z2, getElem?_toArray → Z3, drop_succ_cons → Z4, drop_zero → Z5
open Lib renaming hid → Yw
open Go renaming bodyPost_ret → Yt
open AllReadyH renaming cons → Ys, nil → Yr
open Nat renaming le_refl → Yo
open Ext renaming refl → Yl
set_option maxHeartbeats 40000000
set_option maxRecDepth 100000
set_option linter.all false
theorem Zp4 (w:World) (mb:Nat) (t:TypeId) (g:Nat) (hg:w.heap.size=g):RdE Zt7 (w.alloc (.cells #[.pointer (some ⟨mb,0,none⟩)] t)) (fun _=>True) (.slice (some ⟨g,0,none⟩) 1 1) [mb]:=by
 subst hg
 exact Qo w #[.pointer (some ⟨mb,0,none⟩)] t 1 rfl
def Sg (T:Tbl) (n:Nat) (cp:Int) (w:World) (e:Ending) (w':World):Prop :=
 ∃ (b:Nat) (d:Dk) (U:Nat→Prop),e=.returned (.tuple #[.pointer (some ⟨b,0,none⟩),.int .i64 0])∧Wt w' U T b w.heap.size d∧d.ms.length=n∧(∀ (i:Nat) p,d.ms[i]?=some p→p.2=Ov i)∧d.x=Zy2 n cp∧d.n=0∧d.t=0∧d.ops=[]∧d.last=List.replicate n (-1)∧d.bs_=List.replicate n []∧Ext w w'
theorem Rn {S:Nat→Prop} (T:Tbl) (hg:Eu T) (n:Nat) (cp:Int) (hn:0 < n) (hn2:n≤64) (hc:Um n cp=0) (w:World) (h:Xm w S T):Calls Tryz.prog 31 #[Wc T,.agg #[.int .i64 (n:Int),.int .i64 cp]] w (Sg T n cp w):=by
 have G:=Yw hg
 have Hc:=Yw hc
 have HT:=Yw h
 clear hg hc
 have X0:=Yw ((Yl w).alloc (Xf T))
 have H:=Yw (h.up X0.out)
 have Hb0:=Yw (Xq w T)
 clear h
 go_enter Tryz.func31,Tryz.ntmps31
 go_wp2_with (first|(refine Xy rfl ?_)|(refine Y4 (Hb0.out.ext ((Yl _).alloc _)) rfl ?_))
 have X1:=Yw (X0.out.alloc (.cells #[.int .i64 (n:Int),.int .i64 cp] 37))
 have Cb:=Yw (Xs.new (w.alloc (Xf T)) #[.int .i64 (n:Int),.int .i64 cp] 37)
 obtain ⟨cb,hcb⟩:∃ x,((w.alloc (Xf T))).heap.size=x:=⟨_,rfl⟩
 obtain ⟨W1,hW1⟩:∃ W,((w.alloc (Xf T))).alloc (.cells #[.int .i64 (n:Int),.int .i64 cp] 37)=W:=⟨_,rfl⟩
 have Hb1:=Yw (Hb0.out.ext ((Yl _).alloc (.cells #[.int .i64 (n:Int),.int .i64 cp] 37)))
 rw [hW1] at X1 Hb1
 rw [hcb] at Cb
 rw [hW1] at Cb
 try rw [hW1]
 have hcb':w.heap.size+1=cb:=by rw [← hcb];simp
 try rw [hcb']
 clear hW1 hcb hcb'
 refine (Ex T G.out _ (HT.out.up X1.out)).mono ?_
 rintro e w2 ⟨rfl,hx2⟩
 have c0:=(Cb.out.ext hx2).at_ 0 (by simp)
 have c1:=(Cb.out.ext hx2).at_ 1 (by simp)
 simp only [Zx,Zw] at c0 c1
 have X2:=Yw (X1.out.trans hx2)
 have Cb2:=Yw (Cb.out.ext hx2)
 have Hb2:=Yw (Hb1.out.ext hx2)
 clear hx2
 go_wp2_with fail
 refine (Nq n cp Hc.out _).mono ?_
 rintro e w3 ⟨xb,rfl,hsh,hxb,hx3⟩
 have c0:=(Cb2.out.ext hx3).at_ 0 (by simp)
 simp only [Zx] at c0
 have X3:=Yw (X2.out.trans hx3)
 have Cb3:=Yw (Cb2.out.ext hx3)
 have Hb3:=Yw (Hb2.out.ext hx3)
 have Hsh:=Yw hsh
 have mk:=Zsh n (by omega)
 clear hx3 hsh c1
 have hxb2:=Hsh.out.lt
 have hs3:=X3.out.size
 have hxw2:=X2.out.size
 have D0:=Yw (show Li w ((w3.alloc (.cells (Fd n) 24)).alloc (.cells #[.pointer (some ⟨xb,0,none⟩),.slice none 0 0,.slice (some ⟨w3.heap.size,0,none⟩) n n,.slice none 0 0,.slice none 0 0,.int .i64 0] 146)) T (w3.heap.size+1) xb w3.heap.size cp n 0 0 (.slice none 0 0) (.slice none 0 0) [] from
  {ext:=(X3.out.alloc _).alloc _
   cells:=by
    have:=Xs.new (w3.alloc (.cells (Fd n) 24)) #[.pointer (some ⟨xb,0,none⟩),.slice none 0 0,.slice (some ⟨w3.heap.size,0,none⟩) n n,.slice none 0 0,.slice none 0 0,.int .i64 0] 146
    rw [show (w3.alloc (.cells (Fd n) 24)).heap.size=w3.heap.size+1 by simp] at this
    exact this
   box:=((Zpf w3 n (by omega)).base hs3).ext ((Yl _).alloc _)
   shr:=(Hsh.out.ext ((Yl _).alloc _)).ext ((Yl _).alloc _)
   mOwn:=Own.nil _ _ _
   lOwn:=Own.nil _ _ _
   len:=rfl
   mach:=fun i p hp=>by simp at hp
   ge:=fun q hq=>by simp only [List.map_nil,Zg,Zh,or_false] at hq;omega
   dis:=by
    simp only [List.map_nil,List.nodup_cons,Zg,Zh,or_false,not_or,not_false_eq_true,List.nodup_nil,and_true]
    omega
   dm:=fun q hq=>by simp [Value.ownBlock] at hq
   dl:=fun q hq=>by simp [Value.ownBlock] at hq})
 have Hb4:=Yw ((Hb3.out.ext ((Yl _).alloc (.cells (Fd n) 24))).ext ((Yl _).alloc (.cells #[.pointer (some ⟨xb,0,none⟩),.slice none 0 0,.slice (some ⟨w3.heap.size,0,none⟩) n n,.slice none 0 0,.slice none 0 0,.int .i64 0] 146)))
 have Cb4:=Yw ((Cb3.out.ext ((Yl _).alloc (.cells (Fd n) 24))).ext ((Yl _).alloc (.cells #[.pointer (some ⟨xb,0,none⟩),.slice none 0 0,.slice (some ⟨w3.heap.size,0,none⟩) n n,.slice none 0 0,.slice none 0 0,.int .i64 0] 146)))
 go_upto_region 7 with fail
 obtain ⟨W4,hW4⟩:∃ W,(w3.alloc (.cells (Fd n) 24)).alloc (.cells #[.pointer (some ⟨xb,0,none⟩),.slice none 0 0,.slice (some ⟨w3.heap.size,0,none⟩) n n,.slice none 0 0,.slice none 0 0,.int .i64 0] 146)=W:=⟨_,rfl⟩
 rw [hW4] at D0 Hb4 Cb4
 rw [hW4]
 obtain ⟨gb,hgb⟩:∃ x,w3.heap.size=x:=⟨_,rfl⟩
 obtain ⟨b,hb⟩:∃ x,w3.heap.size+1=x:=⟨_,rfl⟩
 have hcl:=Cb3.out.lt
 have hbl:=Hb3.out.lt
 rw [hb] at D0
 rw [hgb] at D0 hcl hbl hb hs3 hxb2
 try rw [hgb]
 try rw [hb]
 have Hbz:=Yw hb
 clear hW4 mk c0 X1 X2 X3 Hb2 Hb3 Cb Cb2 Cb3 Hb1 Hsh hgb hb
 go_wp2_with fail
 go_loopw [9] (fun o wr=>∃ (k:Nat) (mv lv:Value) (ms:List (Nat×Qq)),k≤n∧o=.int .i64 (k:Int)∧Li w wr T b xb gb cp n k k mv lv ms∧Q9 wr w.heap.size T∧Xs wr cb [.int .i64 (n:Int),.int .i64 cp]) (fun o _=>n - (intOf o).toNat)
 case atStart=>exact ⟨0,_,_,[],by omega,rfl,D0.out,Hb4.out,Cb4.out⟩
 clear D0 Hb4 Cb4
 obtain ⟨k,mv,lv,ms,hk,rfl,hd,hbx,hcx⟩:=hrel
 rename World=>wr
 have D1:=Yw hd
 have B1:=Yw hbx
 have C1:=Yw hcx
 have c0:=hcx.at_ 0 (by simp)
 simp only [Zx] at c0
 clear hd hbx hcx
 by_cases hlt:k < n
 ·have hd_k:decide ((k:Int) < (n:Int))=true:=Yf (by omega)
  have i0_k:(0:Int)≤(k:Int):=by omega
  have i1_k:(k:Int) < (n:Int):=by omega
  go_wp2_with (refine Y4 B1.out rfl ?_)
  refine (Tc T G.out k (by omega) _ (HT.out.up D1.out.ext)).mono ?_
  rintro e w2 ⟨mb,rfl,hmb,hge,hx2⟩
  have Hmb:=Yw hmb
  have X2:=Yw hx2
  have D2:=Yw (D1.out.up hx2)
  have B2:=Yw (B1.out.ext hx2)
  have C2:=Yw (C1.out.ext hx2)
  have a1:=D2.out.cells.at_ 1 (by simp)
  simp only [Zx,Zw] at a1
  obtain ⟨Am,Cm,rfl,hlm,hcm⟩:=D2.out.mOwn.shape
  obtain ⟨nm,hnm⟩:∃ x,(ms.map Prod.fst).length=x:=⟨_,rfl⟩
  rw [hnm] at a1 D1 D2 hlm
  have Hnm:=Yw (show nm=k by rw [← hnm,Zq];exact D2.out.len)
  have Hnm2:=Yw hnm
  have hsz:=D2.out.ext.size
  clear hmb hx2 hnm c0 hd_k
  go_upto_region 12 with (at_builtin;refine Xx Zt7 _ _ _ rfl rfl rfl rfl (D2.out.mOwn.ext ((Yl _).alloc _)) rfl (Zp4 w2 mb _ _ rfl) (by rw [Hnm2.out];show nm+1≤_;have:=Hnm.out;omega) (by show 8≤1000;omega) (by have:=D2.out.box.blk.2;simp;omega) ?_;intro A5 n5 c5 w5 hg5;have D3:=Yw (D1.out.growM X2.out Hmb.out hge hg5);have b5:=(D2.out.cells.ext ((Yl _).alloc (.cells #[.pointer (some ⟨mb,0,none⟩)] 147))).chg hg5.chg (fun e=>D2.out.dm b e (by simp));have X5:=Yw (hg5.ext w (D2.out.ext.alloc _) hs3);have B5:=Yw ((B2.out.ext ((Yl _).alloc (.cells #[.pointer (some ⟨mb,0,none⟩)] 147))).chgO hg5.chg (fun e=>by have:=(D2.out.mOwn.lt _ e).1;omega));have C5:=Yw ((C2.out.ext ((Yl _).alloc (.cells #[.pointer (some ⟨mb,0,none⟩)] 147))).chg hg5.chg (fun e=>by have:=(D2.out.mOwn.lt _ e).1;omega));have a1':=b5.at_ 1 (by simp);have f1':=b5.fz;simp only [Zx,Zw] at a1';clear hg5 b5)
  have cst:=(Chg.refl (· = b) w5).setCell (p:=⟨b,1,none⟩) (.inl rfl) (.slice A5 n5 c5)
  have B6:=Yw (B5.out.chgO cst (show ¬ w.heap.size=b by have:=Hbz.out;omega))
  have C6:=Yw (C5.out.chg cst (show ¬ cb=b by have:=Hbz.out;omega))
  obtain ⟨W6,hW6⟩:∃ W,w5.setCell ⟨b,1,none⟩ (.slice A5 n5 c5)=W:=⟨_,rfl⟩
  rw [hW6] at D3 B6 C6
  rw [hW6]
  clear hW6 cst a1 a1' f1' D1 D2 B1 B2 C1 C2 B5 C5 X2 X5 Hmb
  have a4:=D3.out.cells.at_ 4 (by simp)
  simp only [Zx,Zw] at a4
  obtain ⟨Al,Cl,rfl,hll,hcl'⟩:=D3.out.lOwn.shape
  rw [Z0] at a4 D3 hll
  go_upto_region 9 with (at_builtin;refine Xx Xe _ _ _ rfl rfl rfl rfl (D3.out.lOwn.ext ((Yl _).alloc _)) rfl (X9 W6 (-1) _ _ rfl) (by rw [Z0];show k+1≤_;omega) (by show 8≤1000;omega) (by have:=D3.out.box.blk.2;simp;omega) ?_;intro A7 n7 c7 w7 hg7;have D4:=Yw (D3.out.growL hg7);have b7:=(D3.out.cells.ext ((Yl _).alloc (.cells #[.int .i64 (-1)] 3))).chg hg7.chg (fun e=>(D3.out.dl b e).1 (by simp));have B7:=Yw ((B6.out.ext ((Yl _).alloc (.cells #[.int .i64 (-1)] 3))).chgO hg7.chg (fun e=>by have:=(D3.out.lOwn.lt _ e).1;omega));have C7:=Yw ((C6.out.ext ((Yl _).alloc (.cells #[.int .i64 (-1)] 3))).chg hg7.chg (fun e=>by have:=(D3.out.lOwn.lt _ e).1;omega));have a4':=b7.at_ 4 (by simp);have f4':=b7.fz;simp only [Zx,Zw] at a4';clear hg7 b7)
  have cst:=(Chg.refl (· = b) w7).setCell (p:=⟨b,4,none⟩) (.inl rfl) (.slice A7 n7 c7)
  have B8:=Yw (B7.out.chgO cst (show ¬ w.heap.size=b by have:=Hbz.out;omega))
  have C8:=Yw (C7.out.chg cst (show ¬ cb=b by have:=Hbz.out;omega))
  clear cst a4 a4' f4' B7 C7 B6 C6
  go_wp2_with fail
  go_roundw
  case rel=>exact ⟨k+1,_,_,_,by omega,by go_num,D4.out,B8.out,C8.out⟩
  case measure=>(simp [intOf];omega)
 have hd_k:decide ((k:Int) < (n:Int))=false:=Yg (by omega)
 go_wp2_with fail
 go_ret2
 obtain rfl:k=n:=by omega
 obtain ⟨d,U,h1,h2,h3,h4,h5,h6,h7,h8⟩:=D1.out.desk hn hn2 HT.out
 exact ⟨b,d,U,rfl,h1,by rw [h2];exact D1.out.len,fun i p hp=>(D1.out.mach i p (by rw [← h2];exact hp)).1,h3,h4,h5,h6,h7,h8,D1.out.ext⟩
abbrev Gv:Value:=.slice none 0 0
theorem Ztw (w:World) (B:Nat):Jm w B [Gv,Gv,Gv,Gv,Gv] [Wr.row [],rcE.row [],Wr.row [],Xe.row [],Xe.row []]:=by
 refine ⟨fun i v r hv hr=>?_,rfl,fun i j u v q _ hu _ hq=>?_⟩
 ·match i with
  | 0=>cases hv;cases hr;exact Own.nil Wr w B
  | 1=>cases hv;cases hr;exact Own.nil rcE w B
  | 2=>cases hv;cases hr;exact Own.nil Wr w B
  | 3=>cases hv;cases hr;exact Own.nil Xe w B
  | 4=>cases hv;cases hr;exact Own.nil Xe w B
  | _+5=>simp at hv
 match i with
 | 0=>cases hu;cases hq
 | 1=>cases hu;cases hq
 | 2=>cases hu;cases hq
 | 3=>cases hu;cases hq
 | 4=>cases hu;cases hq
 | _+5=>simp at hu
structure P8 (w0 w:World) (sb:Nat) (cs vs:List Value) (rs:List Zu8):Prop where
 ext:Ext w0 w
 res:Xs w w0.heap.size [.int .i64 0,.int .i64 0,.slice none 0 0,.slice none 0 0,.slice none 0 0,.slice none 0 0,.slice none 0 0]
 box:Xs w sb cs
 rows:Jm w (sb+1) vs rs
 sb0:w0.heap.size < sb
theorem P8.up {w0 w w':World} {sb:Nat} {cs vs:List Value} {rs:List Zu8} (h:P8 w0 w sb cs vs rs) (x:Ext w w'):P8 w0 w' sb cs vs rs:=⟨h.ext.trans x,h.res.ext x,h.box.ext x,h.rows.ext x,h.sb0⟩
theorem P8.grow {α:Type} {E:Enc α} {w0 w w1 w':World} {sb i:Nat} {cs vs:List Value} {rs:List Zu8} {v:Value} {l:List α} {A:Option Addr} {n c:Nat} (h:P8 w0 w sb cs vs rs) (x:Ext w w1) (hv:vs[i]?=some v) (hg:Grew E w1 (sb+1) v l A n c w') :
 P8 w0 w' sb cs (vs.set i (.slice A n c)) (rs.set i (E.row l)):=by
 have hlt:∀ q,v.ownBlock=some q→sb+1≤q:=fun q hq=>by
  obtain ⟨r,hr⟩:∃ r,rs[i]?=some r:=⟨rs[i]'(by rw [← h.rows.len];exact (Zr.1 hv).1),Zz _⟩
  exact ((h.rows.own i v r hv hr).lt q hq).1
 exact ⟨(h.ext.trans x).chg_new hg.chg (fun q e=>by have:=hlt q e;have:=h.sb0;omega),(h.res.ext x).chg hg.chg (fun e=>by have:=hlt _ e;have:=h.sb0;omega),(h.box.ext x).chg hg.chg (fun e=>by have:=hlt sb e;omega),h.rows.grow x hv hg,h.sb0⟩
theorem P8.put {w0 w:World} {sb j:Nat} {cs vs:List Value} {rs:List Zu8} (h:P8 w0 w sb cs vs rs) (hj:j < cs.length) (u:Value):P8 w0 (w.setCell ⟨sb,j,none⟩ u) sb (cs.set j u) vs rs :=
 ⟨h.ext.chg_new ((Chg.refl (· = sb) w).setCell (p:=⟨sb,j,none⟩) (.inl rfl) u) (fun q e=>by have:=h.sb0;omega),h.res.far (by have:=h.sb0;omega) u,h.box.set hj u,h.rows.chg ((Chg.refl (· = sb) w).setCell (p:=⟨sb,j,none⟩) (.inl rfl) u) (fun q hq e=>by omega),h.sb0⟩
theorem Sf (r:Rc) (t:TypeId) (w:World) (g:Nat) (hg:w.heap.size=g):RdE rcE (w.alloc (.cells #[.int .i64 r.st,.int .i64 r.ow,.string r.nm,.int .i64 r.dl] t)) (fun k=>g≤k) (.slice (some ⟨g,0,none⟩) 1 1) [r]:=Sm w _ t 4 g hg rfl
structure SnC (w:World) (sb kb j j':Nat) (u v:Value) (p:Kp):Prop where
 c0:w.cell? ⟨sb,j,none⟩=some u
 c1:w.cell? ⟨sb,j',none⟩=some v
 k0:w.cell? ⟨kb,0,none⟩=some (.string p.1)
 k1:w.cell? ⟨kb,1,none⟩=some (.int .i64 p.2.st)
 k2:w.cell? ⟨kb,2,none⟩=some (.int .i64 p.2.ow)
 k3:w.cell? ⟨kb,3,none⟩=some (.string p.2.nm)
 k4:w.cell? ⟨kb,4,none⟩=some (.int .i64 p.2.dl)
theorem SnC.of {w:World} {sb kb j j':Nat} {u v:Value} {p:Kp} {cs:List Value} (h:Xs w sb cs) (hu:cs[j]?=some u) (hv:cs[j']?=some v) (k:Xs w kb [.string p.1,.int .i64 p.2.st,.int .i64 p.2.ow,.string p.2.nm,.int .i64 p.2.dl]):SnC w sb kb j j' u v p :=
 ⟨(h.at_ j (Zr.1 hu).1).trans hu,(h.at_ j' (Zr.1 hv).1).trans hv,k.at_ 0 (by simp),k.at_ 1 (by simp),k.at_ 2 (by simp),k.at_ 3 (by simp),k.at_ 4 (by simp)⟩
theorem Pj:(Tryz.prog.info? 27).map (·.size)=some 7:=by kernel_rfl
def Zsx (d:Dk) (w:World) (e:Ending) (w':World):Prop :=
 ∃ kv rv lv ov pv,e=.returned (.agg #[.int .i64 d.x.clock,.int .i64 d.x.sum,kv,rv,lv,ov,pv])∧RdE Wr w' (fun k=>w.heap.size≤k) kv (d.x.rs.map Prod.fst)∧RdE rcE w' (fun k=>w.heap.size≤k) rv (d.x.rs.map Prod.snd)∧RdE Wr w' (fun k=>w.heap.size≤k) lv (d.x.ks.map Prod.fst)∧RdE Xe w' (fun k=>w.heap.size≤k) ov (d.x.ks.map fun p=>p.2.ow)∧RdE Xe w' (fun k=>w.heap.size≤k) pv (d.ms.map fun p=>p.2.st)∧Ext w w'
theorem Ztb {U:Nat→Prop} (T:Tbl) (b B:Nat) (d:Dk) (w:World) (h:Wt w U T b B d) (hn:d.n≤100000):Calls Tryz.prog 38 #[.pointer (some ⟨b,0,none⟩)] w (Zsx d w):=by
 obtain ⟨A3,C3,hv3⟩:=KeptAt.shape h.shr.rs
 obtain ⟨A4,C4,hv4⟩:=KeptAt.shape h.shr.ks
 have b0:w.cell? ⟨b,0,none⟩=some (.pointer (some ⟨d.xb,0,none⟩)):=h.c 0 rfl
 have x2:w.cell? ⟨d.xb,2,none⟩=some (.int .i64 d.x.clock):=h.shr.cells.at_ 2 (by show 2 < 6;omega)
 have x3:w.cell? ⟨d.xb,3,none⟩=some (.int .i64 d.x.sum):=h.shr.cells.at_ 3 (by show 3 < 6;omega)
 have H:=Yw h
 have Hv3:=Yw hv3
 have Hv4:=Yw hv4
 have Hn:=Yw hn
 have hbl:=h.cells.lt
 have hxl:=h.shr.cells.lt
 clear h hv3 hv4 hn
 go_enter Tryz.func38,Tryz.ntmps38
 go_upto_region 1 with fail
 have zl:(w.alloc (.cells #[.int .i64 0,.int .i64 0,.slice none 0 0,.slice none 0 0,.slice none 0 0,.slice none 0 0,.slice none 0 0] 27)).heap.size=w.heap.size+1:=by simp
 have R0:=Yw (((Xs.new w #[.int .i64 0,.int .i64 0,.slice none 0 0,.slice none 0 0,.slice none 0 0,.slice none 0 0,.slice none 0 0] 27).ext ((Yl _).alloc (.cells #[.int .i64 d.x.clock,.int .i64 d.x.sum,.slice none 0 0,.slice none 0 0,.slice none 0 0,.slice none 0 0,.slice none 0 0] 27))).drew)
 have S0:=Yw (show P8 w (((w.alloc (.cells #[.int .i64 0,.int .i64 0,.slice none 0 0,.slice none 0 0,.slice none 0 0,.slice none 0 0,.slice none 0 0] 27)).alloc (.cells #[.int .i64 d.x.clock,.int .i64 d.x.sum,.slice none 0 0,.slice none 0 0,.slice none 0 0,.slice none 0 0,.slice none 0 0] 27)).drew) (w.heap.size+1) [.int .i64 d.x.clock,.int .i64 d.x.sum,Gv,Gv,Gv,Gv,Gv] [Gv,Gv,Gv,Gv,Gv] [Wr.row [],rcE.row [],Wr.row [],Xe.row [],Xe.row []] from
  ⟨(((Yl w).alloc _).alloc _).drew,R0.out,by
    have:=(Xs.new (w.alloc (.cells #[.int .i64 0,.int .i64 0,.slice none 0 0,.slice none 0 0,.slice none 0 0,.slice none 0 0,.slice none 0 0] 27)) #[.int .i64 d.x.clock,.int .i64 d.x.sum,.slice none 0 0,.slice none 0 0,.slice none 0 0,.slice none 0 0,.slice none 0 0] 27).drew
    rw [zl] at this
    exact this,Ztw _ _,by omega⟩)
 go_cut [3] (fun o wq=>o=.pointer (some ⟨w.heap.size+1,0,none⟩)∧wq=((w.alloc (.cells #[.int .i64 0,.int .i64 0,.slice none 0 0,.slice none 0 0,.slice none 0 0,.slice none 0 0,.slice none 0 0] 27)).alloc (.cells #[.int .i64 d.x.clock,.int .i64 d.x.sum,.slice none 0 0,.slice none 0 0,.slice none 0 0,.slice none 0 0,.slice none 0 0] 27)).drew)
 case first =>
  go_region
  all_goals
   go_wp2_with fail
   go_meet
   exact ⟨rfl,rfl⟩
 obtain ⟨rfl,hwq⟩:=hcut
 rename World=>w1
 rw [← hwq] at S0
 obtain ⟨rb,hrb⟩:∃ x,w.heap.size=x:=⟨_,rfl⟩
 obtain ⟨sb,hsb⟩:∃ x,w.heap.size+1=x:=⟨_,rfl⟩
 rw [hsb] at S0
 try rw [hsb]
 try rw [hrb]
 have hrs:rb < sb:=by omega
 have Hrb:=Yw hrb
 clear hwq hrb hsb zl b0 x2 x3 R0
 have D1:=Yw (H.out.ext S0.out.ext)
 have b0:w1.cell? ⟨b,0,none⟩=some (.pointer (some ⟨d.xb,0,none⟩)):=D1.out.c 0 rfl
 have x5:w1.cell? ⟨d.xb,5,none⟩=some d.x.rv:=D1.out.shr.cells.at_ 5 (by show 5 < 6;omega)
 rw [Hv3.out] at x5
 obtain ⟨n3,hn3⟩:∃ x,d.x.rs.length=x:=⟨_,rfl⟩
 rw [hn3] at x5
 have Hn3:=Yw hn3
 have hn3b:n3≤100000:=by have:=H.out.xok.r;have:=Hn.out;omega
 clear hn3
 go_wp2_with fail
 go_loopw [33] (fun o wr=>∃ (i:Nat) (kv rv:Value),i≤n3∧o=.int .i64 (i:Int)∧P8 w wr sb [.int .i64 d.x.clock,.int .i64 d.x.sum,kv,rv,Gv,Gv,Gv] [kv,rv,Gv,Gv,Gv] [Wr.row ((d.x.rs.map Prod.fst).take i),rcE.row ((d.x.rs.map Prod.snd).take i),Wr.row [],Xe.row [],Xe.row []]) (fun o _=>n3 - (intOf o).toNat)
 case atStart=>exact ⟨0,_,_,by omega,rfl,S0.out⟩
 obtain ⟨i,kv,rv,hi,rfl,hS⟩:=hrel
 rename World=>wr
 have S1:=Yw hS
 clear hS S0 b0 x5
 by_cases hlt:i < n3
 ·have hd_i:decide ((i:Int) < (n3:Int))=true:=Yf (by omega)
  have i0_i:(0:Int)≤(i:Int):=by omega
  have i1_i:(i:Int) < (n3:Int):=by omega
  obtain ⟨p,hp⟩:∃ p,d.x.rs[i]?=some p:=⟨d.x.rs[i]'(by rw [Hn3.out];exact hlt),Zz _⟩
  obtain ⟨g,o,c',hvv,_,_,_,hgl,y0,y1,y2,y3,y4⟩:=KeptAt.get (Rd.ext (H.out.shr.rs) S1.out.ext) hp
  rw [Hv3.out,Hn3.out] at hvv
  simp only [Ye] at hvv
  obtain ⟨rfl,-,rfl⟩:=hvv
  have Hp:=Yw hp
  clear hp
  go_upto_region 5 with fail
  have K1:=Yw (Xs.new wr #[.string p.1,.int .i64 p.2.st,.int .i64 p.2.ow,.string p.2.nm,.int .i64 p.2.dl] 161)
  have S2:=Yw (S1.out.up ((Yl _).alloc (.cells #[.string p.1,.int .i64 p.2.st,.int .i64 p.2.ow,.string p.2.nm,.int .i64 p.2.dl] 161)))
  obtain ⟨kb,hkb⟩:∃ x,wr.heap.size=x:=⟨_,rfl⟩
  obtain ⟨W,hW⟩:∃ W,wr.alloc (.cells #[.string p.1,.int .i64 p.2.st,.int .i64 p.2.ow,.string p.2.nm,.int .i64 p.2.dl] 161)=W:=⟨_,rfl⟩
  rw [hW] at K1 S2
  rw [hkb] at K1
  try rw [hW]
  try rw [hkb]
  have Hl0:=Yw (show ∀ q,kv.ownBlock=some q→q < kb from fun q hq=>by have:=((S1.out.rows.own 0 kv _ rfl rfl).lt q hq).2;omega)
  have Hl1:=Yw (show ∀ q,rv.ownBlock=some q→q < kb from fun q hq=>by have:=((S1.out.rows.own 1 rv _ rfl rfl).lt q hq).2;omega)
  clear hW hkb y0 y1 y2 y3 y4 hgl
  obtain ⟨Ak,Ck,rfl,_,_⟩:=(S2.out.rows.get (E:=Wr) (i:=0) rfl rfl).shape
  obtain ⟨Ar,Cr,rfl,_,_⟩:=(S2.out.rows.get (E:=rcE) (i:=1) rfl rfl).shape
  obtain ⟨la,hla⟩:∃ x,(List.take i (List.map Prod.fst d.x.rs)).length=x:=⟨_,rfl⟩
  obtain ⟨lb,hlb⟩:∃ x,(List.take i (List.map Prod.snd d.x.rs)).length=x:=⟨_,rfl⟩
  rw [hla,hlb] at S2
  rw [hla] at Hl0
  rw [hlb] at Hl1
  have hla2:la≤100000:=by rw [← hla,Zp];omega
  have hlb2:lb≤100000:=by rw [← hlb,Zp];omega
  have Hla:=Yw hla
  have Hlb:=Yw hlb
  try rw [hla]
  try rw [hlb]
  clear hla hlb S1
  have Hl0b:=Hla
  have Hl1b:=Hlb
  have SWd:=Yw (S2.out.up (Yl W).drew)
  have KWd:=Yw K1.out.drew
  refine Vv (S:=fun w'=>SnC w' sb kb 2 3 (.slice Ak la Ck) (.slice Ar lb Cr) p) 13 16 (by kernel_rfl) (by omega) (by kernel_rfl) (by kernel_rfl) ?_
  obtain ⟨Wd,hWd⟩:∃ V,W.drew=V:=⟨_,rfl⟩
  rw [hWd] at SWd KWd
  rw [hWd]
  clear hWd S2 K1
  refine Xw [0,1,2,3,6,7,8,9] 5 (by rfl) (by kernel_rfl) (by kernel_rfl) (fun _ _ d _ _ h=>by cases d<;>exact h) (SnC.of SWd.out.box rfl rfl KWd.out) ?_
  simp only [Z1,Z2,Z3,Zw,Zx]
  repeat (refine Xu (v:=?_) (by kernel_rfl) ?_ ?_;rotate_left;(focus ((intro wT hST;obtain ⟨hS0,hS1,h0,h1,h2,h3,h4⟩:=hST;go_simp);(first|done|(with_reducible rfl))));(try simp only [Act.put,Zv,Zu,Zt]))
  refine Xt ?_
  refine wpAnyH_ready (rs:=[4,10]) (by kernel_rfl) (by simp) ?_;refine Ys (o:=_) rfl (fun K hK=>?_) (Ys (o:=_) rfl (fun K hK=>?_) Yr)
  ·go_simp
   obtain ⟨gWa,hgWa⟩:∃ x,(Wd).heap.size=x:=⟨_,rfl⟩
   have SWa:=Yw (SWd.out.up ((Yl Wd).alloc (.cells #[.string p.1] 9)))
   have KWa:=Yw (KWd.out.ext ((Yl Wd).alloc (.cells #[.string p.1] 9)))
   have RKWa:=Yw (Dz p.1 9 Wd _ hgWa)
   have hkWa:kb < gWa:=by rw [← hgWa];exact KWd.out.lt
   skip
   obtain ⟨Wa,hWWa⟩:∃ W,(Wd).alloc (.cells #[.string p.1] 9)=W:=⟨_,rfl⟩
   rw [hWWa] at SWa KWa RKWa
   try rw [hWWa]
   try rw [hgWa]
   clear hWWa hgWa
   refine hK.out _ _ (SnC.of SWa.out.box rfl rfl KWa.out) (fun hHeld=>?_)
   clear hHeld hK K
   try simp only [Act.put,Zv,Zu,Zt]
   refine wpAnyH_ready (rs:=[5,10]) (by kernel_rfl) (by simp) ?_;refine Ys (o:=_) rfl (fun K hK=>?_) (Ys (o:=_) rfl (fun K hK=>?_) Yr)
   ·refine Xa Wr (.tmp 38) (.tmp 41) 24 (by rfl) (by rfl) (by rfl) (by rfl) (SWa.out.rows.get (i:=0) rfl rfl) (by rfl) RKWa.out (by simp only [Zl,Zk];rw [Hl0b.out];omega) (by show (_:Nat)≤1000;simp [Wr,rcE,Xe]) (by have:=SWa.out.box.lt;omega) ?_
    intro Aw5 nw5 cw5 w5 hg
    have Sw5:=Yw (SWa.out.grow (i:=0) (Yl _) rfl hg)
    have Kw5:=Yw (KWa.out.chg hg.chg (fun e=>by have:=Hl0.out _ e;omega))
    skip
    clear hg
    refine hK.out _ _ (SnC.of Sw5.out.box rfl rfl Kw5.out) (fun hHeld=>?_)
    clear hHeld hK K
    try simp only [Act.put,Zv,Zu,Zt]
    refine Xw [12] 2 (by rfl) (by kernel_rfl) (by kernel_rfl) (fun _ _ d _ _ h=>by cases d<;>exact h) (SnC.of Sw5.out.box rfl rfl Kw5.out) ?_
    simp only [Z1,Z2,Z3,Zw,Zx]
    (refine Xu (v:=?_) (by kernel_rfl) ?_ ?_;rotate_left;(focus ((intro wT hST;obtain ⟨hS0,hS1,h0,h1,h2,h3,h4⟩:=hST;go_simp);(first|done|(with_reducible rfl))));(try simp only [Act.put,Zv,Zu,Zt]))
    refine Xt ?_
    refine wpAnyH_ready (rs:=[10]) (by kernel_rfl) (by simp) ?_;refine Ys (o:=_) rfl (fun K hK=>?_) Yr
    go_simp
    obtain ⟨gWb,hgWb⟩:∃ x,(w5).heap.size=x:=⟨_,rfl⟩
    have SWb:=Yw (Sw5.out.up ((Yl w5).alloc (.cells #[.int .i64 p.2.st,.int .i64 p.2.ow,.string p.2.nm,.int .i64 p.2.dl] 51)))
    have KWb:=Yw (Kw5.out.ext ((Yl w5).alloc (.cells #[.int .i64 p.2.st,.int .i64 p.2.ow,.string p.2.nm,.int .i64 p.2.dl] 51)))
    have RRWb:=Yw (Sf p.2 51 w5 _ hgWb)
    have hkWb:kb < gWb:=by rw [← hgWb];exact Kw5.out.lt
    skip
    obtain ⟨Wb,hWWb⟩:∃ W,(w5).alloc (.cells #[.int .i64 p.2.st,.int .i64 p.2.ow,.string p.2.nm,.int .i64 p.2.dl] 51)=W:=⟨_,rfl⟩
    rw [hWWb] at SWb KWb RRWb
    try rw [hWWb]
    try rw [hgWb]
    clear hWWb hgWb
    refine hK.out _ _ (SnC.of SWb.out.box rfl rfl KWb.out) (fun hHeld=>?_)
    clear hHeld hK K
    try simp only [Act.put,Zv,Zu,Zt]
    refine wpAnyH_ready (rs:=[11]) (by kernel_rfl) (by simp) ?_;refine Ys (o:=_) rfl (fun K hK=>?_) Yr
    refine Xa rcE (.tmp 44) (.tmp 47) 25 (by rfl) (by rfl) (by rfl) (by rfl) (SWb.out.rows.get (i:=1) rfl rfl) (by rfl) RRWb.out (by simp only [Zl,Zk];rw [Hl1b.out];omega) (by show (_:Nat)≤1000;simp [Wr,rcE,Xe]) (by have:=SWb.out.box.lt;omega) ?_
    intro Aw6 nw6 cw6 w6 hg
    have Sw6:=Yw (SWb.out.grow (i:=1) (Yl _) rfl hg)
    have Kw6:=Yw (KWb.out.chg hg.chg (fun e=>by have:=Hl1.out _ e;omega))
    skip
    clear hg
    refine hK.out _ _ (SnC.of Sw6.out.box rfl rfl Kw6.out) (fun hHeld=>?_)
    clear hHeld hK K
    try simp only [Act.put,Zv,Zu,Zt]
    refine wpAnyH_done (by kernel_rfl) ?_ _
    simp only [Vq,Z4,Z5]
    have b2:=Sw6.out.box.at_ 2 (by simp)
    have b3:=Sw6.out.box.at_ 3 (by simp)
    have bf:=Sw6.out.box.fz
    simp only [Zx,Zw] at b2 b3
    have SZ:=Yw (((Sw6.out.put (j:=2) (by simp) (.slice Aw5 nw5 cw5))).put (j:=3) (by simp) (.slice Aw6 nw6 cw6))
    have hsbl:=Sw6.out.box.lt
    go_wp2_with fail
    go_roundw
    case rel=>exact ⟨i+1,_,_,by omega,by go_num,by have:=SZ.out;rw [Za,Za,Zn,Zn,Hp.out];exact this⟩
    case measure=>(simp [intOf];omega)
   go_simp
   obtain ⟨gWb,hgWb⟩:∃ x,(Wa).heap.size=x:=⟨_,rfl⟩
   have SWb:=Yw (SWa.out.up ((Yl Wa).alloc (.cells #[.int .i64 p.2.st,.int .i64 p.2.ow,.string p.2.nm,.int .i64 p.2.dl] 51)))
   have KWb:=Yw (KWa.out.ext ((Yl Wa).alloc (.cells #[.int .i64 p.2.st,.int .i64 p.2.ow,.string p.2.nm,.int .i64 p.2.dl] 51)))
   have RRWb:=Yw (Sf p.2 51 Wa _ hgWb)
   have hkWb:kb < gWb:=by rw [← hgWb];exact KWa.out.lt
   have RKWb:=Yw (RdE.ext RKWa.out ((Yl Wa).alloc (.cells #[.int .i64 p.2.st,.int .i64 p.2.ow,.string p.2.nm,.int .i64 p.2.dl] 51)))
   obtain ⟨Wb,hWWb⟩:∃ W,(Wa).alloc (.cells #[.int .i64 p.2.st,.int .i64 p.2.ow,.string p.2.nm,.int .i64 p.2.dl] 51)=W:=⟨_,rfl⟩
   rw [hWWb] at SWb KWb RRWb RKWb
   try rw [hWWb]
   try rw [hgWb]
   clear hWWb hgWb
   refine hK.out _ _ (SnC.of SWb.out.box rfl rfl KWb.out) (fun hHeld=>?_)
   clear hHeld hK K
   try simp only [Act.put,Zv,Zu,Zt]
   refine wpAnyH_ready (rs:=[5]) (by kernel_rfl) (by simp) ?_;refine Ys (o:=_) rfl (fun K hK=>?_) Yr
   refine Xa Wr (.tmp 38) (.tmp 41) 24 (by rfl) (by rfl) (by rfl) (by rfl) (SWb.out.rows.get (i:=0) rfl rfl) (by rfl) RKWb.out (by simp only [Zl,Zk];rw [Hl0b.out];omega) (by show (_:Nat)≤1000;simp [Wr,rcE,Xe]) (by have:=SWb.out.box.lt;omega) ?_
   intro Aw5 nw5 cw5 w5 hg
   have Sw5:=Yw (SWb.out.grow (i:=0) (Yl _) rfl hg)
   have Kw5:=Yw (KWb.out.chg hg.chg (fun e=>by have:=Hl0.out _ e;omega))
   have RRw5:=Yw (Rd.chg RRWb.out hg.chg (fun q hq e=>by have:=Hl0.out q e;have:gWb≤q:=hq;omega))
   clear hg
   refine hK.out _ _ (SnC.of Sw5.out.box rfl rfl Kw5.out) (fun hHeld=>?_)
   clear hHeld hK K
   try simp only [Act.put,Zv,Zu,Zt]
   refine Xw [12] 1 (by rfl) (by kernel_rfl) (by kernel_rfl) (fun _ _ d _ _ h=>by cases d<;>exact h) (SnC.of Sw5.out.box rfl rfl Kw5.out) ?_
   simp only [Z1,Z2,Z3,Zw,Zx]
   (refine Xu (v:=?_) (by kernel_rfl) ?_ ?_;rotate_left;(focus ((intro wT hST;obtain ⟨hS0,hS1,h0,h1,h2,h3,h4⟩:=hST;go_simp);(first|done|(with_reducible rfl))));(try simp only [Act.put,Zv,Zu,Zt]))
   refine Xt ?_
   refine wpAnyH_ready (rs:=[11]) (by kernel_rfl) (by simp) ?_;refine Ys (o:=_) rfl (fun K hK=>?_) Yr
   refine Xa rcE (.tmp 44) (.tmp 47) 25 (by rfl) (by rfl) (by rfl) (by rfl) (Sw5.out.rows.get (i:=1) rfl rfl) (by rfl) RRw5.out (by simp only [Zl,Zk];rw [Hl1b.out];omega) (by show (_:Nat)≤1000;simp [Wr,rcE,Xe]) (by have:=Sw5.out.box.lt;omega) ?_
   intro Aw6 nw6 cw6 w6 hg
   have Sw6:=Yw (Sw5.out.grow (i:=1) (Yl _) rfl hg)
   have Kw6:=Yw (Kw5.out.chg hg.chg (fun e=>by have:=Hl1.out _ e;omega))
   skip
   clear hg
   refine hK.out _ _ (SnC.of Sw6.out.box rfl rfl Kw6.out) (fun hHeld=>?_)
   clear hHeld hK K
   try simp only [Act.put,Zv,Zu,Zt]
   refine wpAnyH_done (by kernel_rfl) ?_ _
   simp only [Vq,Z4,Z5]
   have b2:=Sw6.out.box.at_ 2 (by simp)
   have b3:=Sw6.out.box.at_ 3 (by simp)
   have bf:=Sw6.out.box.fz
   simp only [Zx,Zw] at b2 b3
   have SZ:=Yw (((Sw6.out.put (j:=2) (by simp) (.slice Aw5 nw5 cw5))).put (j:=3) (by simp) (.slice Aw6 nw6 cw6))
   have hsbl:=Sw6.out.box.lt
   go_wp2_with fail
   go_roundw
   case rel=>exact ⟨i+1,_,_,by omega,by go_num,by have:=SZ.out;rw [Za,Za,Zn,Zn,Hp.out];exact this⟩
   case measure=>(simp [intOf];omega)
  go_simp
  obtain ⟨gWb,hgWb⟩:∃ x,(Wd).heap.size=x:=⟨_,rfl⟩
  have SWb:=Yw (SWd.out.up ((Yl Wd).alloc (.cells #[.int .i64 p.2.st,.int .i64 p.2.ow,.string p.2.nm,.int .i64 p.2.dl] 51)))
  have KWb:=Yw (KWd.out.ext ((Yl Wd).alloc (.cells #[.int .i64 p.2.st,.int .i64 p.2.ow,.string p.2.nm,.int .i64 p.2.dl] 51)))
  have RRWb:=Yw (Sf p.2 51 Wd _ hgWb)
  have hkWb:kb < gWb:=by rw [← hgWb];exact KWd.out.lt
  skip
  obtain ⟨Wb,hWWb⟩:∃ W,(Wd).alloc (.cells #[.int .i64 p.2.st,.int .i64 p.2.ow,.string p.2.nm,.int .i64 p.2.dl] 51)=W:=⟨_,rfl⟩
  rw [hWWb] at SWb KWb RRWb
  try rw [hWWb]
  try rw [hgWb]
  clear hWWb hgWb
  refine hK.out _ _ (SnC.of SWb.out.box rfl rfl KWb.out) (fun hHeld=>?_)
  clear hHeld hK K
  try simp only [Act.put,Zv,Zu,Zt]
  refine wpAnyH_ready (rs:=[4]) (by kernel_rfl) (by simp) ?_;refine Ys (o:=_) rfl (fun K hK=>?_) Yr
  go_simp
  obtain ⟨gWa,hgWa⟩:∃ x,(Wb).heap.size=x:=⟨_,rfl⟩
  have SWa:=Yw (SWb.out.up ((Yl Wb).alloc (.cells #[.string p.1] 9)))
  have KWa:=Yw (KWb.out.ext ((Yl Wb).alloc (.cells #[.string p.1] 9)))
  have RKWa:=Yw (Dz p.1 9 Wb _ hgWa)
  have hkWa:kb < gWa:=by rw [← hgWa];exact KWb.out.lt
  have RRWa:=Yw (RdE.ext RRWb.out ((Yl Wb).alloc (.cells #[.string p.1] 9)))
  obtain ⟨Wa,hWWa⟩:∃ W,(Wb).alloc (.cells #[.string p.1] 9)=W:=⟨_,rfl⟩
  rw [hWWa] at SWa KWa RKWa RRWa
  try rw [hWWa]
  try rw [hgWa]
  clear hWWa hgWa
  refine hK.out _ _ (SnC.of SWa.out.box rfl rfl KWa.out) (fun hHeld=>?_)
  clear hHeld hK K
  try simp only [Act.put,Zv,Zu,Zt]
  refine wpAnyH_ready (rs:=[5]) (by kernel_rfl) (by simp) ?_;refine Ys (o:=_) rfl (fun K hK=>?_) Yr
  refine Xa Wr (.tmp 38) (.tmp 41) 24 (by rfl) (by rfl) (by rfl) (by rfl) (SWa.out.rows.get (i:=0) rfl rfl) (by rfl) RKWa.out (by simp only [Zl,Zk];rw [Hl0b.out];omega) (by show (_:Nat)≤1000;simp [Wr,rcE,Xe]) (by have:=SWa.out.box.lt;omega) ?_
  intro Aw5 nw5 cw5 w5 hg
  have Sw5:=Yw (SWa.out.grow (i:=0) (Yl _) rfl hg)
  have Kw5:=Yw (KWa.out.chg hg.chg (fun e=>by have:=Hl0.out _ e;omega))
  have RRw5:=Yw (Rd.chg RRWa.out hg.chg (fun q hq e=>by have:=Hl0.out q e;have:gWb≤q:=hq;omega))
  clear hg
  refine hK.out _ _ (SnC.of Sw5.out.box rfl rfl Kw5.out) (fun hHeld=>?_)
  clear hHeld hK K
  try simp only [Act.put,Zv,Zu,Zt]
  refine Xw [12] 1 (by rfl) (by kernel_rfl) (by kernel_rfl) (fun _ _ d _ _ h=>by cases d<;>exact h) (SnC.of Sw5.out.box rfl rfl Kw5.out) ?_
  simp only [Z1,Z2,Z3,Zw,Zx]
  (refine Xu (v:=?_) (by kernel_rfl) ?_ ?_;rotate_left;(focus ((intro wT hST;obtain ⟨hS0,hS1,h0,h1,h2,h3,h4⟩:=hST;go_simp);(first|done|(with_reducible rfl))));(try simp only [Act.put,Zv,Zu,Zt]))
  refine Xt ?_
  refine wpAnyH_ready (rs:=[11]) (by kernel_rfl) (by simp) ?_;refine Ys (o:=_) rfl (fun K hK=>?_) Yr
  refine Xa rcE (.tmp 44) (.tmp 47) 25 (by rfl) (by rfl) (by rfl) (by rfl) (Sw5.out.rows.get (i:=1) rfl rfl) (by rfl) RRw5.out (by simp only [Zl,Zk];rw [Hl1b.out];omega) (by show (_:Nat)≤1000;simp [Wr,rcE,Xe]) (by have:=Sw5.out.box.lt;omega) ?_
  intro Aw6 nw6 cw6 w6 hg
  have Sw6:=Yw (Sw5.out.grow (i:=1) (Yl _) rfl hg)
  have Kw6:=Yw (Kw5.out.chg hg.chg (fun e=>by have:=Hl1.out _ e;omega))
  skip
  clear hg
  refine hK.out _ _ (SnC.of Sw6.out.box rfl rfl Kw6.out) (fun hHeld=>?_)
  clear hHeld hK K
  try simp only [Act.put,Zv,Zu,Zt]
  refine wpAnyH_done (by kernel_rfl) ?_ _
  simp only [Vq,Z4,Z5]
  have b2:=Sw6.out.box.at_ 2 (by simp)
  have b3:=Sw6.out.box.at_ 3 (by simp)
  have bf:=Sw6.out.box.fz
  simp only [Zx,Zw] at b2 b3
  have SZ:=Yw (((Sw6.out.put (j:=2) (by simp) (.slice Aw5 nw5 cw5))).put (j:=3) (by simp) (.slice Aw6 nw6 cw6))
  have hsbl:=Sw6.out.box.lt
  go_wp2_with fail
  go_roundw
  case rel=>exact ⟨i+1,_,_,by omega,by go_num,by have:=SZ.out;rw [Za,Za,Zn,Zn,Hp.out];exact this⟩
  case measure=>(simp [intOf];omega)
 have hd_i:decide ((i:Int) < (n3:Int))=false:=Yg (by omega)
 obtain rfl:n3=i:=by omega
 have D1:=Yw (H.out.ext S1.out.ext)
 have b0:wr.cell? ⟨b,0,none⟩=some (.pointer (some ⟨d.xb,0,none⟩)):=D1.out.c 0 rfl
 have x4:wr.cell? ⟨d.xb,4,none⟩=some d.x.kv:=D1.out.shr.cells.at_ 4 (by show 4 < 6;omega)
 rw [Hv4.out] at x4
 obtain ⟨n4,hn4⟩:∃ x,d.x.ks.length=x:=⟨_,rfl⟩
 rw [hn4] at x4
 have Hn4:=Yw hn4
 have hn4b:n4≤100000:=by have:=H.out.xok.k;have:=Hn.out;omega
 have S4:=Yw (show P8 w wr sb [.int .i64 d.x.clock,.int .i64 d.x.sum,kv,rv,Gv,Gv,Gv] [kv,rv,Gv,Gv,Gv] [Wr.row (d.x.rs.map Prod.fst),rcE.row (d.x.rs.map Prod.snd),Wr.row [],Xe.row [],Xe.row []] from by
  have:=S1.out
  rwa [Zm (by rw [Zq,Hn3.out];exact Yo _),Zm (by rw [Zq,Hn3.out];exact Yo _)] at this)
 clear hn4 S1 D1
 go_wp2_with fail
 go_loopw [60] (fun o wr=>∃ (i:Nat) (lv ov:Value),i≤n4∧o=.int .i64 (i:Int)∧P8 w wr sb [.int .i64 d.x.clock,.int .i64 d.x.sum,kv,rv,lv,ov,Gv] [kv,rv,lv,ov,Gv] [Wr.row (d.x.rs.map Prod.fst),rcE.row (d.x.rs.map Prod.snd),Wr.row ((d.x.ks.map Prod.fst).take i),Xe.row ((d.x.ks.map fun p=>p.2.ow).take i),Xe.row []]) (fun o _=>n4 - (intOf o).toNat)
 case atStart=>exact ⟨0,_,_,by omega,rfl,S4.out⟩
 obtain ⟨i,lv,ov,hi,rfl,hS⟩:=hrel
 rename World=>wr
 have S1:=Yw hS
 clear hS S4 b0 x4
 by_cases hlt:i < n4
 ·have hd_i:decide ((i:Int) < (n4:Int))=true:=Yf (by omega)
  have i0_i:(0:Int)≤(i:Int):=by omega
  have i1_i:(i:Int) < (n4:Int):=by omega
  obtain ⟨p,hp⟩:∃ p,d.x.ks[i]?=some p:=⟨d.x.ks[i]'(by rw [Hn4.out];exact hlt),Zz _⟩
  obtain ⟨g,o,c',hvv,_,_,_,hgl,y0,y1,y2,y3,y4⟩:=KeptAt.get (Rd.ext (H.out.shr.ks) S1.out.ext) hp
  rw [Hv4.out,Hn4.out] at hvv
  simp only [Ye] at hvv
  obtain ⟨rfl,-,rfl⟩:=hvv
  have Hp:=Yw hp
  clear hp
  go_upto_region 10 with fail
  have K1:=Yw (Xs.new wr #[.string p.1,.int .i64 p.2.st,.int .i64 p.2.ow,.string p.2.nm,.int .i64 p.2.dl] 161)
  have S2:=Yw (S1.out.up ((Yl _).alloc (.cells #[.string p.1,.int .i64 p.2.st,.int .i64 p.2.ow,.string p.2.nm,.int .i64 p.2.dl] 161)))
  obtain ⟨kb,hkb⟩:∃ x,wr.heap.size=x:=⟨_,rfl⟩
  obtain ⟨W,hW⟩:∃ W,wr.alloc (.cells #[.string p.1,.int .i64 p.2.st,.int .i64 p.2.ow,.string p.2.nm,.int .i64 p.2.dl] 161)=W:=⟨_,rfl⟩
  rw [hW] at K1 S2
  rw [hkb] at K1
  try rw [hW]
  try rw [hkb]
  have Hl2:=Yw (show ∀ q,lv.ownBlock=some q→q < kb from fun q hq=>by have:=((S1.out.rows.own 2 lv _ rfl rfl).lt q hq).2;omega)
  have Hl3:=Yw (show ∀ q,ov.ownBlock=some q→q < kb from fun q hq=>by have:=((S1.out.rows.own 3 ov _ rfl rfl).lt q hq).2;omega)
  clear hW hkb y0 y1 y2 y3 y4 hgl
  obtain ⟨Ak,Ck,rfl,_,_⟩:=(S2.out.rows.get (E:=Wr) (i:=2) rfl rfl).shape
  obtain ⟨Ar,Cr,rfl,_,_⟩:=(S2.out.rows.get (E:=Xe) (i:=3) rfl rfl).shape
  obtain ⟨la,hla⟩:∃ x,(List.take i (List.map Prod.fst d.x.ks)).length=x:=⟨_,rfl⟩
  obtain ⟨lb,hlb⟩:∃ x,(List.take i (List.map (fun p=>p.2.ow) d.x.ks)).length=x:=⟨_,rfl⟩
  rw [hla,hlb] at S2
  rw [hla] at Hl2
  rw [hlb] at Hl3
  have hla2:la≤100000:=by rw [← hla,Zp];omega
  have hlb2:lb≤100000:=by rw [← hlb,Zp];omega
  have Hla:=Yw hla
  have Hlb:=Yw hlb
  try rw [hla]
  try rw [hlb]
  clear hla hlb S1
  have Hl2b:=Hla
  have Hl3b:=Hlb
  have SWd:=Yw (S2.out.up (Yl W).drew)
  have KWd:=Yw K1.out.drew
  refine Vv (S:=fun w'=>SnC w' sb kb 4 5 (.slice Ak la Ck) (.slice Ar lb Cr) p) 14 17 (by kernel_rfl) (by omega) (by kernel_rfl) (by kernel_rfl) ?_
  obtain ⟨Wd,hWd⟩:∃ V,W.drew=V:=⟨_,rfl⟩
  rw [hWd] at SWd KWd
  rw [hWd]
  clear hWd S2 K1
  refine Xw [0,1,2,3,6,7,8,9,10] 5 (by rfl) (by kernel_rfl) (by kernel_rfl) (fun _ _ d _ _ h=>by cases d<;>exact h) (SnC.of SWd.out.box rfl rfl KWd.out) ?_
  simp only [Z1,Z2,Z3,Zw,Zx]
  repeat (refine Xu (v:=?_) (by kernel_rfl) ?_ ?_;rotate_left;(focus ((intro wT hST;obtain ⟨hS0,hS1,h0,h1,h2,h3,h4⟩:=hST;go_simp);(first|done|(with_reducible rfl))));(try simp only [Act.put,Zv,Zu,Zt]))
  refine Xt ?_
  refine wpAnyH_ready (rs:=[4,11]) (by kernel_rfl) (by simp) ?_;refine Ys (o:=_) rfl (fun K hK=>?_) (Ys (o:=_) rfl (fun K hK=>?_) Yr)
  ·go_simp
   obtain ⟨gWa,hgWa⟩:∃ x,(Wd).heap.size=x:=⟨_,rfl⟩
   have SWa:=Yw (SWd.out.up ((Yl Wd).alloc (.cells #[.string p.1] 9)))
   have KWa:=Yw (KWd.out.ext ((Yl Wd).alloc (.cells #[.string p.1] 9)))
   have RKWa:=Yw (Dz p.1 9 Wd _ hgWa)
   have hkWa:kb < gWa:=by rw [← hgWa];exact KWd.out.lt
   skip
   obtain ⟨Wa,hWWa⟩:∃ W,(Wd).alloc (.cells #[.string p.1] 9)=W:=⟨_,rfl⟩
   rw [hWWa] at SWa KWa RKWa
   try rw [hWWa]
   try rw [hgWa]
   clear hWWa hgWa
   refine hK.out _ _ (SnC.of SWa.out.box rfl rfl KWa.out) (fun hHeld=>?_)
   clear hHeld hK K
   try simp only [Act.put,Zv,Zu,Zt]
   refine wpAnyH_ready (rs:=[5,11]) (by kernel_rfl) (by simp) ?_;refine Ys (o:=_) rfl (fun K hK=>?_) (Ys (o:=_) rfl (fun K hK=>?_) Yr)
   ·refine Xa Wr (.tmp 65) (.tmp 68) 24 (by rfl) (by rfl) (by rfl) (by rfl) (SWa.out.rows.get (i:=2) rfl rfl) (by rfl) RKWa.out (by simp only [Zl,Zk];rw [Hl2b.out];omega) (by show (_:Nat)≤1000;simp [Wr,rcE,Xe]) (by have:=SWa.out.box.lt;omega) ?_
    intro Aw5 nw5 cw5 w5 hg
    have Sw5:=Yw (SWa.out.grow (i:=2) (Yl _) rfl hg)
    have Kw5:=Yw (KWa.out.chg hg.chg (fun e=>by have:=Hl2.out _ e;omega))
    skip
    clear hg
    refine hK.out _ _ (SnC.of Sw5.out.box rfl rfl Kw5.out) (fun hHeld=>?_)
    clear hHeld hK K
    try simp only [Act.put,Zv,Zu,Zt]
    refine Xw [13] 2 (by rfl) (by kernel_rfl) (by kernel_rfl) (fun _ _ d _ _ h=>by cases d<;>exact h) (SnC.of Sw5.out.box rfl rfl Kw5.out) ?_
    simp only [Z1,Z2,Z3,Zw,Zx]
    (refine Xu (v:=?_) (by kernel_rfl) ?_ ?_;rotate_left;(focus ((intro wT hST;obtain ⟨hS0,hS1,h0,h1,h2,h3,h4⟩:=hST;go_simp);(first|done|(with_reducible rfl))));(try simp only [Act.put,Zv,Zu,Zt]))
    refine Xt ?_
    refine wpAnyH_ready (rs:=[11]) (by kernel_rfl) (by simp) ?_;refine Ys (o:=_) rfl (fun K hK=>?_) Yr
    go_simp
    obtain ⟨gWb,hgWb⟩:∃ x,(w5).heap.size=x:=⟨_,rfl⟩
    have SWb:=Yw (Sw5.out.up ((Yl w5).alloc (.cells #[.int .i64 p.2.ow] 3)))
    have KWb:=Yw (Kw5.out.ext ((Yl w5).alloc (.cells #[.int .i64 p.2.ow] 3)))
    have RRWb:=Yw (Dx p.2.ow 3 w5 _ hgWb)
    have hkWb:kb < gWb:=by rw [← hgWb];exact Kw5.out.lt
    skip
    obtain ⟨Wb,hWWb⟩:∃ W,(w5).alloc (.cells #[.int .i64 p.2.ow] 3)=W:=⟨_,rfl⟩
    rw [hWWb] at SWb KWb RRWb
    try rw [hWWb]
    try rw [hgWb]
    clear hWWb hgWb
    refine hK.out _ _ (SnC.of SWb.out.box rfl rfl KWb.out) (fun hHeld=>?_)
    clear hHeld hK K
    try simp only [Act.put,Zv,Zu,Zt]
    refine wpAnyH_ready (rs:=[12]) (by kernel_rfl) (by simp) ?_;refine Ys (o:=_) rfl (fun K hK=>?_) Yr
    refine Xa Xe (.tmp 71) (.tmp 75) 22 (by rfl) (by rfl) (by rfl) (by rfl) (SWb.out.rows.get (i:=3) rfl rfl) (by rfl) RRWb.out (by simp only [Zl,Zk];rw [Hl3b.out];omega) (by show (_:Nat)≤1000;simp [Wr,rcE,Xe]) (by have:=SWb.out.box.lt;omega) ?_
    intro Aw6 nw6 cw6 w6 hg
    have Sw6:=Yw (SWb.out.grow (i:=3) (Yl _) rfl hg)
    have Kw6:=Yw (KWb.out.chg hg.chg (fun e=>by have:=Hl3.out _ e;omega))
    skip
    clear hg
    refine hK.out _ _ (SnC.of Sw6.out.box rfl rfl Kw6.out) (fun hHeld=>?_)
    clear hHeld hK K
    try simp only [Act.put,Zv,Zu,Zt]
    refine wpAnyH_done (by kernel_rfl) ?_ _
    simp only [Vq,Z4,Z5]
    have b2:=Sw6.out.box.at_ 4 (by simp)
    have b3:=Sw6.out.box.at_ 5 (by simp)
    have bf:=Sw6.out.box.fz
    simp only [Zx,Zw] at b2 b3
    have SZ:=Yw (((Sw6.out.put (j:=4) (by simp) (.slice Aw5 nw5 cw5))).put (j:=5) (by simp) (.slice Aw6 nw6 cw6))
    have hsbl:=Sw6.out.box.lt
    go_wp2_with fail
    go_roundw
    case rel=>exact ⟨i+1,_,_,by omega,by go_num,by have:=SZ.out;rw [Za,Za,Zn,Zn,Hp.out];exact this⟩
    case measure=>(simp [intOf];omega)
   go_simp
   obtain ⟨gWb,hgWb⟩:∃ x,(Wa).heap.size=x:=⟨_,rfl⟩
   have SWb:=Yw (SWa.out.up ((Yl Wa).alloc (.cells #[.int .i64 p.2.ow] 3)))
   have KWb:=Yw (KWa.out.ext ((Yl Wa).alloc (.cells #[.int .i64 p.2.ow] 3)))
   have RRWb:=Yw (Dx p.2.ow 3 Wa _ hgWb)
   have hkWb:kb < gWb:=by rw [← hgWb];exact KWa.out.lt
   have RKWb:=Yw (RdE.ext RKWa.out ((Yl Wa).alloc (.cells #[.int .i64 p.2.ow] 3)))
   obtain ⟨Wb,hWWb⟩:∃ W,(Wa).alloc (.cells #[.int .i64 p.2.ow] 3)=W:=⟨_,rfl⟩
   rw [hWWb] at SWb KWb RRWb RKWb
   try rw [hWWb]
   try rw [hgWb]
   clear hWWb hgWb
   refine hK.out _ _ (SnC.of SWb.out.box rfl rfl KWb.out) (fun hHeld=>?_)
   clear hHeld hK K
   try simp only [Act.put,Zv,Zu,Zt]
   refine wpAnyH_ready (rs:=[5]) (by kernel_rfl) (by simp) ?_;refine Ys (o:=_) rfl (fun K hK=>?_) Yr
   refine Xa Wr (.tmp 65) (.tmp 68) 24 (by rfl) (by rfl) (by rfl) (by rfl) (SWb.out.rows.get (i:=2) rfl rfl) (by rfl) RKWb.out (by simp only [Zl,Zk];rw [Hl2b.out];omega) (by show (_:Nat)≤1000;simp [Wr,rcE,Xe]) (by have:=SWb.out.box.lt;omega) ?_
   intro Aw5 nw5 cw5 w5 hg
   have Sw5:=Yw (SWb.out.grow (i:=2) (Yl _) rfl hg)
   have Kw5:=Yw (KWb.out.chg hg.chg (fun e=>by have:=Hl2.out _ e;omega))
   have RRw5:=Yw (Rd.chg RRWb.out hg.chg (fun q hq e=>by have:=Hl2.out q e;have:gWb≤q:=hq;omega))
   clear hg
   refine hK.out _ _ (SnC.of Sw5.out.box rfl rfl Kw5.out) (fun hHeld=>?_)
   clear hHeld hK K
   try simp only [Act.put,Zv,Zu,Zt]
   refine Xw [13] 1 (by rfl) (by kernel_rfl) (by kernel_rfl) (fun _ _ d _ _ h=>by cases d<;>exact h) (SnC.of Sw5.out.box rfl rfl Kw5.out) ?_
   simp only [Z1,Z2,Z3,Zw,Zx]
   (refine Xu (v:=?_) (by kernel_rfl) ?_ ?_;rotate_left;(focus ((intro wT hST;obtain ⟨hS0,hS1,h0,h1,h2,h3,h4⟩:=hST;go_simp);(first|done|(with_reducible rfl))));(try simp only [Act.put,Zv,Zu,Zt]))
   refine Xt ?_
   refine wpAnyH_ready (rs:=[12]) (by kernel_rfl) (by simp) ?_;refine Ys (o:=_) rfl (fun K hK=>?_) Yr
   refine Xa Xe (.tmp 71) (.tmp 75) 22 (by rfl) (by rfl) (by rfl) (by rfl) (Sw5.out.rows.get (i:=3) rfl rfl) (by rfl) RRw5.out (by simp only [Zl,Zk];rw [Hl3b.out];omega) (by show (_:Nat)≤1000;simp [Wr,rcE,Xe]) (by have:=Sw5.out.box.lt;omega) ?_
   intro Aw6 nw6 cw6 w6 hg
   have Sw6:=Yw (Sw5.out.grow (i:=3) (Yl _) rfl hg)
   have Kw6:=Yw (Kw5.out.chg hg.chg (fun e=>by have:=Hl3.out _ e;omega))
   skip
   clear hg
   refine hK.out _ _ (SnC.of Sw6.out.box rfl rfl Kw6.out) (fun hHeld=>?_)
   clear hHeld hK K
   try simp only [Act.put,Zv,Zu,Zt]
   refine wpAnyH_done (by kernel_rfl) ?_ _
   simp only [Vq,Z4,Z5]
   have b2:=Sw6.out.box.at_ 4 (by simp)
   have b3:=Sw6.out.box.at_ 5 (by simp)
   have bf:=Sw6.out.box.fz
   simp only [Zx,Zw] at b2 b3
   have SZ:=Yw (((Sw6.out.put (j:=4) (by simp) (.slice Aw5 nw5 cw5))).put (j:=5) (by simp) (.slice Aw6 nw6 cw6))
   have hsbl:=Sw6.out.box.lt
   go_wp2_with fail
   go_roundw
   case rel=>exact ⟨i+1,_,_,by omega,by go_num,by have:=SZ.out;rw [Za,Za,Zn,Zn,Hp.out];exact this⟩
   case measure=>(simp [intOf];omega)
  go_simp
  obtain ⟨gWb,hgWb⟩:∃ x,(Wd).heap.size=x:=⟨_,rfl⟩
  have SWb:=Yw (SWd.out.up ((Yl Wd).alloc (.cells #[.int .i64 p.2.ow] 3)))
  have KWb:=Yw (KWd.out.ext ((Yl Wd).alloc (.cells #[.int .i64 p.2.ow] 3)))
  have RRWb:=Yw (Dx p.2.ow 3 Wd _ hgWb)
  have hkWb:kb < gWb:=by rw [← hgWb];exact KWd.out.lt
  skip
  obtain ⟨Wb,hWWb⟩:∃ W,(Wd).alloc (.cells #[.int .i64 p.2.ow] 3)=W:=⟨_,rfl⟩
  rw [hWWb] at SWb KWb RRWb
  try rw [hWWb]
  try rw [hgWb]
  clear hWWb hgWb
  refine hK.out _ _ (SnC.of SWb.out.box rfl rfl KWb.out) (fun hHeld=>?_)
  clear hHeld hK K
  try simp only [Act.put,Zv,Zu,Zt]
  refine wpAnyH_ready (rs:=[4]) (by kernel_rfl) (by simp) ?_;refine Ys (o:=_) rfl (fun K hK=>?_) Yr
  go_simp
  obtain ⟨gWa,hgWa⟩:∃ x,(Wb).heap.size=x:=⟨_,rfl⟩
  have SWa:=Yw (SWb.out.up ((Yl Wb).alloc (.cells #[.string p.1] 9)))
  have KWa:=Yw (KWb.out.ext ((Yl Wb).alloc (.cells #[.string p.1] 9)))
  have RKWa:=Yw (Dz p.1 9 Wb _ hgWa)
  have hkWa:kb < gWa:=by rw [← hgWa];exact KWb.out.lt
  have RRWa:=Yw (RdE.ext RRWb.out ((Yl Wb).alloc (.cells #[.string p.1] 9)))
  obtain ⟨Wa,hWWa⟩:∃ W,(Wb).alloc (.cells #[.string p.1] 9)=W:=⟨_,rfl⟩
  rw [hWWa] at SWa KWa RKWa RRWa
  try rw [hWWa]
  try rw [hgWa]
  clear hWWa hgWa
  refine hK.out _ _ (SnC.of SWa.out.box rfl rfl KWa.out) (fun hHeld=>?_)
  clear hHeld hK K
  try simp only [Act.put,Zv,Zu,Zt]
  refine wpAnyH_ready (rs:=[5]) (by kernel_rfl) (by simp) ?_;refine Ys (o:=_) rfl (fun K hK=>?_) Yr
  refine Xa Wr (.tmp 65) (.tmp 68) 24 (by rfl) (by rfl) (by rfl) (by rfl) (SWa.out.rows.get (i:=2) rfl rfl) (by rfl) RKWa.out (by simp only [Zl,Zk];rw [Hl2b.out];omega) (by show (_:Nat)≤1000;simp [Wr,rcE,Xe]) (by have:=SWa.out.box.lt;omega) ?_
  intro Aw5 nw5 cw5 w5 hg
  have Sw5:=Yw (SWa.out.grow (i:=2) (Yl _) rfl hg)
  have Kw5:=Yw (KWa.out.chg hg.chg (fun e=>by have:=Hl2.out _ e;omega))
  have RRw5:=Yw (Rd.chg RRWa.out hg.chg (fun q hq e=>by have:=Hl2.out q e;have:gWb≤q:=hq;omega))
  clear hg
  refine hK.out _ _ (SnC.of Sw5.out.box rfl rfl Kw5.out) (fun hHeld=>?_)
  clear hHeld hK K
  try simp only [Act.put,Zv,Zu,Zt]
  refine Xw [13] 1 (by rfl) (by kernel_rfl) (by kernel_rfl) (fun _ _ d _ _ h=>by cases d<;>exact h) (SnC.of Sw5.out.box rfl rfl Kw5.out) ?_
  simp only [Z1,Z2,Z3,Zw,Zx]
  (refine Xu (v:=?_) (by kernel_rfl) ?_ ?_;rotate_left;(focus ((intro wT hST;obtain ⟨hS0,hS1,h0,h1,h2,h3,h4⟩:=hST;go_simp);(first|done|(with_reducible rfl))));(try simp only [Act.put,Zv,Zu,Zt]))
  refine Xt ?_
  refine wpAnyH_ready (rs:=[12]) (by kernel_rfl) (by simp) ?_;refine Ys (o:=_) rfl (fun K hK=>?_) Yr
  refine Xa Xe (.tmp 71) (.tmp 75) 22 (by rfl) (by rfl) (by rfl) (by rfl) (Sw5.out.rows.get (i:=3) rfl rfl) (by rfl) RRw5.out (by simp only [Zl,Zk];rw [Hl3b.out];omega) (by show (_:Nat)≤1000;simp [Wr,rcE,Xe]) (by have:=Sw5.out.box.lt;omega) ?_
  intro Aw6 nw6 cw6 w6 hg
  have Sw6:=Yw (Sw5.out.grow (i:=3) (Yl _) rfl hg)
  have Kw6:=Yw (Kw5.out.chg hg.chg (fun e=>by have:=Hl3.out _ e;omega))
  skip
  clear hg
  refine hK.out _ _ (SnC.of Sw6.out.box rfl rfl Kw6.out) (fun hHeld=>?_)
  clear hHeld hK K
  try simp only [Act.put,Zv,Zu,Zt]
  refine wpAnyH_done (by kernel_rfl) ?_ _
  simp only [Vq,Z4,Z5]
  have b2:=Sw6.out.box.at_ 4 (by simp)
  have b3:=Sw6.out.box.at_ 5 (by simp)
  have bf:=Sw6.out.box.fz
  simp only [Zx,Zw] at b2 b3
  have SZ:=Yw (((Sw6.out.put (j:=4) (by simp) (.slice Aw5 nw5 cw5))).put (j:=5) (by simp) (.slice Aw6 nw6 cw6))
  have hsbl:=Sw6.out.box.lt
  go_wp2_with fail
  go_roundw
  case rel=>exact ⟨i+1,_,_,by omega,by go_num,by have:=SZ.out;rw [Za,Za,Zn,Zn,Hp.out];exact this⟩
  case measure=>(simp [intOf];omega)
 have hd_i:decide ((i:Int) < (n4:Int))=false:=Yg (by omega)
 obtain rfl:n4=i:=by omega
 have D1:=Yw (H.out.ext S1.out.ext)
 have b1:wr.cell? ⟨b,1,none⟩=some d.mv:=D1.out.c 1 rfl
 obtain ⟨Am,Cm,hmv,hlm,hcm⟩:=RdE.shape H.out.ptr
 obtain ⟨n5,hn5⟩:∃ x,d.ms.length=x:=⟨_,rfl⟩
 rw [Zq,hn5] at hmv hlm
 rw [hmv] at b1
 have Hn5:=Yw hn5
 have Hmv:=Yw hmv
 have hn5b:n5≤64:=by rw [← hn5];exact H.out.lm
 have S5:=Yw (show P8 w wr sb [.int .i64 d.x.clock,.int .i64 d.x.sum,kv,rv,lv,ov,Gv] [kv,rv,lv,ov,Gv] [Wr.row (d.x.rs.map Prod.fst),rcE.row (d.x.rs.map Prod.snd),Wr.row (d.x.ks.map Prod.fst),Xe.row (d.x.ks.map fun p=>p.2.ow),Xe.row []] from by
  have:=S1.out
  rwa [Zm (by rw [Zq,Hn4.out];exact Yo _),Zm (by rw [Zq,Hn4.out];exact Yo _)] at this)
 clear hn5 hmv S1 D1
 go_wp2_with fail
 go_loopw [85] (fun o wr=>∃ (i:Nat) (pv:Value),i≤n5∧o=.int .i64 (i:Int)∧P8 w wr sb [.int .i64 d.x.clock,.int .i64 d.x.sum,kv,rv,lv,ov,pv] [kv,rv,lv,ov,pv] [Wr.row (d.x.rs.map Prod.fst),rcE.row (d.x.rs.map Prod.snd),Wr.row (d.x.ks.map Prod.fst),Xe.row (d.x.ks.map fun p=>p.2.ow),Xe.row ((d.ms.map fun p=>p.2.st).take i)]) (fun o _=>n5 - (intOf o).toNat)
 case atStart=>exact ⟨0,_,by omega,rfl,S5.out⟩
 obtain ⟨i,pv,hi,rfl,hS⟩:=hrel
 rename World=>wr
 have S1:=Yw hS
 clear hS S5 b1
 by_cases hlt:i < n5
 ·have hd_i:decide ((i:Int) < (n5:Int))=true:=Yf (by omega)
  have i0_i:(0:Int)≤(i:Int):=by omega
  have i1_i:(i:Int) < (n5:Int):=by omega
  obtain ⟨⟨mb,m⟩,hm⟩:∃ p,d.ms[i]?=some p:=⟨d.ms[i]'(by rw [Hn5.out];exact hlt),Zz _⟩
  have D1:=Yw (H.out.ext S1.out.ext)
  obtain ⟨gm,om,cm,hmv2,cm1⟩:=Ni D1.out.ptr (k:=i) (x:=mb) (by rw [Zn,hm];rfl)
  rw [Zq,Hn5.out,Hmv.out] at hmv2
  simp only [Ye] at hmv2
  obtain ⟨rfl,-,rfl⟩:=hmv2
  have z13:wr.cell? ⟨mb,13,none⟩=some (.int .i64 m.st):=((D1.out.mach _ (Zy hm)).1).c 13 rfl
  have hml:=((D1.out.mach _ (Zy hm)).1).cells.lt
  have hsl:=S1.out.box.lt
  have b6:=S1.out.box.at_ 6 (by simp)
  simp only [Zx,Zw] at b6
  obtain ⟨Ap,Cp,rfl,_,_⟩:=(S1.out.rows.get (E:=Xe) (i:=4) rfl rfl).shape
  obtain ⟨lp,hlp⟩:∃ x,(List.take i (d.ms.map fun p=>p.2.st)).length=x:=⟨_,rfl⟩
  have hlp2:lp≤64:=by rw [← hlp,Zp];omega
  rw [hlp] at S1 b6
  have Hlp:=Yw hlp
  have Hm:=Yw hm
  unfold Zqx at cm1
  clear hlp D1 hm
  go_upto_region 15 with fail
  go_region_law ((refine Xa Xe (.tmp 90) (.tmp 95) 22 (by rfl) (by rfl) (by rfl) (by rfl) ((S1.out.up ((Yl wr).alloc (.cells #[.int .i64 m.st] 3)).drew).rows.get (i:=4) rfl rfl) (by rfl) (RdE.ext (Dx m.st 3 wr _ rfl) (Yl _).drew) (by simp only [Zl,Zk];rw [Hlp.out];omega) (by show (8:Nat)≤1000;omega) (S1.out.up ((Yl wr).alloc (.cells #[.int .i64 m.st] 3)).drew).box.lt ?_);intro A7 n7 c7 w7 hg7;have S7:=Yw ((S1.out.up ((Yl wr).alloc (.cells #[.int .i64 m.st] 3)).drew).grow (i:=4) (Yl _) rfl hg7);have b6':=S7.out.box.at_ 6 (by simp);have bf:=S7.out.box.fz;(simp only [Zx,Zw] at b6');clear hg7)
  all_goals
   have SZ:=Yw (S7.out.put (j:=6) (by simp) (.slice A7 n7 c7))
   have hsbl:=S7.out.box.lt
   go_wp2_with fail
   go_roundw
   case rel=>exact ⟨i+1,_,by omega,by go_num,by have:=SZ.out;rw [Za,Zn,Hm.out];exact this⟩
   case measure=>(simp [intOf];omega)
 have hd_i:decide ((i:Int) < (n5:Int))=false:=Yg (by omega)
 obtain rfl:n5=i:=by omega
 have S6:=Yw (show P8 w wr sb [.int .i64 d.x.clock,.int .i64 d.x.sum,kv,rv,lv,ov,pv] [kv,rv,lv,ov,pv] [Wr.row (d.x.rs.map Prod.fst),rcE.row (d.x.rs.map Prod.snd),Wr.row (d.x.ks.map Prod.fst),Xe.row (d.x.ks.map fun p=>p.2.ow),Xe.row (d.ms.map fun p=>p.2.st)] from by
  have:=S1.out
  rwa [Zm (by rw [Zq,Hn5.out];exact Yo _)] at this)
 clear S1
 obtain ⟨A0,C0,rfl,_,_⟩:=(S6.out.rows.get (E:=Wr) (i:=0) rfl rfl).shape
 obtain ⟨A1,C1,rfl,_,_⟩:=(S6.out.rows.get (E:=rcE) (i:=1) rfl rfl).shape
 obtain ⟨A2,C2,rfl,_,_⟩:=(S6.out.rows.get (E:=Wr) (i:=2) rfl rfl).shape
 obtain ⟨A5,C5,rfl,_,_⟩:=(S6.out.rows.get (E:=Xe) (i:=3) rfl rfl).shape
 obtain ⟨A6,C6,rfl,_,_⟩:=(S6.out.rows.get (E:=Xe) (i:=4) rfl rfl).shape
 obtain ⟨m0,hm0⟩:∃ x,(d.x.rs.map Prod.fst).length=x:=⟨_,rfl⟩
 obtain ⟨m1,hm1⟩:∃ x,(d.x.rs.map Prod.snd).length=x:=⟨_,rfl⟩
 obtain ⟨m2,hm2⟩:∃ x,(d.x.ks.map Prod.fst).length=x:=⟨_,rfl⟩
 obtain ⟨m3,hm3⟩:∃ x,(d.x.ks.map fun p=>p.2.ow).length=x:=⟨_,rfl⟩
 obtain ⟨m4,hm4⟩:∃ x,(d.ms.map fun p=>p.2.st).length=x:=⟨_,rfl⟩
 rw [hm0,hm1,hm2,hm3,hm4] at S6
 clear hm0 hm1 hm2 hm3 hm4
 have t0:=S6.out.box.at_ 0 (by simp)
 have t1:=S6.out.box.at_ 1 (by simp)
 have t2:=S6.out.box.at_ 2 (by simp)
 have t3:=S6.out.box.at_ 3 (by simp)
 have t4:=S6.out.box.at_ 4 (by simp)
 have t5:=S6.out.box.at_ 5 (by simp)
 have t6:=S6.out.box.at_ 6 (by simp)
 simp only [Zx,Zw] at t0 t1 t2 t3 t4 t5 t6
 have hthere:wr.there rb 0 7:=fun j hj=>by
  have hR:=S6.out.res
  rw [Hrb.out] at hR
  rw [Nat.zero_add]
  exact ⟨by rw [hR.at_ j (by simp;omega),Zz (by simp;omega)];rfl,hR.fz j⟩
 have hone:=all_oneCell_toArray (show ∀ v∈([.int .i64 d.x.clock,.int .i64 d.x.sum,.slice A0 m0 C0,.slice A1 m1 C1,.slice A2 m2 C2,.slice A5 m3 C5,.slice A6 m4 C6]:List Value),v.oneCell'=true from by
  intro v hv
  simp only [Zg,Zh,or_false] at hv
  rcases hv with rfl|rfl|rfl|rfl|rfl|rfl|rfl<;>rfl)
 have hrange:=World.rangeAt_setCells_same wr rb 0 [.int .i64 d.x.clock,.int .i64 d.x.sum,.slice A0 m0 C0,.slice A1 m1 C1,.slice A2 m2 C2,.slice A5 m3 C5,.slice A6 m4 C6] hthere
 have cst:=Xl (S:=(· = rb)) (b:=rb) (.inl rfl) (vs:=[.int .i64 d.x.clock,.int .i64 d.x.sum,.slice A0 m0 C0,.slice A1 m1 C1,.slice A2 m2 C2,.slice A5 m3 C5,.slice A6 m4 C6]) (o:=0) (Chg.refl (· = rb) wr)
 have ZX:=Yw (S6.out.ext.chg_new cst (fun q e=>by have:=Hrb.out;omega))
 have ZR:=Yw (S6.out.rows.chg cst (fun q hq e=>by omega))
 have Hra:=Yw hrange
 have Hth:=Yw hthere
 have hsl:=S6.out.box.lt
 have hwr:=S6.out.ext.size
 clear cst hrange hthere
 go_wp2_with (refine wpList_store_mid rfl _ _ _ rfl rb 0 ([.int .i64 d.x.clock,.int .i64 d.x.sum,.slice A0 m0 C0,.slice A1 m1 C1,.slice A2 m2 C2,.slice A5 m3 C5,.slice A6 m4 C6]:List Value).toArray rfl rfl Hth.out (by rw [Pj];rfl) hone ?_)
 have q0:=Hra.out 0 _ rfl
 have q1:=Hra.out 1 _ rfl
 have q2:=Hra.out 2 _ rfl
 have q3:=Hra.out 3 _ rfl
 have q4:=Hra.out 4 _ rfl
 have q5:=Hra.out 5 _ rfl
 have q6:=Hra.out 6 _ rfl
 simp only [Nat.zero_add] at q0 q1 q2 q3 q4 q5 q6
 obtain ⟨W9,hW9⟩:∃ W,wr.setCells rb 0 [.int .i64 d.x.clock,.int .i64 d.x.sum,.slice A0 m0 C0,.slice A1 m1 C1,.slice A2 m2 C2,.slice A5 m3 C5,.slice A6 m4 C6]=W:=⟨_,rfl⟩
 rw [hW9] at ZX ZR q0 q1 q2 q3 q4 q5 q6
 rw [show wr.setCells rb 0 ([.int .i64 d.x.clock,.int .i64 d.x.sum,.slice A0 m0 C0,.slice A1 m1 C1,.slice A2 m2 C2,.slice A5 m3 C5,.slice A6 m4 C6]:List Value).toArray.toList=W9 from hW9]
 clear Hra Hth hone hW9
 have rdd:∀ {α:Type} {E:Enc α} {i:Nat} {v:Value} {l:List α},Own E W9 (sb+1) v l→RdE E W9 (fun k=>w.heap.size≤k) v l:=fun o=>Rd.mono o.rd fun k hk _=>by have:=Hrb.out;omega
 refine Yt (v:=.agg #[.int .i64 d.x.clock,.int .i64 d.x.sum,.slice A0 m0 C0,.slice A1 m1 C1,.slice A2 m2 C2,.slice A5 m3 C5,.slice A6 m4 C6]) (by simp [results,Tryz.results38,go_sem,q0,q1,q2,q3,q4,q5,q6]) rfl ?_
 exact ⟨_,_,_,_,_,rfl,rdd (i:=0) (ZR.out.get (E:=Wr) (i:=0) rfl rfl),rdd (i:=0) (ZR.out.get (E:=rcE) (i:=1) rfl rfl),rdd (i:=0) (ZR.out.get (E:=Wr) (i:=2) rfl rfl),rdd (i:=0) (ZR.out.get (E:=Xe) (i:=3) rfl rfl),rdd (i:=0) (ZR.out.get (E:=Xe) (i:=4) rfl rfl),ZX.out⟩
theorem Zse {U:Nat→Prop} {T:Tbl} {b B:Nat} {d:Dk} (w:World) (h:Wt w U T b B d):Calls Tryz.prog 34 #[.pointer (some ⟨b,0,none⟩)] w fun e w'=>e=.returned d.ov∧w=w':=by
 have c3:w.cell? ⟨b,3,none⟩=some d.ov:=h.c 3 rfl
 obtain ⟨A,C,hv,_,_⟩:=h.own.shape
 rw [hv] at c3 ⊢
 clear h hv
 go_enter Tryz.func34,Tryz.ntmps34
 go_wp2_with fail
 go_ret
 exact ⟨rfl,rfl⟩
theorem Rd.ne_blk {w:World} {S:Nat→Prop} {z n rb:Nat} {v:Value} {xs:List Value} (h:Rd w S z v n xs) (h00:xs=[]→n=0) (hne:∀ (o:Nat) u,xs[0]?=some u→w.cell? ⟨rb,o,none⟩≠some u):Rd w (fun k=>S k∧k≠rb) z v n xs:=by
 obtain ⟨h1,A,c,hv,h2,h3,h4⟩:=h
 refine ⟨h1,A,c,hv,h2,h3,fun h0=>?_⟩
 obtain ⟨g,o,e,hS,hg,hc⟩:=h4 h0
 refine ⟨g,o,e,⟨hS,fun e2=>?_⟩,hg,hc⟩
 subst e2
 cases xs with
 | nil=>have:=h00 rfl;omega
 | cons u r=>exact absurd (hc 0 u rfl) (hne _ u rfl)
theorem Zof {w:World} {b:Nat} {cs:Array Value} {t:TypeId} (h:w.heap[b]?=some (.cells cs t)):Xs w b cs.toList :=
 ⟨(Array.getElem?_eq_some_iff.1 h).1,fun k=>by simp [World.frozen?,h],fun k hk=>by simp only [World.cell?,h];simp⟩
theorem Zq8 {w:World} {b o:Nat} {u:Value} {t:TypeId} (h:w.heap[b]?=some (.cells #[.int .i64 0,.int .i64 0,.slice none 0 0,.slice none 0 0,.slice none 0 0,.slice none 0 0,.slice none 0 0] t)) (hc:w.cell? ⟨b,o,none⟩=some u):∀ s,u≠.string s:=by
 simp only [World.cell?,h] at hc
 intro s e
 subst e
 have h1:=Array.mem_of_getElem? hc
 simp at h1
theorem Zun {ns:List Nm} {u:Value} (h:(Xb ns)[0]?=some u):∃ s,u=.string s:=by
 cases ns with
 | nil=>simp [Xb] at h
 | cons n r =>
  have h1:some (Value.string n.a)=some u:=h
  exact ⟨_,(Option.some.inj h1).symm⟩
def SnV (v:Value):Prop:=∃ (x y:Int) (a0 a1 a2 a3 a4:Option Addr) (n0 n1 n2 n3 n4 c0 c1 c2 c3 c4:Nat),v=.agg #[.int .i64 x,.int .i64 y,.slice a0 n0 c0,.slice a1 n1 c1,.slice a2 n2 c2,.slice a3 n3 c3,.slice a4 n4 c4]
def Zq9 (w:World) (e:Ending) (w':World):Prop:=∃ (ov sv:Value) (os:List OpS),e=.returned (.tuple #[ov,sv,.int .i64 0])∧SnV sv∧OpsAt w' (fun _=>True) ov (os.map Subtype.val)∧os.length≤4096∧(∀ o∈os,o.1.ns.length≤16)∧Ext w w'
theorem Zsw {S R:Nat→Prop} (T:Tbl) (hg:Eu T) (n:Nat) (cp:Int) (hn:0 < n) (hn2:n≤64) (hc:Um n cp=0) (v:Value) (l:List Rt) (w:World) (h:Xm w S T) (hl:RdE Zyb w R v l) (hll:l.length≤4096):Calls Tryz.prog 9 #[Wc T,.agg #[.int .i64 (n:Int),.int .i64 cp],v] w (Zq9 w):=by
 obtain ⟨Al,Cl,rfl,_,_⟩:=hl.shape
 obtain ⟨m,hm⟩:∃ x,l.length=x:=⟨_,rfl⟩
 rw [hm] at hl hll ⊢
 have HL:=Yw hl
 have Hm:=Yw hm
 have G:=Yw hg
 have Hc:=Yw hc
 have HT:=Yw h
 clear hg hc hl hm
 have X0:=Yw ((Yl w).alloc (Xf T))
 have H:=Yw (h.up X0.out)
 have Hb0:=Yw (Xq w T)
 clear h
 have d1:decide ((4096:Int) < (m:Int))=false:=Yg (by omega)
 go_enter Tryz.func9,Tryz.ntmps9
 go_wp2_with (first|(refine Xy rfl ?_)|(refine Y4 (Hb0.out.ext (((Yl _).alloc _).alloc _)) rfl ?_))
 have X1:=Yw ((X0.out.alloc (.cells #[.int .i64 (n:Int),.int .i64 cp] 37)).alloc (.cells #[.int .i64 0,.int .i64 0,.slice none 0 0,.slice none 0 0,.slice none 0 0,.slice none 0 0,.slice none 0 0] 27))
 have RB:=Yw (heap_alloc_new (((w.alloc (Xf T))).alloc (.cells #[.int .i64 (n:Int),.int .i64 cp] 37)) (.cells #[.int .i64 0,.int .i64 0,.slice none 0 0,.slice none 0 0,.slice none 0 0,.slice none 0 0,.slice none 0 0] 27))
 have hsz:(((w.alloc (Xf T))).alloc (.cells #[.int .i64 (n:Int),.int .i64 cp] 37)).heap.size=w.heap.size+1+1:=by simp
 rw [hsz] at RB
 obtain ⟨W1,hW1⟩:∃ W,((((w.alloc (Xf T))).alloc (.cells #[.int .i64 (n:Int),.int .i64 cp] 37)).alloc (.cells #[.int .i64 0,.int .i64 0,.slice none 0 0,.slice none 0 0,.slice none 0 0,.slice none 0 0,.slice none 0 0] 27))=W:=⟨_,rfl⟩
 rw [hW1] at X1 RB
 rw [hW1]
 obtain ⟨rb,hrb⟩:∃ x,w.heap.size+1+1=x:=⟨_,rfl⟩
 rw [hrb] at RB
 try rw [hrb]
 have hrw:w.heap.size < rb:=by omega
 clear hW1 hrb hsz
 refine (Rn T G.out n cp hn hn2 Hc.out _ (HT.out.up X1.out)).mono ?_
 rintro e w2 ⟨b,d,U,rfl,hD,hml,hmn,hx,hn0,ht0,ho0,hla,hbs,hx2⟩
 obtain ⟨B,hB⟩:∃ x,W1.heap.size=x:=⟨_,rfl⟩
 rw [hB] at hD
 have hBw:w.heap.size≤B:=by rw [← hB];exact X1.out.size
 have hrB:rb < B:=by rw [← hB];exact (Array.getElem?_eq_some_iff.1 RB.out).1
 have D2:=Yw hD
 have X2:=Yw (X1.out.trans hx2)
 have R2:=Yw ((hx2.block (Array.getElem?_eq_some_iff.1 RB.out).1).trans RB.out)
 have L2:=Yw (show Ox d from fun j p z h1 _ h3=>absurd (by rw [hmn j p h1];rfl) h3)
 have Hml:=Yw hml
 have Hn0:=Yw hn0
 have Ht0:=Yw ht0
 clear hD hml hmn hx hn0 ht0 ho0 hla hbs hx2 hB RB X1
 go_wp2_with fail
 go_loopw [29] (fun o wr=>∃ (i:Nat) (d:Dk) (U:Nat→Prop),i≤m∧o=.int .i64 (i:Int)∧Wt wr U T b B d∧Ox d∧d.ms.length=n∧d.n≤i∧d.t=i∧Ext w wr∧wr.heap[rb]?=some (.cells #[.int .i64 0,.int .i64 0,.slice none 0 0,.slice none 0 0,.slice none 0 0,.slice none 0 0,.slice none 0 0] 27)) (fun o _=>m - (intOf o).toNat)
 case atStart=>exact ⟨0,d,U,by omega,rfl,D2.out,L2.out,Hml.out,by rw [Hn0.out];omega,Ht0.out,X2.out,R2.out⟩
 clear D2 X2 R2 L2 Hml Hn0 Ht0 d U
 obtain ⟨i,d,U,hi,rfl,hD,hL,hml,hn0,ht0,hx,hr⟩:=hrel
 rename World=>wr
 have D1:=Yw hD
 have L1:=Yw hL
 have Hml:=Yw hml
 have Hn0:=Yw hn0
 have Ht0:=Yw ht0
 have X1:=Yw hx
 have R1:=Yw hr
 clear hD hL hml hn0 ht0 hx hr
 by_cases hlt:i < m
 ·have hd_i:decide ((i:Int) < (m:Int))=true:=Yf (by omega)
  have i0_i:(0:Int)≤(i:Int):=by omega
  have i1_i:(i:Int) < (m:Int):=by omega
  obtain ⟨a,ha⟩:∃ a,l[i]?=some a:=⟨l[i]'(by rw [Hm.out];exact hlt),Zz _⟩
  obtain ⟨g,o,c',hvv,_,_,_,hgl,hcc⟩:=Rd.at_ (RdE.ext HL.out X1.out) (k:=i) (by rw [Hm.out];exact hlt)
  simp only [Ye] at hvv
  obtain ⟨rfl,-,rfl⟩:=hvv
  obtain ⟨e0,e1,e2,e3⟩:=Cy ha
  have a0:=hcc _ _ e0
  have a1:=hcc _ _ e1
  have a2:=hcc _ _ e2
  have a3:=hcc _ _ e3
  rw [← Nat.add_assoc] at a1 a2 a3
  clear hcc e0 e1 e2 e3 ha
  go_wp2_with fail
  refine (Zqd T G.out.few G.out b B d a.kind a.cl a.n a.text _ (D1.out.ext ((Yl _).alloc _)) (by have:=Hn0.out;omega) (by have:=Ht0.out;omega) L1.out (by rw [Hml.out];exact hn)).mono ?_
  rintro e w3 ⟨r,d',U',rfl,hD,hL,hC,hml',ht',hn'⟩
  have D3:=Yw hD
  have L3:=Yw hL
  have X3:=Yw ((X1.out.alloc (.cells #[.int .i64 a.kind,.int .i64 a.cl,.int .i64 a.n,.string a.text] 78)).chg_new hC (fun q hq=>by omega))
  have R3:=Yw (by
   have h1:=(((Yl wr).alloc (.cells #[.int .i64 a.kind,.int .i64 a.cl,.int .i64 a.n,.string a.text] 78)).block (Array.getElem?_eq_some_iff.1 R1.out).1).trans R1.out
   exact (hC.block rb (Array.getElem?_eq_some_iff.1 h1).1 (by omega)).trans h1)
  have Hml':=Yw hml'
  have Ht':=Yw ht'
  have Hn':=Yw hn'
  clear hD hL hC hml' ht' hn' a0 a1 a2 a3
  go_wp2_with fail
  go_roundw
  case rel=>exact ⟨i+1,d',U',by omega,by go_num,D3.out,L3.out,by rw [Hml'.out];exact Hml.out,by have:=Hn'.out;have:=Hn0.out;omega,by rw [Ht'.out,Ht0.out],X3.out,R3.out⟩
  case measure=>(simp [intOf];omega)
 have hd_i:decide ((i:Int) < (m:Int))=false:=Yg (by omega)
 go_wp2_with fail
 refine (Zse _ D1.out).mono ?_
 rintro e w3 ⟨rfl,rfl⟩
 obtain ⟨Ao,Co,hov,_,_⟩:=D1.out.own.shape
 rw [hov]
 have Hov:=Yw hov
 clear hov
 go_wp2_with fail
 refine (Ztb T b B d _ D1.out (by have:=Hn0.out;omega)).mono ?_
 rintro e w4 ⟨kv,rv,lv,ov,pv,rfl,s0,s1,s2,s3,s4,hx4⟩
 have D4:=Yw (D1.out.ext hx4)
 have X4:=Yw (X1.out.trans hx4)
 have R4h:=Yw ((hx4.block (Array.getElem?_eq_some_iff.1 R1.out).1).trans R1.out)
 have R4:=Yw (Zof R4h.out)
 have hone:=all_oneCell_toArray (show ∀ v∈([.int .i64 d.x.clock,.int .i64 d.x.sum,kv,rv,lv,ov,pv]:List Value),v.oneCell'=true from by
  obtain ⟨_,_,e0,_⟩:=s0.shape
  obtain ⟨_,_,e1,_⟩:=s1.shape
  obtain ⟨_,_,e2,_⟩:=s2.shape
  obtain ⟨_,_,e3,_⟩:=s3.shape
  obtain ⟨_,_,e4,_⟩:=s4.shape
  intro v hv
  simp only [Zg,Zh,or_false] at hv
  rcases hv with rfl|rfl|rfl|rfl|rfl|rfl|rfl
  ·rfl
  ·rfl
  ·rw [e0];rfl
  ·rw [e1];rfl
  ·rw [e2];rfl
  ·rw [e3];rfl
  rw [e4];rfl)
 have Hsn:=Yw (show SnV (.agg #[.int .i64 d.x.clock,.int .i64 d.x.sum,kv,rv,lv,ov,pv]) from by
  obtain ⟨_,_,e0,_⟩:=s0.shape
  obtain ⟨_,_,e1,_⟩:=s1.shape
  obtain ⟨_,_,e2,_⟩:=s2.shape
  obtain ⟨_,_,e3,_⟩:=s3.shape
  obtain ⟨_,_,e4,_⟩:=s4.shape
  exact ⟨_,_,_,_,_,_,_,_,_,_,_,_,_,_,_,_,_,by rw [e0,e1,e2,e3,e4]⟩)
 have hthere:w4.there rb 0 7:=fun j hj=>by
  rw [Nat.zero_add]
  exact ⟨by rw [R4.out.at_ j (by simp;omega),Zz (by simp;omega)];rfl,R4.out.fz j⟩
 have hrange:=World.rangeAt_setCells_same w4 rb 0 [.int .i64 d.x.clock,.int .i64 d.x.sum,kv,rv,lv,ov,pv] hthere
 have cst:=Xl (S:=(· = rb)) (b:=rb) (.inl rfl) (vs:=[.int .i64 d.x.clock,.int .i64 d.x.sum,kv,rv,lv,ov,pv]) (o:=0) (Chg.refl (· = rb) w4)
 have ZX:=Yw (X4.out.chg_new cst (fun q e=>by omega))
 have ZO:=Yw (show OpsAt (w4.setCells rb 0 [.int .i64 d.x.clock,.int .i64 d.x.sum,kv,rv,lv,ov,pv]) (fun _=>True) d.ov (d.ops.map Subtype.val) from by
  have h1:=Own.rd (E:=opE) D4.out.own
  refine ⟨?_,fun o ho=>?_⟩
  ·rw [Zq]
   exact Rd.mono (Rd.chg h1 cst (fun q hq e=>by have:B≤q:=hq;omega)) fun _ _ _=>trivial
  obtain ⟨x,hx,rfl⟩:=List.mem_map.1 ho
  have hn:=D4.out.nms x hx
  exact Rd.mono (Rd.chg (Rd.ne_blk hn (fun e=>by cases hns:x.1.ns with|nil=>rfl|cons a r=>rw [hns] at e;simp [Xb,Q8] at e) (fun o u hu hc=>by
   have h2:=Zq8 R4h.out hc
   obtain ⟨s',hs'⟩:=Zun hu
   rw [hs'] at h2
   exact h2 _ rfl)) cst (fun q hq e=>hq.2 e)) fun _ _ _=>trivial)
 have Hra:=Yw hrange
 have Hth:=Yw hthere
 have Hone:=Yw hone
 clear cst hrange hthere s0 s1 s2 s3 s4 hx4 hone
 go_wp2_with (refine wpList_store_mid rfl _ _ _ rfl rb 0 ([.int .i64 d.x.clock,.int .i64 d.x.sum,kv,rv,lv,ov,pv]:List Value).toArray rfl rfl Hth.out (by rw [Pj];rfl) Hone.out ?_)
 have q0:=Hra.out 0 _ rfl
 have q1:=Hra.out 1 _ rfl
 have q2:=Hra.out 2 _ rfl
 have q3:=Hra.out 3 _ rfl
 have q4:=Hra.out 4 _ rfl
 have q5:=Hra.out 5 _ rfl
 have q6:=Hra.out 6 _ rfl
 simp only [Nat.zero_add] at q0 q1 q2 q3 q4 q5 q6
 obtain ⟨W9,hW9⟩:∃ W,w4.setCells rb 0 [.int .i64 d.x.clock,.int .i64 d.x.sum,kv,rv,lv,ov,pv]=W:=⟨_,rfl⟩
 rw [hW9] at ZX ZO q0 q1 q2 q3 q4 q5 q6
 rw [show w4.setCells rb 0 ([.int .i64 d.x.clock,.int .i64 d.x.sum,kv,rv,lv,ov,pv]:List Value).toArray.toList=W9 from hW9]
 clear Hra Hth Hone hW9
 refine Yt (v:=.tuple #[.slice Ao d.ops.length Co,.agg ([.int .i64 d.x.clock,.int .i64 d.x.sum,kv,rv,lv,ov,pv]:List Value).toArray,.int .i64 0]) (by simp [results,Tryz.results9,go_sem,q0,q1,q2,q3,q4,q5,q6]) rfl ?_
 exact ⟨_,_,d.ops,rfl,Hsn.out,by rw [← Hov.out];exact ZO.out,D4.out.lo,D4.out.n16,ZX.out⟩
end Go.Proofs.YtnbclgbicnpmnaaGreat
