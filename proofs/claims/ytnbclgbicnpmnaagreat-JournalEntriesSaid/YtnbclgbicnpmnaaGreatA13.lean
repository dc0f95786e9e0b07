/- Lemmas of this claim: Dk2, ModG, Da, Db, Nd, Dk3, P3, Ne. Conditions: as named. -/
import Derived.Deep.LoopGhost
import Derived.Test.YtnbclgbicnpmnaaGreatA03
import Derived.Test.YtnbclgbicnpmnaaGreatA05
import Derived.Test.YtnbclgbicnpmnaaGreatA07
import Derived.Test.YtnbclgbicnpmnaaGreatA09
import Derived.Test.YtnbclgbicnpmnaaGreatA12
namespace Go.Proofs.YtnbclgbicnpmnaaGreat
open Go.RowKit Go.Sort
open List renaming getElem?_eq_getElem → Zz, mem_of_getElem? → Zy, getElem?_cons_zero → Zx, getElem?_cons_succ → Zw, set_cons_zero → Zu, set_cons_succ → Zt, length_append → Zs, getElem?_eq_some_iff → Zr, length_take → Zp, getElem?_map → Zn, take_of_length_le → Zm, length_cons → Zl, mem_append → Zj, mem_singleton → Zi, not_mem_nil → Zh, mem_cons → Zg, length_set → Zf, getElem?_append_left → Ze, getElem?_append_right → Zd, getElem?_set_self → Zc, getElem?_set_ne → Zb, take_add_one → Za, length_replicate → Z0, drop_succ_cons → Z4, drop_zero → Z5, take_succ_cons → Z6, take_zero → Z7, map_append → Z9, getElem?_set → Yx
open Lib renaming hid → Yw
open Go renaming wpQuiet_step → Yv, wpQuiet_nil → Yu, bodyPost_ret → Yt
open IntWalk renaming i64_in → Yq
open Classical renaming choose_spec → Yp
open Nat renaming le_refl → Yo
open _root_.ByteArray renaming size_append → Ym
open Ext renaming refl → Yl, alloc → Yk
set_option maxHeartbeats 40000000
set_option maxRecDepth 100000
set_option linter.all false
theorem Gp:(Tryz.prog.info? 55).map (fun i=>(i.zero,i.size,i.bytes))=some (some (.agg #[.int .i64 0,.int .i64 0,.int .i64 0,.slice none 0 0,.int .i64 0,.int .i64 0,.string ⟨#[]⟩,.int .i64 0,.int .i64 0,.string ⟨#[]⟩,.int .i64 0,.int .i64 0,.int .i64 0,.int .i64 0,.int .i64 0,.int .i64 0,.int .i64 0,.string ⟨#[]⟩,.int .i64 0,.int .i64 0,.string ⟨#[]⟩,.int .i64 0,.int .i64 0]),23,232):=by kernel_rfl
theorem Zth:Tryz.prog.underlying 23=some (.slice 55):=by kernel_rfl
abbrev OpS:={o:Opn // o.nv.oneCell'=true}
def Zrc (l:List OpS):List Value:=Gh (l.map Subtype.val)
theorem Qy:∀ a b:List Opn,Gh (a++b)=Gh a++Gh b
 | [],_=>rfl
 | n::r,b=>by simp [Gh,Qy r b]
theorem Zt5 (l:List OpS):∀ u∈Zrc l,u.oneCell'=true:=by
 induction l with
 | nil=>simp [Zrc,Gh]
 | cons o r ih =>
  intro u hu
  obtain ⟨o,ho⟩:=o
  simp only [Zrc,List.map_cons,Gh,Zj] at hu
  rcases hu with hu|hu
  ·simp only [opC,Zg,Zh,or_false] at hu
   rcases hu with rfl|rfl|rfl|rfl|rfl|rfl|rfl|rfl|rfl|rfl|rfl|rfl|rfl|rfl|rfl|rfl|rfl|rfl|rfl|rfl|rfl|rfl|rfl
   all_goals first|rfl|exact ho
  exact ih u hu
noncomputable def opE:Enc OpS where
 ty:=55
 sl:=23
 z:=23
 bytes:=232
 cells l:=Zrc l
 app a b:=by simp [Zrc,Qy]
 len l:=by simp [Zrc,Bt]
 one l:=Zt5 l
 und:=Zth
 i:=Classical.choose (info_parts Gp)
 zero:=.agg #[.int .i64 0,.int .i64 0,.int .i64 0,.slice none 0 0,.int .i64 0,.int .i64 0,.string ⟨#[]⟩,.int .i64 0,.int .i64 0,.string ⟨#[]⟩,.int .i64 0,.int .i64 0,.int .i64 0,.int .i64 0,.int .i64 0,.int .i64 0,.int .i64 0,.string ⟨#[]⟩,.int .i64 0,.int .i64 0,.string ⟨#[]⟩,.int .i64 0,.int .i64 0]
 info:=(Yp (info_parts Gp)).1
 hz:=(Yp (info_parts Gp)).2.1
 hs:=(Yp (info_parts Gp)).2.2.1
 hb:=(Yp (info_parts Gp)).2.2.2
 hc:=rfl
 pos:=by omega
theorem Dc:(Tryz.prog.info? 147).map (fun i=>(i.zero,i.size,i.bytes))=some (some (.pointer none),1,8):=by kernel_rfl
theorem Zqo:Tryz.prog.underlying 144=some (.slice 147):=by kernel_rfl
def Zqx (b:Nat):Value:=.pointer (some ⟨b,0,none⟩)
noncomputable def Zt7:Enc Nat where
 ty:=147
 sl:=144
 z:=1
 bytes:=8
 cells l:=l.map Zqx
 app a b:=Z9
 len l:=by simp
 one l:=Ub _ (fun _=>rfl) l
 und:=Zqo
 i:=Classical.choose (info_parts Dc)
 zero:=.pointer none
 info:=(Yp (info_parts Dc)).1
 hz:=(Yp (info_parts Dc)).2.1
 hs:=(Yp (info_parts Dc)).2.2.1
 hb:=(Yp (info_parts Dc)).2.2.2
 hc:=rfl
 pos:=by omega
theorem Zqg {l:List Nat} {j:Nat} {x:Nat} (h:l[j]?=some x):(Zt7.cells l)[j]?=some (Zqx x):=by
 show (l.map Zqx)[j]?=_
 rw [Zn,h];rfl
theorem Bc:(Tryz.prog.info? 24).map (fun i=>(i.zero,i.size,i.bytes))=some (some (.slice none 0 0),1,24):=by kernel_rfl
theorem Zrb:Tryz.prog.underlying 143=some (.slice 24):=by kernel_rfl
noncomputable def ssE:Enc Sl where
 ty:=24
 sl:=143
 z:=1
 bytes:=24
 cells l:=l.map Sl.v
 app a b:=Z9
 len l:=by simp
 one l:=Ub _ (fun _=>rfl) l
 und:=Zrb
 i:=Classical.choose (info_parts Bc)
 zero:=.slice none 0 0
 info:=(Yp (info_parts Bc)).1
 hz:=(Yp (info_parts Bc)).2.1
 hs:=(Yp (info_parts Bc)).2.2.1
 hb:=(Yp (info_parts Bc)).2.2.2
 hc:=rfl
 pos:=by omega
theorem Rx {l:List Sl} {j:Nat} {x:Sl} (h:l[j]?=some x):(ssE.cells l)[j]?=some x.v:=by
 show (l.map Sl.v)[j]?=_
 rw [Zn,h];rfl
structure Dk where
 xb:Nat
 x:Shr
 mv:Value
 ms:List (Nat×Qq)
 gb:Nat
 cb:Nat
 bx:List Sl
 bs_:List (List ByteArray)
 ov:Value
 ops:List OpS
 gl:Nat
 cl:Nat
 last:List Int
 t:Nat
 n:Nat
def Dk.bv (d:Dk):Value:=.slice (some ⟨d.gb,0,none⟩) d.bx.length d.cb
def Dk.lv (d:Dk):Value:=.slice (some ⟨d.gl,0,none⟩) d.last.length d.cl
def Zyp (d:Dk):List Value:=[.pointer (some ⟨d.xb,0,none⟩),d.mv,d.bv,d.ov,d.lv,.int .i64 d.t]
structure Wt (w:World) (U:Nat→Prop) (T:Tbl) (b B:Nat) (d:Dk):Prop where
 cells:Xs w b (Zyp d)
 hU:∀ k,U k→B≤k∧k < w.heap.size
 ub:U b
 ux:U d.xb
 ugb:U d.gb
 ugl:U d.gl
 um:∀ p∈d.ms,U p.1
 uo:∀ k,d.ov.ownBlock=some k→U k
 dis:(b::d.xb::d.gb::d.gl::d.ms.map Prod.fst).Nodup
 dio:∀ k,d.ov.ownBlock=some k→k ∉ b::d.xb::d.gb::d.gl::d.ms.map Prod.fst
 tbl:Xm w (fun k=>¬ U k) T
 shr:V3 w (fun k=>¬ U k) d.xb d.x
 xok:XOk d.n d.x
 ptr:RdE Zt7 w (fun k=>¬ U k) d.mv (d.ms.map Prod.fst)
 mach:∀ p∈d.ms,Wo w (fun k=>¬ U k) T p.1 p.2∧MOk p.2
 box:Own ssE w B d.bv d.bx
 boxes:∀ (j:Nat) (s:Sl) (l:List ByteArray),d.bx[j]?=some s→d.bs_[j]?=some l→RdE Wr w (fun k=>¬ U k) s.v l∧l.length≤8
 lb:d.bx.length=d.ms.length
 lbs:d.bs_.length=d.ms.length
 ll:d.last.length=d.ms.length
 lm:d.ms.length≤64
 own:Own opE w B d.ov d.ops
 nms:∀ o∈d.ops,Wq w (fun k=>¬ U k) o.1.nv o.1.ns
 lo:d.ops.length≤4096
 n16:∀ o∈d.ops,o.1.ns.length≤16
 lown:Own Xe w B d.lv d.last
theorem Zsf {l:List Nat} (nd:l.Nodup) {i j x:Nat} (h1:l[i]?=some x) (h2:l[j]?=some x):i=j:=by
 obtain ⟨a1,e1⟩:=Zr.1 h1
 obtain ⟨a2,e2⟩:=Zr.1 h2
 have:=List.pairwise_iff_getElem.1 nd
 rcases Nat.lt_trichotomy i j with h|h|h
 ·exact absurd (e1.trans e2.symm) (this i j a1 a2 h)
 ·exact h
 exact absurd (e2.trans e1.symm) (this j i a2 a1 h)
theorem Wt.step {w w':World} {U:Nat→Prop} {T:Tbl} {b B k mb:Nat} {d:Dk} {m m':Qq} {x':Shr} (h:Wt w U T b B d) (hk:d.ms[k]?=some (mb,m)) (c:Chg (fun j=>j=mb∨j=d.xb) w w')
 (hm:Wo w' (fun k=>¬ U k) T mb m') (hok:MOk m') (hx:V3 w' (fun k=>¬ U k) d.xb x') (hxo:XOk (d.n+1) x') :
 Wt w' U T b B {d with x:=x',ms:=d.ms.set k (mb,m'),n:=d.n+1}:=by
 have hum:=h.um _ (Zy hk)
 have hux:=h.ux
 have hS:∀ j,¬ U j→¬ (j=mb∨j=d.xb):=fun j hj=>by rintro (rfl|rfl);exact hj hum;exact hj hux
 have hfst:(d.ms.set k (mb,m')).map Prod.fst=d.ms.map Prod.fst:=by
  rw [List.map_set]
  have hkl:=(Zr.1 hk).1
  apply List.ext_getElem?
  intro j
  rw [Yx]
  split
  ·rename_i e
   subst e
   rw [if_pos (by simpa using hkl),Zn,hk];rfl
  rfl
 have hmem:∀ p∈d.ms.set k (mb,m'),(p∈d.ms∧p.1≠mb)∨p=(mb,m'):=fun p hp=>by
  obtain ⟨j,hj⟩:=List.getElem?_of_mem hp
  rw [Yx] at hj
  split at hj
  ·split at hj
   ·exact .inr (Option.some.inj hj).symm
   simp at hj
  rename_i hne
  refine .inl ⟨Zy hj,fun e=>?_⟩
  have nd:(d.ms.map Prod.fst).Nodup:=(List.nodup_cons.1 (List.nodup_cons.1 (List.nodup_cons.1 (List.nodup_cons.1 h.dis).2).2).2).2
  have h1:(d.ms.map Prod.fst)[k]?=some mb:=by rw [Zn,hk];rfl
  have h2:(d.ms.map Prod.fst)[j]?=some mb:=by rw [Zn,hj,← e];rfl
  exact hne (Zsf nd h1 h2)
 have d0:=List.nodup_cons.1 h.dis
 have d1:=List.nodup_cons.1 d0.2
 have d2:=List.nodup_cons.1 d1.2
 have d3:=List.nodup_cons.1 d2.2
 have hmbm:mb∈d.ms.map Prod.fst:=List.mem_map.2 ⟨_,Zy hk,rfl⟩
 have nb:¬ (b=mb∨b=d.xb):=by
  rintro (e|e)
  ·exact d0.1 (by rw [e];simp [hmbm])
  exact d0.1 (by rw [e];simp)
 have ngb:¬ (d.gb=mb∨d.gb=d.xb):=by
  rintro (e|e)
  ·exact d2.1 (by rw [e];simp [hmbm])
  exact d1.1 (by rw [e];simp)
 have ngl:¬ (d.gl=mb∨d.gl=d.xb):=by
  rintro (e|e)
  ·exact d3.1 (by rw [e];simp [hmbm])
  exact d1.1 (by rw [e];simp)
 have nx:∀ p∈d.ms,p.1≠d.xb:=fun p hp e=>d1.1 (by rw [← e];simp;exact .inr (.inr ⟨_,hp⟩))
 exact {
  cells:=h.cells.chg c nb
  hU:=fun j hj=>⟨(h.hU j hj).1,Nat.lt_of_lt_of_le (h.hU j hj).2 c.size⟩
  ub:=h.ub,ux:=h.ux,ugb:=h.ugb,ugl:=h.ugl
  um:=fun p hp=>by rcases hmem p hp with ⟨h1,_⟩|rfl;exact h.um p h1;exact hum
  uo:=h.uo
  dis:=by rw [hfst];exact h.dis
  dio:=by rw [hfst];exact h.dio
  tbl:=h.tbl.chg c hS
  shr:=hx
  xok:=hxo
  ptr:=by rw [hfst];exact Rd.chg h.ptr c hS
  mach:=fun p hp=>by
   rcases hmem p hp with ⟨h1,h2⟩|rfl
   ·exact ⟨(h.mach p h1).1.chg c (by rintro (e|e);exact h2 e;exact nx p h1 e) hS,(h.mach p h1).2⟩
   exact ⟨hm,hok⟩
  box:=h.box.chg c (by intro j hj;simp only [Dk.bv,Value.ownBlock,Yd] at hj;subst hj;exact ngb)
  boxes:=fun j s l h1 h2=>⟨Rd.chg (h.boxes j s l h1 h2).1 c hS,(h.boxes j s l h1 h2).2⟩
  lb:=by simpa using h.lb
  lbs:=by simpa using h.lbs
  ll:=by simpa using h.ll
  lm:=by simpa using h.lm
  own:=h.own.chg c (by
   intro j hj
   have:=h.dio j hj
   rintro (e|e)
   ·exact this (by rw [e];simp [hmbm])
   exact this (by rw [e];simp))
  nms:=fun o ho=>Rd.chg (h.nms o ho) c hS
  lo:=h.lo
  n16:=h.n16
  lown:=h.lown.chg c (by intro j hj;simp only [Dk.lv,Value.ownBlock,Yd] at hj;subst hj;exact ngl)}
open Go.RowKit Go.Sort Go.Shelf
theorem Zz9 {S T:Nat→Prop} (cl cap count client op ttl now:Int) (v rv:Value) (ps:List (Nm×Rc)) (w:World) (hl0:1≤ps.length) (hl1:ps.length≤16) (n0:0≤now) (n1:now≤1073741824) (hc0 : -10000000≤count) (hc1:count≤10000000)
 (hn:Wq w S v (ps.map Prod.fst)) (hr:Lj w T rv (ps.map Prod.snd)) :
 Calls Tryz.prog 72 #[.agg #[.int .i64 cl,.int .i64 cap],.int .i64 client,.int .i64 op,.int .i64 ttl,v,rv,.int .i64 count,.int .i64 now] w fun e w'=>e=.returned (Qd (Ky cap op client ttl now count ps))∧Ext w w':=by
 obtain ⟨A,cA,rfl⟩:=hn.shape
 obtain ⟨_,B,cB,rfl,hB1,hB2,_⟩:=id hr
 obtain ⟨nn,hnn⟩:∃ n,ps.length=n:=⟨_,rfl⟩
 have hm1:(ps.map Prod.fst).length=nn:=by simp [hnn]
 have hm2:(ps.map Prod.snd).length=nn:=by simp [hnn]
 rw [hm1,hm2]
 have Hm1:=Yw hm1
 have Hm2:=Yw hm2
 have Hnn:=Yw hnn
 rw [hnn] at hl0 hl1
 have Hn:=Yw hn
 have Hr:=Yw hr
 clear hn hr hm1 hm2 hnn hB1 hB2
 obtain ⟨cb,hcb⟩:∃ b,w.heap.size=b:=⟨_,rfl⟩
 have Hcb:=Yw hcb
 have kinds:(Vy op=true∧decide (1073741824 - now < ttl)=true∧(Vy op=true∧1073741824 - now < ttl))∨(Vy op=true∧decide (1073741824 - now < ttl)=false∧¬ (Vy op=true∧1073741824 - now < ttl))∨(Vy op=false∧True∧¬ (Vy op=true∧1073741824 - now < ttl)):=by
  cases hT:Vy op with
  | true =>
   by_cases h:1073741824 - now < ttl
   ·exact .inl ⟨rfl,by simpa using h,rfl,h⟩
   exact .inr (.inl ⟨rfl,by simpa using h,fun q=>h q.2⟩)
  | false=>exact .inr (.inr ⟨rfl,trivial,by simp⟩)
 rcases kinds with ⟨hT,hov,hno⟩|hrest
 ·have Hj:=Yw (Zyi (cap:=cap) (client:=client) (count:=count) (ps:=ps) hno)
  clear hno hcb
  go_enter Tryz.func72,Tryz.ntmps72
  go_wp2_with (go_at_call 101;refine (Lk _ _).mono ?_;rintro e w1 ⟨rfl,rfl⟩;rw [hT])
  refine Yt (v:=Qd ⟨8,-1,⟨#[]⟩,default,now⟩) (by simp [results,Tryz.results72,go_sem,Qd,Kr]) rfl ⟨by rw [Hj.out],?_⟩
  (repeat refine Ya ?_ (by first|(simp;done)|(simp;omega)) _)
  exact ((Yl w).alloc _).alloc _
 rcases hrest with ⟨hT,hov,hno⟩ | ⟨hT,hov,hno⟩
 all_goals
  have Hno:=Yw hno
  clear hno
  go_enter Tryz.func72,Tryz.ntmps72
  go_wp2_with (go_at_call 101;refine (Lk _ _).mono ?_;rintro e w1 ⟨rfl,rfl⟩;rw [hT])
  have hz0:RZ ((w.alloc (.cells #[.int .i64 cl,.int .i64 cap] 37)).alloc (.cells #[.int .i64 0,.int .i64 0,.string ⟨#[]⟩,.int .i64 0,.int .i64 0,.string ⟨#[]⟩,.int .i64 0,.int .i64 0] 53)) (cb+1):=by
   have:=Zrj (w.alloc (.cells #[.int .i64 cl,.int .i64 cap] 37))
   rw [show (w.alloc (.cells #[.int .i64 cl,.int .i64 cap] 37)).heap.size=cb+1 by simp [hcb]] at this
   exact this
  have hcf:((w.alloc (.cells #[.int .i64 cl,.int .i64 cap] 37)).alloc (.cells #[.int .i64 0,.int .i64 0,.string ⟨#[]⟩,.int .i64 0,.int .i64 0,.string ⟨#[]⟩,.int .i64 0,.int .i64 0] 53)).cell? ⟨cb,1,none⟩=some (.int .i64 cap):=by rw [← hcb];go_simp
  have hxw:Ext w ((w.alloc (.cells #[.int .i64 cl,.int .i64 cap] 37)).alloc (.cells #[.int .i64 0,.int .i64 0,.string ⟨#[]⟩,.int .i64 0,.int .i64 0,.string ⟨#[]⟩,.int .i64 0,.int .i64 0] 53)):=((Yl w).alloc _).alloc _
  have hsz:((w.alloc (.cells #[.int .i64 cl,.int .i64 cap] 37)).alloc (.cells #[.int .i64 0,.int .i64 0,.string ⟨#[]⟩,.int .i64 0,.int .i64 0,.string ⟨#[]⟩,.int .i64 0,.int .i64 0] 53)).heap.size=cb+2:=by simp [hcb]
  obtain ⟨W0,hW0⟩:∃ W,(w.alloc (.cells #[.int .i64 cl,.int .i64 cap] 37)).alloc (.cells #[.int .i64 0,.int .i64 0,.string ⟨#[]⟩,.int .i64 0,.int .i64 0,.string ⟨#[]⟩,.int .i64 0,.int .i64 0] 53)=W:=⟨_,rfl⟩
  rw [hW0] at hz0 hcf hxw hsz
  rw [hW0]
  clear hW0 hcb
  have Hz0:=Yw hz0
  have Hcf:=Yw hcf
  have Hxw:=Yw hxw
  have Hsz:=Yw hsz
  clear hz0 hcf hxw hsz
  go_loopw [33,6] (fun o s wr=>∃ (i:Nat) (c:Int),i≤nn∧o=.int .i64 (i:Int)∧s=.int .i64 c∧Qx cap op client now count ps i c∧Ext W0 wr) (fun o _ _=>nn - (intOf o).toNat)
  case atStart=>exact ⟨0,count,by omega,rfl,rfl,Qx.start _ _ _ _ _ _,Yl _⟩
  obtain ⟨i,c,hi,rfl,rfl,hj,hx⟩:=hrel
  have hbd:=hj.bd
  have hc2:c≤10000016:=by omega
  have hc3 : -10000000≤c:=by omega
  clear hbd
  have Hj:=Yw hj
  have Hx:=Yw hx
  have hcbl:cb+2≤wr.heap.size:=by have:=hx.size;have:=Hsz.out;omega
  have Hwl:=Yw hcbl
  clear hj hx
  by_cases hlt:i < nn
  ·have hdc:decide ((i:Int) < (nn:Int))=true:=by simpa using hlt
   obtain ⟨⟨n,r⟩,hp⟩:∃ p,ps[i]?=some p:=⟨ps[i]'(by have:=Hnn.out;omega),by simp⟩
   have hp1:(ps.map Prod.fst)[i]?=some n:=by rw [Zn,hp];rfl
   have hp2:(ps.map Prod.snd)[i]?=some r:=by rw [Zn,hp];rfl
   have hxr:=Hxw.out.trans Hx.out
   obtain ⟨g,o,c',hv1,p1,p2,_,b1,hcell⟩:=(Wq.ext Hn.out hxr).get (j:=i) (by rw [Hm1.out];exact hlt)
   obtain ⟨x1,x2,x3⟩:=hcell _ _ hp1
   obtain ⟨g2,o2,c2',hv2,p3,p4,b2,y0,y1,y2,y3⟩:=Up (Rd.ext Hr.out hxr) hp2
   rw [Hm1.out] at hv1 p1
   rw [Hm2.out] at hv2 p3
   simp only [Ye,true_and] at hv1 hv2
   obtain ⟨rfl,rfl⟩:=hv1
   obtain ⟨rfl,rfl⟩:=hv2
   have i0:(0:Int)≤(i:Int):=by omega
   have i1:(i:Int) < (nn:Int):=by omega
   have Hp:=Yw hp
   have Hxr:=Yw hxr
   clear hcell hp hp1 hp2 hxr
   obtain ⟨t,ht⟩:∃ t,O8 r.st r.ow r.dl op client now=t:=⟨_,rfl⟩
   obtain ⟨gr,hgr⟩:∃ g,Wf r.st op=g:=⟨_,rfl⟩
   have Hgr:=Yw hgr
   go_wp2_with fail
   refine (Zut _ _ _ _ _ _ _ _).mono ?_
   rintro x w1 ⟨rfl,hy⟩
   rw [ht]
   have e0:w1.cell? ⟨wr.heap.size,0,none⟩=some (.int .i64 r.st):=(hy.cell (by simp)).trans (by go_simp)
   have e1:w1.cell? ⟨wr.heap.size,1,none⟩=some (.int .i64 r.ow):=(hy.cell (by simp)).trans (by go_simp)
   have e2:w1.cell? ⟨wr.heap.size,2,none⟩=some (.string r.nm):=(hy.cell (by simp)).trans (by go_simp)
   have e3:w1.cell? ⟨wr.heap.size,3,none⟩=some (.int .i64 r.dl):=(hy.cell (by simp)).trans (by go_simp)
   have hx1:Ext wr w1:=((Yl wr).alloc _).trans hy
   have x1:=(hx1.cell (p:=⟨g,o+i * 3,none⟩) b1).trans x1
   have hcf:w1.cell? ⟨cb,1,none⟩=some (.int .i64 cap):=((Hx.out.trans hx1).cell (p:=⟨cb,1,none⟩) (by have:=Hsz.out;simp only;omega)).trans Hcf.out
   obtain ⟨z0,z1,z2,z3,z4,z5,z6,z7,zf,zl⟩:=Hz0.out.ext (Hx.out.trans hx1)
   have b3:g < w1.heap.size:=Nat.lt_of_lt_of_le b1 hx1.size
   have Hx1:=Yw hx1
   have Ht:=Yw ht
   clear hy x2 x3 y0 y1 y2 y3 hx1 ht b2
   by_cases ht0:t=0
   ·subst ht0
    go_wp2_with fail
    refine (Mk _ _ _ _ _ _).mono ?_
    rintro x w2 ⟨rfl,hy⟩
    rw [hgr]
    have x1:=(hy.cell (p:=⟨g,o+i * 3,none⟩) b3).trans x1
    have Hx2:=Yw (Hx1.out.trans hy)
    have hcf:w2.cell? ⟨cb,1,none⟩=some (.int .i64 cap):=((Hx.out.trans Hx2.out).cell (p:=⟨cb,1,none⟩) (by have:=Hsz.out;simp only;omega)).trans Hcf.out
    clear z0 z1 z2 z3 z4 z5 z6 z7 zf zl
    obtain ⟨z0,z1,z2,z3,z4,z5,z6,z7,zf,zl⟩:=Hz0.out.ext (Hx.out.trans Hx2.out)
    have b4:g < w2.heap.size:=Nat.lt_of_lt_of_le b3 hy.size
    clear hy e0 e1 e2 e3 hgr Hx1
    have K:(decide (0 < gr)=true∧decide (cap≤c)=true∧(0 < gr∧cap≤c))∨(decide (0 < gr)=true∧decide (cap≤c)=false∧(0 < gr∧¬ cap≤c))∨(decide (0 < gr)=false∧¬ 0 < gr):=by
     by_cases h1:0 < gr
     ·by_cases h2:cap≤c
      ·exact .inl ⟨by simpa using h1,by simpa using h2,h1,h2⟩
      exact .inr (.inl ⟨by simpa using h1,by simpa using h2,h1,h2⟩)
     exact .inr (.inr ⟨by simpa using h1,h1⟩)
    rcases K with ⟨k1,k2,k3,k4⟩ | ⟨k1,k2,k3,k4⟩ | ⟨k1,k3⟩
    ·have hone:=Zx3 (cap:=cap) (c:=c) Ht.out (by rw [Hgr.out];exact k3) k4
     have Hst:=Yw (Mx Hno.out (Hj.out.stop (p:=(n,r)) Hp.out (by rw [hone];decide)))
     simp only at Hst
     rw [hone] at Hst
     clear hone k3 k4
     go_wp2_with fail
     refine Yt (v:=Qd ⟨7,i,n.a,default,now⟩) (by simp [results,Tryz.results72,go_sem,Qd,Kr, *]) rfl ⟨by rw [Hst.out],?_⟩
     (repeat refine Ya ?_ (by first|(have:=Hcb.out;simp;omega)|(have:=Hcb.out;simp only;omega)) _)
     exact Hxr.out.trans Hx2.out
    ·have hone:=P4 (cap:=cap) (c:=c) Ht.out (fun q=>k4 q.2)
     have hj1:=Hj.out.next (p:=(n,r)) Hp.out hone
     have q2:Ew op c r=c+1:=by unfold Ew;rw [Hgr.out,if_pos k3]
     simp only at hj1
     rw [q2] at hj1
     have Hj1:=Yw hj1
     have Hend:=Yw (Hx.out.trans Hx2.out)
     clear hone hj1 q2 k3 k4 z0 z1 z2 z3 z4 z5 z6 z7 zf zl
     go_wp2_with fail
     go_roundw
     case rel=>exact ⟨i+1,_,by omega,by go_num,rfl,Hj1.out,Hend.out⟩
     case measure=>simp [intOf];omega
    have hone:=P4 (cap:=cap) (c:=c) Ht.out (fun q=>k3 (by have:=q.1;rw [Hgr.out] at this;exact this))
    have hj1:=Hj.out.next (p:=(n,r)) Hp.out hone
    have q2:Ew op c r=c:=by unfold Ew;rw [Hgr.out,if_neg k3]
    simp only at hj1
    rw [q2] at hj1
    have Hj1:=Yw hj1
    have Hend:=Yw (Hx.out.trans Hx2.out)
    clear hone hj1 q2 k3 z0 z1 z2 z3 z4 z5 z6 z7 zf zl
    go_wp2_with fail
    go_roundw
    case rel=>exact ⟨i+1,_,by omega,by go_num,rfl,Hj1.out,Hend.out⟩
    case measure=>simp [intOf];omega
   have ht1:(t == 0)=false:=by simpa using ht0
   have hone:=Ztl (cap:=cap) (c:=c) Ht.out ht0
   have Hst:=Yw (Mx Hno.out (Hj.out.stop (p:=(n,r)) Hp.out (by rw [hone];exact ht0)))
   simp only at Hst
   rw [hone] at Hst
   clear hone ht0 e0 e1 e2 e3 hgr
   go_wp2_with fail
   refine Yt (v:=Qd ⟨t,i,n.a,default,now⟩) (by simp [results,Tryz.results72,go_sem,Qd,Kr, *]) rfl ⟨by rw [Hst.out],?_⟩
   (repeat refine Ya ?_ (by first|(have:=Hcb.out;simp;omega)|(have:=Hcb.out;simp only;omega)) _)
   exact Hxr.out.trans Hx1.out
  have hdc:decide ((i:Int) < (nn:Int))=false:=by simp;omega
  obtain rfl:i=nn:=by omega
  have Hdone:=Yw (show Qj cap op client now 0 count ps=none from by
   have:=Hj.out
   rw [← Hnn.out] at this
   exact this.done)
  obtain ⟨⟨n,r⟩,ps',rfl⟩:∃ p ps',ps=p::ps':=by
   cases ps with
   | nil=>have:=Hnn.out;simp at this;omega
   | cons p ps'=>exact ⟨p,ps',rfl⟩
  have Hjf:=Yw (Zz7 Hno.out Hdone.out)
  simp only at Hjf
  obtain ⟨z0,z1,z2,z3,z4,z5,z6,z7,zf,zl⟩:=Hz0.out.ext Hx.out
  by_cases h7:op=7
  ·subst h7
   obtain ⟨g2,o2,c2',hv2,p3,p4,b2,y0,y1,y2,y3⟩:=Up (Rd.ext Hr.out (Hxw.out.trans Hx.out)) (j:=0) (r:=r) rfl
   rw [Hm2.out] at hv2 p3
   simp only [Ye,true_and] at hv2
   obtain ⟨rfl,rfl⟩:=hv2
   simp only [Nat.zero_mul,Nat.add_zero] at y0 y1 y2 y3
   have i1:(0:Int) < (i:Int):=by omega
   obtain ⟨lv,hlv⟩:∃ b,Aj r.st r.dl now=b:=⟨_,rfl⟩
   go_wp2_with fail
   refine (Ot _ _ _ _ _ _).mono ?_
   rintro x w5 ⟨rfl,hy⟩
   rw [hlv]
   have Hy:=Yw (((Yl wr).alloc _).trans hy)
   have t0:w5.cell? ⟨wr.heap.size,0,none⟩=some (.int .i64 0):=(hy.cell (by simp)).trans (by go_simp)
   have t1:w5.cell? ⟨wr.heap.size,1,none⟩=some (.int .i64 (-1)):=(hy.cell (by simp)).trans (by go_simp)
   have t2:w5.cell? ⟨wr.heap.size,2,none⟩=some (.string ⟨#[]⟩):=(hy.cell (by simp)).trans (by go_simp)
   have t3:w5.cell? ⟨wr.heap.size,3,none⟩=some (.int .i64 0):=(hy.cell (by simp)).trans (by go_simp)
   have t4:w5.cell? ⟨wr.heap.size,4,none⟩=some (.int .i64 0):=(hy.cell (by simp)).trans (by go_simp)
   have t5:w5.cell? ⟨wr.heap.size,5,none⟩=some (.string ⟨#[]⟩):=(hy.cell (by simp)).trans (by go_simp)
   have t6:w5.cell? ⟨wr.heap.size,6,none⟩=some (.int .i64 0):=(hy.cell (by simp)).trans (by go_simp)
   have t7:w5.cell? ⟨wr.heap.size,7,none⟩=some (.int .i64 now):=(hy.cell (by simp)).trans (by go_simp)
   have tf:∀ j,w5.frozen? ⟨wr.heap.size,j,none⟩=false:=fun j=>(hy.frozen (by simp)).trans (by go_simp)
   have tl:wr.heap.size < w5.heap.size:=Nat.lt_of_lt_of_le (by simp) hy.size
   clear z0 z1 z2 z3 z4 z5 z6 z7 zf zl
   obtain ⟨z0,z1,z2,z3,z4,z5,z6,z7,zf,zl⟩:=Hz0.out.ext (Hx.out.trans Hy.out)
   have y0:=(Hy.out.cell (p:=⟨g2,o2,none⟩) b2).trans y0
   have y1:=(Hy.out.cell (p:=⟨g2,o2+1,none⟩) b2).trans y1
   have y2:=(Hy.out.cell (p:=⟨g2,o2+2,none⟩) b2).trans y2
   have y3:=(Hy.out.cell (p:=⟨g2,o2+3,none⟩) b2).trans y3
   have hne:¬ wr.heap.size=cb+1:=by omega
   have Hlv:=Yw hlv
   clear hy hlv
   cases lv with
   | true =>
    have Hj':=Yw (show Ky cap 7 client ttl now count ((n,r)::ps')=⟨0,-1,⟨#[]⟩,r,now⟩ by rw [Hjf.out];simp [Hlv.out])
    clear Hjf
    go_wp2_with fail
    refine Yt (v:=Qd ⟨0,-1,⟨#[]⟩,r,now⟩) (by simp [results,Tryz.results72,go_sem,Qd, *]) rfl ⟨by rw [Hj'.out],?_⟩
    (repeat refine Ya ?_ (by first|(have:=Hcb.out;simp;omega)|(have:=Hcb.out;have:=Hwl.out;simp only;omega)) _)
    exact (Hxw.out.trans Hx.out).trans Hy.out
   | false =>
    have Hj':=Yw (show Ky cap 7 client ttl now count ((n,r)::ps')=⟨0,-1,⟨#[]⟩,default,now⟩ by rw [Hjf.out];simp [Hlv.out])
    clear Hjf
    go_wp2_with fail
    refine Yt (v:=Qd ⟨0,-1,⟨#[]⟩,default,now⟩) (by simp [results,Tryz.results72,go_sem,Qd,Kr, *]) rfl ⟨by rw [Hj'.out],?_⟩
    (repeat refine Ya ?_ (by first|(have:=Hcb.out;simp;omega)|(have:=Hcb.out;have:=Hwl.out;simp only;omega)) _)
    exact (Hxw.out.trans Hx.out).trans Hy.out
  have h7':(op == 7)=false:=by simpa using h7
  have Hj':=Yw (show Ky cap op client ttl now count ((n,r)::ps')=⟨0,-1,⟨#[]⟩,default,now⟩ by rw [Hjf.out,if_neg fun q=>h7 q.1])
  clear Hjf h7
  go_wp2_with fail
  refine Yt (v:=Qd ⟨0,-1,⟨#[]⟩,default,now⟩) (by simp [results,Tryz.results72,go_sem,Qd,Kr, *]) rfl ⟨by rw [Hj'.out],?_⟩
  refine Yk ?_ _
  (repeat refine Ya ?_ (by first|(have:=Hcb.out;simp;omega)|(have:=Hcb.out;have:=Hwl.out;simp only;omega)) _)
  exact Hxw.out.trans Hx.out
theorem Zxl {S:Nat→Prop} (xb:Nat) (x:Shr) (key:ByteArray) (w:World) (h:V3 w S xb x):Calls Tryz.prog 150 #[.pointer (some ⟨xb,0,none⟩),.string key] w (Ka w):=by
 have c4:=h.cells.at_ 4 (by simp [Zp8])
 have c4':w.cell? ⟨xb,4,none⟩=some x.kv:=c4
 obtain ⟨A,C,hv⟩:=h.ks.shape
 rw [hv] at c4'
 have Hk:=Yw (show KeptAt w S (.slice A x.ks.length C) x.ks by rw [← hv];exact h.ks)
 have Hlt:=Yw h.cells.lt
 clear c4 h hv
 go_enter Tryz.func150,Tryz.ntmps150
 go_wp2_with fail
 refine (Iw _ x.ks key _ Hk.out).mono ?_
 rintro e w1 ⟨rfl,hx1⟩
 obtain ⟨r,hr⟩:∃ r,Ib x.ks key=r:=⟨_,rfl⟩
 rw [hr]
 obtain ⟨st,ow,nm,dl⟩:=r
 unfold rcV
 cases hs:(st == 1)
 all_goals
  go_wp2_with fail
  go_ret
  exact ⟨_,rfl,hx1.alloc _⟩
theorem Zul {S:Nat→Prop} (xb:Nat) (x:Shr) (key:ByteArray) (w:World) (h:V3 w S xb x):Calls Tryz.prog 152 #[.pointer (some ⟨xb,0,none⟩),.string key] w fun e w'=>e=.returned (rcV (Ib x.rs key))∧Ext w w':=by
 have c5:w.cell? ⟨xb,5,none⟩=some x.rv:=h.cells.at_ 5 (by simp [Zp8])
 obtain ⟨A,C,hv⟩:=h.rs.shape
 rw [hv] at c5
 have Hk:=Yw (show KeptAt w S (.slice A x.rs.length C) x.rs by rw [← hv];exact h.rs)
 have hlt:=h.cells.lt
 have hb:=Xs.new w #[.int .i64 0,.int .i64 0,.string ⟨#[]⟩,.int .i64 0] 51
 have HX:=Yw ((Yl w).alloc (.cells #[.int .i64 0,.int .i64 0,.string ⟨#[]⟩,.int .i64 0] 51))
 have HB:=Yw hb
 clear h hv hb
 go_enter Tryz.func152,Tryz.ntmps152
 go_wp2_with fail
 refine (Iw _ x.rs key _ (Rd.ext Hk.out HX.out)).mono ?_
 rintro e w1 ⟨rfl,hx1⟩
 obtain ⟨r,hr⟩:∃ r,Ib x.rs key=r:=⟨_,rfl⟩
 rw [hr]
 obtain ⟨st,ow,nm,dl⟩:=r
 have hb1:=HB.out.ext hx1
 have k0:=hb1.at_ 0 (by simp)
 have k1:=hb1.at_ 1 (by simp)
 have k2:=hb1.at_ 2 (by simp)
 have k3:=hb1.at_ 3 (by simp)
 have fz:=hb1.fz
 simp only [Zx,Zw] at k0 k1 k2 k3
 unfold rcV
 have HX1:=Yw (HX.out.trans hx1)
 clear hx1 hb1
 go_wp2_with fail
 refine Yt (v:=.agg #[.int .i64 st,.int .i64 ow,.string nm,.int .i64 dl]) (by simp [results,Tryz.results152,go_sem, *]) rfl ⟨by rw [hr];rfl,?_⟩
 (repeat refine Ya ?_ (by first|exact Yo _|(simp;done)|(simp;omega)) _)
 exact HX1.out
def Jo (m:Qq) (n:Nat) (next:Int):Qq:=if m.i+1=n then {m with i:=0,st:=next} else {m with i:=m.i+1}
theorem Dm (T:Tbl) (b:Nat) (m:Qq) (next:Int) (A:Option Addr) (n C:Nat) (w:World) (h:Xs w b (machC T m)) (hl:m.lv=.slice A n C) (hi:0≤m.i) (hi2:m.i < n) (hn:n≤16) :
 Calls Tryz.prog 151 #[.pointer (some ⟨b,0,none⟩),.int .i64 next] w fun e w'=>e=.returned (.int .i64 1)∧Xs w' b (machC T (Jo m n next))∧Chg (· = b) w w':=by
 have c27:w.cell? ⟨b,27,none⟩=some (.int .i64 m.i):=h.at_ 27 (by simp [machC])
 have fz:=h.fz
 obtain ⟨I,hI⟩:∃ I,m.i+1=I:=⟨_,rfl⟩
 have r1:IntKind.i64.wrap (m.i+1)=I:=by rw [Yq _ (by omega)];exact hI
 have h1:=h.set (j:=27) (by simp [machC]) (.int .i64 I)
 have HC1:=Yw ((Chg.refl (· = b) w).setCell (p:=⟨b,27,none⟩) (.inl rfl) (.int .i64 I))
 have d27:(w.setCell ⟨b,27,none⟩ (.int .i64 I)).cell? ⟨b,27,none⟩=some (.int .i64 I):=h1.at_ 27 (by simp [machC])
 have d17:(w.setCell ⟨b,27,none⟩ (.int .i64 I)).cell? ⟨b,17,none⟩=some (.slice A n C):=by rw [← hl];exact h1.at_ 17 (by simp [machC])
 have m27:=lat d27
 have m17:=lat d17
 have H1:=Yw h1
 have hlt:=h.lt
 have HI:=Yw hI
 clear h1 d27 d17 h hl
 go_enter Tryz.func151,Tryz.ntmps151
 go_upto_region 2 with fail
 obtain ⟨W1,hW1⟩:∃ W,w.setCell ⟨b,27,none⟩ (.int .i64 I)=W:=⟨_,rfl⟩
 rw [hW1] at H1 HC1 m27 m17
 rw [hW1]
 clear hW1 c27 fz r1
 by_cases hl:I=n
 ·have e1:(I == (n:Int))=true:=by simp [hl]
  have hun:=Yb
  refine Y0 (by kernel_rfl) (by kernel_rfl) ?_
  repeat ((with_reducible refine Yv ?_);intro K hK;go_simp;(with_reducible refine hK _ ?_);clear hK K)
  (with_reducible refine Yu ?_)
  intro w9 hy9
  clear hun
  try simp only [Yc]
  have h9:=H1.out.ext hy9
  have k27:=h9.at_ 27 (by simp [machC])
  have k13:=h9.at_ 13 (by simp [machC])
  have fz:=h9.fz
  simp only [machC,Zt,Zu,Zx,Zw] at k27 k13
  have HY:=Yw hy9
  clear h9 hy9
  go_wp2_with fail
  go_ret
  refine ⟨rfl,?_,?_⟩
  ·rw [show Jo m n next={m with i:=0,st:=next} from if_pos (by rw [HI.out];exact hl)]
   have:=((H1.out.ext HY.out).set (j:=27) (by simp [machC]) (.int .i64 0)).set (j:=13) (by simp [machC]) (.int .i64 next)
   exact this
  exact ((HC1.out.trans (HY.out.chg _)).setCell (p:=⟨b,27,none⟩) (.inl rfl) _).setCell (p:=⟨b,13,none⟩) (.inl rfl) _
 have e1:(I == (n:Int))=false:=by simp [hl]
 have hun:=Yb
 refine Y0 (by kernel_rfl) (by kernel_rfl) ?_
 repeat ((with_reducible refine Yv ?_);intro K hK;go_simp;(with_reducible refine hK _ ?_);clear hK K)
 (with_reducible refine Yu ?_)
 intro w9 hy9
 clear hun
 try simp only [Yc]
 go_wp2_with fail
 go_ret
 refine ⟨rfl,?_,HC1.out.trans (hy9.chg _)⟩
 rw [show Jo m n next={m with i:=m.i+1} from if_neg (by rw [HI.out];exact hl)]
 have:=H1.out.ext hy9
 rw [← HI.out] at this
 exact this
def Qg (cl:Int) (text:ByteArray):Qq:=⟨cl,1,text,0,0,.slice none 0 0,[],.slice none 0 0,[],⟨0,0,⟨#[]⟩,⟨0,0,⟨#[]⟩,0⟩,0⟩,0⟩
def Zou (m:Qq):List Value:=[.int .i64 m.cl,.int .i64 m.st,.string m.text,.int .i64 m.op,.int .i64 m.ttl,m.lv,m.rv,.int .i64 m.ans.e,.int .i64 m.ans.at_,.string m.ans.nm,.int .i64 m.ans.rc.st,.int .i64 m.ans.rc.ow,.string m.ans.rc.nm,.int .i64 m.ans.rc.dl,.int .i64 m.ans.tick,.int .i64 m.i]
theorem Iq (T:Tbl) (m:Qq):machC T m=Ve T++Zou m:=rfl
theorem Zu2 {w:World} {b:Nat} {T:Tbl} {m:Qq} (h:Xs w b (machC T m)):Q9 w b T :=
 ⟨h.lt,fun k hk=>by rw [h.at_ k (by show k < 28;omega),Iq,Ze hk]⟩
theorem Zte {w:World} {S:Nat→Prop} {T:Tbl} {m:Qq} (hT:Xm w S T) (h1:m.lv.oneCell'=true) (h2:m.rv.oneCell'=true):∀ v∈machC T m,v.oneCell'=true:=fun v hv=>by
 rw [Iq,Zj] at hv
 rcases hv with hv|hv
 ·exact Zwz hT v hv
 simp only [Zou,Zg,Zh,or_false] at hv
 rcases hv with rfl|rfl|rfl|rfl|rfl|rfl|rfl|rfl|rfl|rfl|rfl|rfl|rfl|rfl|rfl|rfl
 all_goals first|rfl|exact h1|exact h2
theorem Zva:(Tryz.prog.info? 163).map (·.size)=some 28:=by kernel_rfl
theorem Zv9 {S:Nat→Prop} (T:Tbl) (b:Nat) (m:Qq) (text:ByteArray) (w:World) (h:Xs w b (machC T m)) (hT:Xm w S T) (hs:m.st=0) :
 Calls Tryz.prog 114 #[.pointer (some ⟨b,0,none⟩),.string text] w fun e w'=>e=.returned (.int .i64 0)∧Xs w' b (machC T (Qg m.cl text))∧Chg (· = b) w w':=by
 have z13:w.cell? ⟨b,13,none⟩=some (.int .i64 m.st):=h.at_ 13 (by simp [machC])
 have z12:w.cell? ⟨b,12,none⟩=some (.int .i64 m.cl):=h.at_ 12 (by simp [machC])
 rw [hs] at z13
 have m12:=lat z12
 have hC:∀ w',(∃ p:Wj,w'=later w p.n p.os)→Q9 w' b T:=fun w' ⟨p,e⟩=>by rw [e];exact (Zu2 h).ext (⟨_,_,rfl⟩)
 have hone:=all_oneCell_toArray (Zte (m:=Qg m.cl text) hT rfl rfl)
 have H:=Yw h
 clear h hT hs
 go_enter Tryz.func114,Tryz.ntmps114
 go_upto_region 3 with fail
 clear z12 z13
 refine Xd 11 13 (by kernel_rfl) (by omega) (by kernel_rfl) (by kernel_rfl) (by kernel_rfl) ?_
 simp only [Z4,Z5,Z6,Z7]
 repeat (first|((with_reducible refine Xi ?_ ?_ hC ?_);(focus (go_simp;done));rfl)|((with_reducible refine Yv ?_);intro K hK;go_simp;(with_reducible refine hK _ ?_);clear hK K))
 unfold Wc
 ((with_reducible refine Yv ?_);intro K hK;go_simp;(with_reducible refine hK _ ?_);clear hK K)
 (with_reducible refine Yu ?_)
 intro w9 hy9
 have H9:=Yw (H.out.ext hy9)
 have Y9:=Yw hy9
 have hth:=H9.out.there (o:=0) (n:=28) (Yo _)
 clear hy9 m12 hC
 go_wp2_with (refine wpList_store_mid rfl _ _ _ rfl b 0 (machC T (Qg m.cl text)).toArray rfl rfl hth (by rw [Zva];rfl) hone ?_)
 have HZ:=Yw (H9.out.mid (o:=0) (vs:=machC T (Qg m.cl text)) (cs':=machC T (Qg m.cl text)) (Yo _) rfl)
 have CZ:=Yw (Xl (S:=(· = b)) (b:=b) (.inl rfl) (vs:=machC T (Qg m.cl text)) (o:=0) (Y9.out.chg (· = b)))
 obtain ⟨W,hW⟩:∃ W,w9.setCells b 0 (machC T (Qg m.cl text))=W:=⟨_,rfl⟩
 rw [hW] at HZ CZ
 rw [show w9.setCells b 0 (machC T (Qg m.cl text)).toArray.toList=W from hW]
 clear hW hth hone H9 Y9
 go_wp2_with fail
 go_ret
 exact ⟨rfl,HZ.out,CZ.out⟩
def Zy2 (cl cp:Int):Shr:=⟨cl,cp,0,0,.slice none 0 0,[],.slice none 0 0,[]⟩
theorem Nq (cl cp:Int) (hc:Um cl cp=0) (w:World):Calls Tryz.prog 76 #[.agg #[.int .i64 cl,.int .i64 cp]] w fun e w'=>∃ b,e=.returned (.tuple #[.pointer (some ⟨b,0,none⟩),.int .i64 0])∧Xs w' b (Zp8 (Zy2 cl cp))∧w.heap.size≤b∧Ext w w':=by
 have Hc:=Yw hc
 clear hc
 go_enter Tryz.func76,Tryz.ntmps76
 go_wp2_with fail
 refine (Tf cl cp _).mono ?_
 rintro x w1 ⟨rfl,hx1⟩
 rw [Hc.out]
 have k0:w1.cell? ⟨w.heap.size,0,none⟩=some (.int .i64 cl):=(hx1.cell (by simp)).trans (by go_simp)
 have k1:w1.cell? ⟨w.heap.size,1,none⟩=some (.int .i64 cp):=(hx1.cell (by simp)).trans (by go_simp)
 have Hx1:=Yw (((Yl w).alloc _).trans hx1)
 clear hx1
 go_wp2_with fail
 go_ret2
 exact ⟨w1.heap.size,rfl,Xs.new w1 _ _,Hx1.out.size,Hx1.out.alloc _⟩
def Ov (cl:Int):Qq:=⟨cl,0,⟨#[]⟩,0,0,.slice none 0 0,[],.slice none 0 0,[],⟨0,0,⟨#[]⟩,⟨0,0,⟨#[]⟩,0⟩,0⟩,0⟩
theorem Tc {S:Nat→Prop} (T:Tbl) (hg:Eu T) (k:Nat) (hk:k < 64) (w:World) (h:Xm w S T):Calls Tryz.prog 77 #[Wc T,.int .i64 (k:Int)] w fun e w'=>∃ b,e=.returned (.tuple #[.pointer (some ⟨b,0,none⟩),.int .i64 0])∧Xs w' b (machC T (Ov k))∧w.heap.size≤b∧Ext w w':=by
 have G:=Yw hg
 clear hg
 have X0:=Yw ((Yl w).alloc (Xf T))
 have H:=Yw (h.up X0.out)
 have Hb0:=Yw (Xq w T)
 clear h
 have q1:decide ((k:Int) < 0)=false:=Yg (by omega)
 have q2:decide ((64:Int)≤(k:Int))=false:=Yg (by omega)
 go_enter Tryz.func77,Tryz.ntmps77
 go_wp2_with (first|(refine Xy rfl ?_)|(refine Y4 Hb0.out rfl ?_))
 refine (Ex T G.out _ H.out).mono ?_
 rintro e w1 ⟨rfl,hx1⟩
 have Hx1:=Yw hx1
 clear hx1
 go_wp2_with (refine Y4 (Hb0.out.ext Hx1.out) rfl ?_;unfold Wc)
 go_ret2
 exact ⟨w1.heap.size,rfl,Xs.new w1 _ _,(X0.out.trans Hx1.out).size,(X0.out.trans Hx1.out).alloc _⟩
section
theorem Bq {w:World} {S S':Nat→Prop} {t:Tbl} (h:Xm w S t) (hS:∀ k,S k→k < w.heap.size→S' k):Xm w S' t :=
 ⟨Rd.mono h.cat hS,Rd.mono h.cls hS,Rd.mono h.joi hS,Rd.mono h.bid hS,Rd.mono h.scr hS,Rd.mono h.sta hS,Rd.mono h.ign hS,⟨Rd.mono h.ext.1 hS,fun m hm=>Rd.mono (h.ext.2 m hm) hS⟩,⟨Rd.mono h.map.1 hS,fun m hm=>Rd.mono (h.map.2 m hm) hS⟩,⟨Rd.mono h.dec.1 hS,fun m hm=>Rd.mono (h.dec.2 m hm) hS⟩,Rd.mono h.exc hS,⟨Rd.mono h.pro.1 hS,fun m hm=>Rd.mono (h.pro.2 m hm) hS⟩⟩
def Zyd:List Value→Nat→List Value→List Value
 | xs,_,[]=>xs
 | xs,p,v::r=>Zyd (xs.set p v) (p+1) r
theorem I0:∀ (vs a b c:List Value) (f:Nat),f+vs.length≤b.length→Zyd (a++(b++c)) (a.length+f) vs=a++(Zyd b f vs++c)
 | [],_,_,_,_,_=>rfl
 | v::r,a,b,c,f,h=>by
  simp only [Zl] at h
  rw [Zyd,Zyd,← I0 r a (b.set f v) c (f+1) (by rw [Zf];omega),List.set_append,if_neg (by omega),Nat.add_sub_cancel_left,List.set_append,if_pos (by omega),Nat.add_assoc]
theorem Ob:∀ (vs b:List Value) (f:Nat),f+vs.length≤b.length→Zyd b f vs=b.take f++(vs++b.drop (f+vs.length))
 | [],b,f,_=>by simp [Zyd]
 | v::r,b,f,h=>by
  simp only [Zl] at h
  have hl:(b.take f).length=f:=by simp;omega
  rw [Zyd,Ob r _ _ (by rw [Zf];omega)]
  have e1:(b.set f v).take (f+1)=b.take f++[v]:=by
   rw [Za,List.take_set_of_le (Yo f),Zc (by omega)];rfl
  have e2:(b.set f v).drop (f+1+r.length)=b.drop (f+(v::r).length):=by
   rw [List.drop_set_of_lt (by omega)]
   congr 1
   simp only [Zl];omega
  rw [e1,e2,List.append_assoc];rfl
theorem Og {B z g n c m:Nat} {t:TypeId}:∀ {vs:List Value} {w:World} {p:Nat} {xs:List Value},w.ownsRow B t z (.slice (some ⟨g,0,none⟩) n c) m xs→(w.setCells g p vs).ownsRow B t z (.slice (some ⟨g,0,none⟩) n c) m (Zyd xs p vs)
 | [],_,_,_,h=>h
 | v::r,_,p,_,h=>Og (vs:=r) (Zrq h p v)
theorem Zuc {l:List Opn} {i f:Nat} {o o':Opn} {vs:List Value} (h:l[i]?=some o) (hf:f+vs.length≤23) (he:opC o'=(opC o).take f++(vs++(opC o).drop (f+vs.length))):Zyd (Gh l) (i * 23+f) vs=Gh (l.set i o'):=by
 have hi:=(Zr.1 h).1
 have ho:l[i]=o:=(Zr.1 h).2
 have e0:l=l.take i++([o]++l.drop (i+1)):=by rw [← ho];simp
 have e1:l.set i o'=l.take i++([o']++l.drop (i+1)):=by rw [List.set_eq_take_append_cons_drop,if_pos hi];rfl
 have el:(Gh (l.take i)).length=i * 23:=by rw [Bt,Zp];congr 1;omega
 have e2:Gh l=Gh (l.take i)++(opC o++Gh (l.drop (i+1))):=by
  conv=>lhs;rw [e0]
  rw [Qy,Qy]
  simp [Gh]
 rw [e1,Qy,Qy,e2,← el,I0 vs _ _ _ f (by rw [Qh];exact hf),Ob vs _ f (by rw [Qh];exact hf),← he]
 simp [Gh]
theorem Wt.ne {w:World} {U:Nat→Prop} {T:Tbl} {b B:Nat} {d:Dk} (h:Wt w U T b B d):b≠d.xb∧b≠d.gb∧b≠d.gl∧d.xb≠d.gb∧d.xb≠d.gl∧d.gb≠d.gl∧∀ p∈d.ms,p.1≠b∧p.1≠d.xb∧p.1≠d.gb∧p.1≠d.gl:=by
 have d0:=List.nodup_cons.1 h.dis
 have d1:=List.nodup_cons.1 d0.2
 have d2:=List.nodup_cons.1 d1.2
 have d3:=List.nodup_cons.1 d2.2
 simp only [Zg,not_or] at d0 d1 d2 d3
 refine ⟨d0.1.1,d0.1.2.1,d0.1.2.2.1,d1.1.1,d1.1.2.1,d2.1.1,fun p hp=>?_⟩
 have hm:p.1∈d.ms.map Prod.fst:=List.mem_map.2 ⟨_,hp,rfl⟩
 exact ⟨fun e=>d0.1.2.2.2 (e ▸ hm),fun e=>d1.1.2.2 (e ▸ hm),fun e=>d2.1.2 (e ▸ hm),fun e=>d3.1 (e ▸ hm)⟩
theorem Wt.nov {w:World} {U:Nat→Prop} {T:Tbl} {b B:Nat} {d:Dk} (h:Wt w U T b B d) {g:Nat} (hg:d.ov.ownBlock=some g):b≠g∧d.xb≠g∧d.gb≠g∧d.gl≠g∧∀ p∈d.ms,p.1≠g:=by
 have:=h.dio g hg
 simp only [Zg,not_or] at this
 obtain ⟨h1,h2,h3,h4,h5⟩:=this
 exact ⟨fun e=>h1 e.symm,fun e=>h2 e.symm,fun e=>h3 e.symm,fun e=>h4 e.symm,fun p hp e=>h5 (List.mem_map.2 ⟨p,hp,e⟩)⟩
theorem Wt.ext {w w':World} {U:Nat→Prop} {T:Tbl} {b B:Nat} {d:Dk} (h:Wt w U T b B d) (x:Ext w w'):Wt w' U T b B d where
 cells:=h.cells.ext x
 hU:=fun k hk=>⟨(h.hU k hk).1,Nat.lt_of_lt_of_le (h.hU k hk).2 x.size⟩
 ub:=h.ub
 ux:=h.ux
 ugb:=h.ugb
 ugl:=h.ugl
 um:=h.um
 uo:=h.uo
 dis:=h.dis
 dio:=h.dio
 tbl:=h.tbl.up x
 shr:=⟨h.shr.cells.ext x,Rd.ext h.shr.ks x,Rd.ext h.shr.rs x⟩
 xok:=h.xok
 ptr:=Rd.ext h.ptr x
 mach:=fun p hp=>⟨⟨(h.mach p hp).1.cells.ext x,Rd.ext (h.mach p hp).1.ns x,Rd.ext (h.mach p hp).1.rs x⟩,(h.mach p hp).2⟩
 box:=h.box.ext x
 boxes:=fun j s l h1 h2=>⟨Rd.ext (h.boxes j s l h1 h2).1 x,(h.boxes j s l h1 h2).2⟩
 lb:=h.lb
 lbs:=h.lbs
 ll:=h.ll
 lm:=h.lm
 own:=h.own.ext x
 nms:=fun o ho=>Rd.ext (h.nms o ho) x
 lo:=h.lo
 n16:=h.n16
 lown:=h.lown.ext x
section
variable {w:World} {U:Nat→Prop} {T:Tbl} {b B:Nat} {d:Dk}
theorem Wt.setOp (h:Wt w U T b B d) {g n c z f:Nat} {o o':OpS} {vs:List Value} (hv:d.ov=.slice (some ⟨g,0,none⟩) n c) (hz:d.ops[z]?=some o) (hf:f+vs.length≤23) (he:opC o'.1=(opC o.1).take f++(vs++(opC o.1).drop (f+vs.length)))
 (hn:Wq w (fun k=>¬ U k) o'.1.nv o'.1.ns) (h16:o'.1.ns.length≤16):Wt (w.setCells g (z * 23+f) vs) U T b B {d with ops:=d.ops.set z o' }:=by
 have c:Chg (· = g) w (w.setCells g (z * 23+f) vs):=Xl (S:=(· = g)) (.inl rfl) (Chg.refl _ _)
 have hob:d.ov.ownBlock=some g:=by rw [hv];rfl
 have hug:=h.uo g hob
 obtain ⟨n1,n2,n3,n4,n5⟩:=h.nov hob
 have hS:∀ j,¬ U j→¬ j=g:=fun j hj e=>hj (e ▸ hug)
 exact {
  cells:=h.cells.chg c n1
  hU:=fun k hk=>⟨(h.hU k hk).1,Nat.lt_of_lt_of_le (h.hU k hk).2 c.size⟩
  ub:=h.ub,ux:=h.ux,ugb:=h.ugb,ugl:=h.ugl,um:=h.um,uo:=h.uo,dis:=h.dis,dio:=h.dio
  tbl:=h.tbl.chg c hS
  shr:=h.shr.chg c n2 hS
  xok:=h.xok
  ptr:=Rd.chg h.ptr c hS
  mach:=fun p hp=>⟨(h.mach p hp).1.chg c (n5 p hp) hS,(h.mach p hp).2⟩
  box:=h.box.chg c (by intro j hj e;simp only [Dk.bv,Value.ownBlock,Yd] at hj;exact n3 (hj.trans e))
  boxes:=fun j s l h1 h2=>⟨Rd.chg (h.boxes j s l h1 h2).1 c hS,(h.boxes j s l h1 h2).2⟩
  lb:=h.lb,lbs:=h.lbs,ll:=h.ll,lm:=h.lm
  own:=by
   have h0:=h.own
   unfold Own at h0 ⊢
   rw [hv] at h0
   simp only [hv,Zf]
   have h1:=Og (vs:=vs) (p:=z * 23+f) h0
   have e:Zyd (opE.cells d.ops) (z * 23+f) vs=opE.cells (d.ops.set z o'):=by
    show Zyd (Gh (d.ops.map Subtype.val)) (z * 23+f) vs=Gh ((d.ops.set z o').map Subtype.val)
    rw [Zuc (o:=o.1) (o':=o'.1) (by rw [Zn,hz];rfl) hf he,List.map_set]
   rw [e] at h1
   exact h1
  nms:=fun q hq=>by
   rcases List.mem_or_eq_of_mem_set hq with h1|rfl
   ·exact Rd.chg (h.nms q h1) c hS
   exact Rd.chg hn c hS
  lo:=by rw [Zf];exact h.lo
  n16:=fun q hq=>by
   rcases List.mem_or_eq_of_mem_set hq with h1|rfl
   ·exact h.n16 q h1
   exact h16
  lown:=h.lown.chg c (by intro j hj e;simp only [Dk.lv,Value.ownBlock,Yd] at hj;exact n4 (hj.trans e))}
theorem Wt.setBox (h:Wt w U T b B d) {k:Nat} (hk:k < d.ms.length) (s:Sl) (l:List ByteArray) (hr:RdE Wr w (fun k=>¬ U k) s.v l) (hl:l.length≤8) :
 Wt (w.setCell ⟨d.gb,k,none⟩ s.v) U T b B {d with bx:=d.bx.set k s,bs_:=d.bs_.set k l}:=by
 have c:Chg (· = d.gb) w (w.setCell ⟨d.gb,k,none⟩ s.v):=(Chg.refl (· = d.gb) w).setCell (p:=⟨d.gb,k,none⟩) (.inl rfl) _
 obtain ⟨n1,n2,n3,n4,n5,n6,n7⟩:=h.ne
 have hS:∀ j,¬ U j→¬ j=d.gb:=fun j hj e=>hj (e ▸ h.ugb)
 exact {
  cells:=by
   have:=h.cells.chg c n2
   unfold Zyp Dk.bv at this ⊢
   simp only [Zf]
   exact this
  hU:=fun k hk=>⟨(h.hU k hk).1,Nat.lt_of_lt_of_le (h.hU k hk).2 c.size⟩
  ub:=h.ub,ux:=h.ux,ugb:=h.ugb,ugl:=h.ugl,um:=h.um,uo:=h.uo,dis:=h.dis,dio:=h.dio
  tbl:=h.tbl.chg c hS
  shr:=h.shr.chg c n4 hS
  xok:=h.xok
  ptr:=Rd.chg h.ptr c hS
  mach:=fun p hp=>⟨(h.mach p hp).1.chg c (n7 p hp).2.2.1 hS,(h.mach p hp).2⟩
  box:=by
   have h1:=Own.put (E:=ssE) h.box rfl (i:=k) (by rw [h.lb];exact hk) s (u:=s.v) rfl
   show Own ssE _ B (.slice (some ⟨d.gb,0,none⟩) (d.bx.set k s).length d.cb) _
   rw [Zf]
   exact h1
  boxes:=fun j s' l' h1 h2=>by
   by_cases e:k=j
   ·subst e
    rw [Zc (by rw [h.lb];exact hk)] at h1
    rw [Zc (by rw [h.lbs];exact hk)] at h2
    obtain rfl:=Option.some.inj h1
    obtain rfl:=Option.some.inj h2
    exact ⟨Rd.chg hr c hS,hl⟩
   rw [Zb e] at h1 h2
   exact ⟨Rd.chg (h.boxes j s' l' h1 h2).1 c hS,(h.boxes j s' l' h1 h2).2⟩
  lb:=by rw [Zf];exact h.lb
  lbs:=by rw [Zf];exact h.lbs
  ll:=h.ll,lm:=h.lm
  own:=h.own.chg c (fun j hj e=>(h.nov hj).2.2.1 e.symm)
  nms:=fun q hq=>Rd.chg (h.nms q hq) c hS
  lo:=h.lo,n16:=h.n16
  lown:=h.lown.chg c (by intro j hj e;simp only [Dk.lv,Value.ownBlock,Yd] at hj;exact n6 (hj.trans e).symm)}
theorem Wt.setLast (h:Wt w U T b B d) {k:Nat} (hk:k < d.ms.length) (z:Int):Wt (w.setCell ⟨d.gl,k,none⟩ (.int .i64 z)) U T b B {d with last:=d.last.set k z}:=by
 have c:Chg (· = d.gl) w (w.setCell ⟨d.gl,k,none⟩ (.int .i64 z)):=(Chg.refl (· = d.gl) w).setCell (p:=⟨d.gl,k,none⟩) (.inl rfl) _
 obtain ⟨n1,n2,n3,n4,n5,n6,n7⟩:=h.ne
 have hS:∀ j,¬ U j→¬ j=d.gl:=fun j hj e=>hj (e ▸ h.ugl)
 exact {
  cells:=by
   have:=h.cells.chg c n3
   unfold Zyp Dk.lv at this ⊢
   simp only [Zf]
   exact this
  hU:=fun k hk=>⟨(h.hU k hk).1,Nat.lt_of_lt_of_le (h.hU k hk).2 c.size⟩
  ub:=h.ub,ux:=h.ux,ugb:=h.ugb,ugl:=h.ugl,um:=h.um,uo:=h.uo,dis:=h.dis,dio:=h.dio
  tbl:=h.tbl.chg c hS
  shr:=h.shr.chg c n5 hS
  xok:=h.xok
  ptr:=Rd.chg h.ptr c hS
  mach:=fun p hp=>⟨(h.mach p hp).1.chg c (n7 p hp).2.2.2 hS,(h.mach p hp).2⟩
  box:=h.box.chg c (by intro j hj e;simp only [Dk.bv,Value.ownBlock,Yd] at hj;exact n6 (hj.trans e))
  boxes:=fun j s l h1 h2=>⟨Rd.chg (h.boxes j s l h1 h2).1 c hS,(h.boxes j s l h1 h2).2⟩
  lb:=h.lb,lbs:=h.lbs
  ll:=by rw [Zf];exact h.ll
  lm:=h.lm
  own:=h.own.chg c (fun j hj e=>(h.nov hj).2.2.2.1 e.symm)
  nms:=fun q hq=>Rd.chg (h.nms q hq) c hS
  lo:=h.lo,n16:=h.n16
  lown:=by
   have h1:=Own.put (E:=Xe) h.lown rfl (i:=k) (by rw [h.ll];exact hk) z (u:=.int .i64 z) rfl
   show Own Xe _ B (.slice (some ⟨d.gl,0,none⟩) (d.last.set k z).length d.cl) _
   rw [Zf]
   exact h1}
theorem Wt.setT (h:Wt w U T b B d) (t:Nat):Wt (w.setCell ⟨b,5,none⟩ (.int .i64 (t:Int))) U T b B {d with t:=t}:=by
 have c:Chg (· = b) w (w.setCell ⟨b,5,none⟩ (.int .i64 (t:Int))):=(Chg.refl (· = b) w).setCell (p:=⟨b,5,none⟩) (.inl rfl) _
 obtain ⟨n1,n2,n3,n4,n5,n6,n7⟩:=h.ne
 have hS:∀ j,¬ U j→¬ j=b:=fun j hj e=>hj (e ▸ h.ub)
 exact {
  cells:=h.cells.set (j:=5) (by show 5 < 6;omega) _
  hU:=fun k hk=>⟨(h.hU k hk).1,Nat.lt_of_lt_of_le (h.hU k hk).2 c.size⟩
  ub:=h.ub,ux:=h.ux,ugb:=h.ugb,ugl:=h.ugl,um:=h.um,uo:=h.uo,dis:=h.dis,dio:=h.dio
  tbl:=h.tbl.chg c hS
  shr:=h.shr.chg c n1.symm hS
  xok:=h.xok
  ptr:=Rd.chg h.ptr c hS
  mach:=fun p hp=>⟨(h.mach p hp).1.chg c (n7 p hp).1 hS,(h.mach p hp).2⟩
  box:=h.box.chg c (by intro j hj e;simp only [Dk.bv,Value.ownBlock,Yd] at hj;exact n2 (hj.trans e).symm)
  boxes:=fun j s l h1 h2=>⟨Rd.chg (h.boxes j s l h1 h2).1 c hS,(h.boxes j s l h1 h2).2⟩
  lb:=h.lb,lbs:=h.lbs,ll:=h.ll,lm:=h.lm
  own:=h.own.chg c (fun j hj e=>(h.nov hj).1 e.symm)
  nms:=fun q hq=>Rd.chg (h.nms q hq) c hS
  lo:=h.lo,n16:=h.n16
  lown:=h.lown.chg c (by intro j hj e;simp only [Dk.lv,Value.ownBlock,Yd] at hj;exact n3 (hj.trans e).symm)}
theorem Wt.addOp (h:Wt w U T b B d) {w':World} {o:OpS} {A:Option Addr} {n c:Nat} (hg:Grew opE w B d.ov (d.ops++[o]) A n c w') (hlen:d.ops.length < 4096) (hn:o.1.ns=[]) (hv:o.1.nv=.slice none 0 0) :
 Wt (w'.setCell ⟨b,3,none⟩ (.slice A n c)) (fun j=>U j∨(Value.slice A n c).ownBlock=some j) T b B {d with ops:=d.ops++[o],ov:=.slice A n c}:=by
 have cg:=hg.chg
 have c0:Chg (fun j=>d.ov.ownBlock=some j∨j=b) w (w'.setCell ⟨b,3,none⟩ (.slice A n c)):=(cg.mono fun _ _ e=>.inl e).setCell (p:=⟨b,3,none⟩) (.inl (.inr rfl)) _
 obtain ⟨n1,n2,n3,n4,n5,n6,n7⟩:=h.ne
 have ho:∀ j,(Value.slice A n c).ownBlock=some j→d.ov.ownBlock=some j∨j=w.heap.size:=fun j hj=>by
  rcases hg.at_ with e|e
  ·exact .inl (e ▸ hj)
  rw [e] at hj;exact .inr (Option.some.inj hj).symm
 have hUn:∀ j,U j→j≠w.heap.size:=fun j hj=>Nat.ne_of_lt (h.hU j hj).2
 have hS:∀ j,¬ U j→¬ (d.ov.ownBlock=some j∨j=b):=fun j hj e=>by
  rcases e with e|e
  ·exact hj (h.uo j e)
  exact hj (e ▸ h.ub)
 have hM:∀ j,¬ U j→j < w.heap.size→¬ (U j∨(Value.slice A n c).ownBlock=some j):=fun j hj hl e=>by
  rcases e with e|e
  ·exact hj e
  rcases ho j e with e|e
  ·exact hj (h.uo j e)
  omega
 have mv:∀ {z:Nat} {v:Value} {k:Nat} {xs:List Value},Rd w (fun j=>¬ U j) z v k xs→Rd (w'.setCell ⟨b,3,none⟩ (.slice A n c)) (fun j=>¬ (U j∨(Value.slice A n c).ownBlock=some j)) z v k xs:=fun {z v k xs} hr=>by
  have h1:Rd w (fun j=>¬ U j∧¬ (U j∨(Value.slice A n c).ownBlock=some j)) z v k xs:=Rd.mono hr fun j hj hl=>⟨hj,hM j hj hl⟩
  exact Rd.mono (Rd.chg h1 c0 fun j hj=>hS j hj.1) fun j hj _=>hj.2
 have hsz:=c0.size
 have nb:∀ j,(d.ov.ownBlock=some j∨j=b)→d.xb≠j∧d.gb≠j∧d.gl≠j∧∀ p∈d.ms,p.1≠j:=fun j e=>by
  rcases e with e|rfl
  ·have:=h.nov e
   exact ⟨this.2.1,this.2.2.1,this.2.2.2.1,this.2.2.2.2⟩
  exact ⟨n1.symm,n2.symm,n3.symm,fun p hp=>(n7 p hp).1⟩
 have hsub:∀ {q:Nat},U q→q < w.heap.size:=fun hq=>(h.hU _ hq).2
 exact {
  cells:=by
   have hc1:Xs w' b (Zyp d):=h.cells.chg cg fun e=>(h.nov e).1 rfl
   have:=hc1.set (j:=3) (by show 3 < 6;omega) (.slice A n c)
   exact this
  hU:=fun k hk=>by
   rcases hk with hk|hk
   ·exact ⟨(h.hU k hk).1,Nat.lt_of_lt_of_le (h.hU k hk).2 hsz⟩
   have:=hg.own.lt k hk
   refine ⟨this.1,Nat.lt_of_lt_of_le this.2 ?_⟩
   exact ((Chg.refl (· = b) w').setCell (p:=⟨b,3,none⟩) (.inl rfl) (.slice A n c)).size
  ub:=.inl h.ub,ux:=.inl h.ux,ugb:=.inl h.ugb,ugl:=.inl h.ugl
  um:=fun p hp=>.inl (h.um p hp)
  uo:=fun k hk=>.inr hk
  dis:=h.dis
  dio:=fun k hk=>by
   rcases ho k hk with e|rfl
   ·exact h.dio k e
   intro hm
   simp only [Zg] at hm
   rcases hm with e|e|e|e|e
   ·exact hUn _ h.ub e.symm
   ·exact hUn _ h.ux e.symm
   ·exact hUn _ h.ugb e.symm
   ·exact hUn _ h.ugl e.symm
   obtain ⟨p,hp,e⟩:=List.mem_map.1 e
   exact hUn _ (h.um p hp) e
  tbl:=by
   have h1:=Bq h.tbl (fun j hj hl=>(⟨hj,hM j hj hl⟩:¬ U j∧¬ (U j∨(Value.slice A n c).ownBlock=some j)))
   exact Bq (h1.chg c0 fun j hj=>hS j hj.1) fun j hj _=>hj.2
  shr:=⟨h.shr.cells.chg c0 (fun e=>(nb _ e).1 rfl),mv h.shr.ks,mv h.shr.rs⟩
  xok:=h.xok
  ptr:=mv h.ptr
  mach:=fun p hp=>⟨⟨(h.mach p hp).1.cells.chg c0 (fun e=>(nb _ e).2.2.2 p hp rfl),mv (h.mach p hp).1.ns,mv (h.mach p hp).1.rs⟩,(h.mach p hp).2⟩
  box:=h.box.chg c0 (by intro j hj e;simp only [Dk.bv,Value.ownBlock,Yd] at hj;exact (nb _ e).2.1 hj)
  boxes:=fun j s l h1 h2=>⟨mv (h.boxes j s l h1 h2).1,(h.boxes j s l h1 h2).2⟩
  lb:=h.lb,lbs:=h.lbs,ll:=h.ll,lm:=h.lm
  own:=hg.own.far (by
   intro e
   rcases ho b e with e|e
   ·exact (h.nov e).1 rfl
   exact hUn _ h.ub e) _
  nms:=fun q hq=>by
   rcases Zj.1 hq with hq|hq
   ·exact mv (h.nms q hq)
   rw [Zi.1 hq,hn,hv];exact Rd.nil _ _ _
  lo:=by rw [Zs];show _+1≤_;omega
  n16:=fun q hq=>by
   rcases Zj.1 hq with hq|hq
   ·exact h.n16 q hq
   rw [Zi.1 hq,hn];simp
  lown:=h.lown.chg c0 (by intro j hj e;simp only [Dk.lv,Value.ownBlock,Yd] at hj;exact (nb _ e).2.2.1 hj)}
end
end
def boolRow (n:Nat):Array Value:=madeCells #[.bool false] n
theorem Eo (n:Nat):(boolRow n).toList=(List.replicate n false).map Value.bool:=by
 unfold boolRow madeCells
 apply List.ext_getElem
 ·simp
 intro i h1 h2
 simp [Nat.mod_one]
theorem Zz5 (n:Nat) (hn:n≤4096) (w:World):(Instr.makeSlice 117 (.int .i64 (n:Int)) (.int .i64 (n:Int))).run Tryz.prog w=.ok (.slice (some ⟨w.heap.size,0,none⟩) n n) (w.alloc (.cells (boolRow n) 4)):=by
 obtain ⟨i0,hi,hz0,hz1,hz2⟩:=info_parts Qa
 have h:=run_make w 117 4 i0 _ On hi hz0 .i64 .i64 n n (by omega) (by omega) (by rw [hz2];omega) (by omega)
 simp only [Int.toNat_natCast,hz1,Nat.mul_one] at h
 exact h
theorem Zxq (w:World) (n:Nat) (hn:n≤4096):Own Nn (w.alloc (.cells (boolRow n) 4)) w.heap.size (.slice (some ⟨w.heap.size,0,none⟩) n n) (List.replicate n false):=by
 refine ⟨by rw [Nn.len],.inr ⟨w.heap.size,n,boolRow n,by rw [Z0],Yo _,heap_alloc_new w _,by rw [Z0];exact Yo _,by unfold maxLen;omega,?_,?_⟩⟩
 ·rw [← Array.length_toList,Eo];simp [Nn]
 rw [Eo]
 show _=(List.replicate n false).map Value.bool
 rw [Zm (by simp [Nn])]
def Ztu (w:World) (e:Ending) (w':World):Prop:=∃ (s:ByteArray) (x:Int),e=.returned (.tuple #[.string s,.int .i64 x])∧s.size≤100000000000∧Ext w w'
theorem Sv {P:List Bool} {x k:Nat} {b:Bool} (h:P[x]?=some b):Gt P (min (x+1) k)=Gt P (min x k)+(if b=true∧x < k then 1 else 0):=by
 by_cases hk:x < k
 ·rw [Nat.min_eq_left (by omega),Nat.min_eq_left (by omega),Q6 h]
  cases b<;>simp [hk]
 rw [Nat.min_eq_right (by omega),Nat.min_eq_right (by omega),if_neg (fun q=>hk q.2),Nat.add_zero]
theorem Zrx {S:Nat→Prop} (v:Value) (l:List Int) (w:World) (h:Xz w S v l):Calls Tryz.prog 223 #[v] w (Ztu w):=by
 obtain ⟨A,C,rfl,hlCC,hCC⟩:=h.shape
 obtain ⟨n,hnn⟩:∃ n,(l).length=n:=⟨_,rfl⟩
 have Hnn:=Yw hnn
 have Hh:=Yw h
 unfold maxLen at hCC
 rw [hnn] at hlCC ⊢
 clear h hnn
 go_enter Tryz.func223,Tryz.ntmps223
 by_cases hn:n≤256
 ·have d1:decide ((256:Int) < (n:Int))=false:=Yg (by omega)
  have k2:=Zz5 n (by omega)
  go_wp2_with fail
  obtain ⟨G,hG⟩:∃ G,w.heap.size=G:=⟨_,rfl⟩
  have Ho0:=Yw (Zxq w n (by omega))
  rw [hG] at Ho0 ⊢
  have HG:=Yw hG
  clear hG k2
  go_loopw [26,4] (fun o s wr=>∃ (i:Nat) (u:ByteArray) (P:List Bool),i≤n∧o=.int .i64 (i:Int)∧s=.string u∧u.size≤i∧P.length=n∧Own Nn wr G (.slice (some ⟨G,0,none⟩) n n) P∧(∀ j,j < i→P[j]?=some false→128≤l.getD j 0)∧(∀ c∈l.take i,0≤c∧c≤1114111)∧Ext w wr) (fun o _ _=>n - (intOf o).toNat)
  case atStart=>exact ⟨0,⟨#[]⟩,List.replicate n false,by omega,rfl,rfl,by show 0≤0;omega,by simp,Ho0.out,fun j hj=>by omega,by simp,by have:=(Yl w).alloc (.cells (boolRow n) 4);exact this⟩
  clear Ho0
  obtain ⟨i,u,P,hi,rfl,rfl,hu,hP,ho,hlo,hsc,hx⟩:=hrel
  have Hx:=Yw hx
  have Ho:=Yw ho
  have HP:=Yw hP
  have Hlo:=Yw hlo
  have Hsc:=Yw hsc
  clear hx ho hP hlo hsc
  by_cases hlt:i < n
  ·have hd_i:decide ((i:Int) < (n:Int))=true:=Yf (by omega)
   have i0_i:(0:Int)≤(i:Int):=by omega
   have i1_i:(i:Int) < (n:Int):=by omega
   obtain ⟨x,hs_x⟩:∃ s,(l)[i]?=some s:=⟨(l)[i]'(by have:=Hnn.out;omega),Zz _⟩
   obtain ⟨g_x,o_x,c_x,hvv,_,_,_,hgl_x,a0_x⟩:=(Hh.out.ext Hx.out).get hs_x
   simp only [Ye] at hvv
   obtain ⟨rfl,-,rfl⟩:=hvv
   have Hs_x:=Yw hs_x
   clear hs_x
   cases hs:Rp x
   ·go_wp2_with (go_at_call 143;refine (Qv _ _).mono ?_;rintro e w' ⟨rfl,rfl⟩)
    go_ret2
    exact ⟨_,_,rfl,by show 0≤_;omega,Hx.out⟩
   have hx0:0≤x∧x≤1114111:=by simp [Rp] at hs;omega
   have Hx0:=Yw hx0
   have hcn:∀ c∈l.take (i+1),0≤c∧c≤1114111:=by
    rw [Wz Hs_x.out]
    intro c hc
    rcases Zj.1 hc with h1|h1
    ·exact Hsc.out c h1
    rw [Zi.1 h1];exact Hx0.out
   have Hcn:=Yw hcn
   clear hcn hx0
   by_cases ha:x < 128
   ·have d2:decide (x < 128)=true:=Yf ha
    have hcv:=fun w:World=>V1 (w:=w) [x] 1 rfl _ rfl
    simp only [List.map_cons,List.map_nil] at hcv
    obtain ⟨bz,hbz⟩:∃ b,bs (u8L [x])=b:=⟨_,rfl⟩
    have hbs:bz.size=1:=by rw [← hbz];rfl
    rw [hbz] at hcv
    have hus:¬ 9223372036854775807 < u.size+bz.size:=by omega
    have Hbs:=Yw hbs
    clear hbz hbs ha
    have ho2:=Ho.out.ext ((Yl _).alloc (.cells #[.int .u8 (x % 256)] 5))
    have hP2:i < P.length:=by rw [HP.out];exact hlt
    have hgb:=ho2.blk.2
    have htw:=ho2.thaw i
    obtain ⟨b0,hb0⟩:∃ b0,P[i]?=some b0:=⟨P[i],Zz hP2⟩
    have hc0:=ho2.at_ (Dv hb0)
    have Ho3:=Yw (ho2.put rfl hP2 true (u:=.bool true) rfl)
    clear ho2 hb0
    go_wp2_with (go_at_call 143;refine (Qv _ _).mono ?_;rintro e w' ⟨rfl,rfl⟩)
    go_roundw
    case rel =>
     refine ⟨i+1,_,P.set i true,by omega,by go_num,rfl,by simp;rw [Hbs.out];omega,by rw [Zf];exact HP.out,Ho3.out,fun j hj hf=>?_,Hcn.out,Ya (Hx.out.alloc _) (by show w.heap.size≤G;rw [HG.out];exact Yo _) _⟩
     obtain ⟨hne,hf⟩:=Oz hf
     exact Hlo.out j (by omega) hf
    case measure=>(simp [intOf];omega)
   have d2:decide (x < 128)=false:=Yg ha
   have Ha:=Yw ha
   clear ha
   go_wp2_with (go_at_call 143;refine (Qv _ _).mono ?_;rintro e w' ⟨rfl,rfl⟩)
   go_roundw
   case rel =>
    refine ⟨i+1,_,P,by omega,by go_num,rfl,by omega,HP.out,Ho.out,fun j hj hf=>?_,Hcn.out,Hx.out⟩
    rcases Nat.lt_or_eq_of_le (Nat.lt_succ_iff.1 hj) with h1|h1
    ·exact Hlo.out j h1 hf
    rw [h1,Bf Hs_x.out]
    have:=Ha.out
    omega
   case measure=>(simp [intOf];omega)
  have hd_i:decide ((i:Int) < (n:Int))=false:=Yg (by omega)
  obtain rfl:i=n:=by omega
  have Hsc2:=Yw (show ∀ c∈l,0≤c∧c≤1114111 by have:=Hsc.out;rwa [Zm (by rw [Hnn.out];omega)] at this)
  have Hpu:=Yw (show Zp6 l P 128 0 from ⟨by rw [HP.out,Hnn.out],by omega,fun j hj=>Hlo.out j (by rw [← HP.out];exact (Zr.1 hj).1) hj,by omega,fun j _ _=>by omega⟩)
  clear Hsc Hlo hlt hd_i hi
  have Hfr:=Yw (show Pi P≤i by unfold Pi;rw [← HP.out];exact List.count_le_length)
  cases hE:u.toList.isEmpty
  all_goals
   go_wp2_with fail
   clear hE
   rename World=>wo
   have Hxo:=Yw Hx.out
   go_loopg [4,8,9,10,11] (Pi P) (fun gk s nn ii bi fi wr=>∃ (u:ByteArray) (m:Int) (q:Nat) (y:Int) (b:Bool) (P:List Bool),s=.string u∧nn=.int .i64 m∧ii=.int .i64 (q:Int)∧bi=.int .i64 y∧fi=.bool b∧P.length=i∧Own Nn wr G (.slice (some ⟨G,0,none⟩) i i) P∧Zp6 l P m q∧Pi P=gk∧gk≤i∧u.size+gk * 300000002≤258+i * 300000002∧Ext w wr)
   case atStart=>exact ⟨_,128,0,72,true,P,rfl,rfl,rfl,rfl,rfl,HP.out,Ho.out,Hpu.out,rfl,Hfr.out,by first|(have:=Hfr.out;omega)|(have:=Hfr.out;rw [Ym];show u.size+1+_≤_;omega),Hx.out⟩
   clear Ho HP Hpu Hfr Hx Hxo
   obtain ⟨u,m,q,y,b,P,rfl,rfl,rfl,rfl,rfl,hP,ho,hpu,hfr,hgi,hu,hx⟩:=hrel
   have Hx:=Yw hx
   have Ho:=Yw ho
   have HP:=Yw hP
   have Hpu:=Yw hpu
   have Hfr:=Yw hfr
   have Hu:=Yw hu
   have Hgi:=Yw hgi
   clear hx ho hP hpu hfr hu hgi
   have HhI:=Yw (show Xz w S (.slice A i C) l by have:=Hh.out;rwa [Hnn.out] at this)
   rename World=>wo
   go_wp2_with fail
   refine (Zxc _ _ l P _ (HhI.out.ext Hx.out) Ho.out.rd (by rw [HP.out,Hnn.out]) (by rw [Hnn.out];omega)).mono ?_
   rintro e w1 ⟨a,rfl,hfo,hx1⟩
   have Hx1:=Yw (Hx.out.trans hx1)
   have Ho1:=Yw (Ho.out.ext hx1)
   clear hx1
   rcases hfo with ⟨rfl,hall⟩ | ⟨k,rfl,hbest⟩
   ·go_wp2_with fail
    go_ret2
    refine ⟨u,0,rfl,?_,Hx1.out⟩
    have:=Hu.out;have:=Hgi.out;omega
   have hk:k < i:=by rw [← Hnn.out];exact hbest.lt
   have Hbest:=Yw hbest
   clear hbest
   have k0:decide ((k:Int) < 0)=false:=Yg (by omega)
   have k1:(0:Int)≤(k:Int):=by omega
   have k2:(k:Int) < (i:Int):=by omega
   go_wp2_with fail
   go_loopw [58,13,14] (fun o h j wr=>∃ x:Nat,x≤i∧o=.int .i64 (x:Int)∧h=.int .i64 ((Gt P x:Nat):Int)∧j=.int .i64 ((Gt P (min x k):Nat):Int)∧Ext w1 wr) (fun o _ _ _=>i - (intOf o).toNat)
   case atStart=>exact ⟨0,by omega,rfl,rfl,by rw [Nat.zero_min];rfl,Yl _⟩
   obtain ⟨x,hxi,rfl,rfl,rfl,hx⟩:=hrel
   have Hx2:=Yw hx
   clear hx
   obtain ⟨H,hH⟩:∃ H,Gt P x=H:=⟨_,rfl⟩
   obtain ⟨J,hJ⟩:∃ J,Gt P (min x k)=J:=⟨_,rfl⟩
   have hH1:H≤i:=by rw [← hH];exact Nat.le_trans (M9 P x) (by rw [HP.out];exact Yo _)
   have hJ1:J≤i:=by rw [← hJ];exact Nat.le_trans (M9 P _) (by rw [HP.out];exact Yo _)
   rw [hH,hJ]
   have HH:=Yw hH
   have HJ:=Yw hJ
   clear hH hJ
   by_cases hlt:x < i
   ·have hd_x:decide ((x:Int) < (i:Int))=true:=Yf (by omega)
    have i0_x:(0:Int)≤(x:Int):=by omega
    have i1_x:(x:Int) < (i:Int):=by omega
    obtain ⟨b0,hb0⟩:∃ b0,P[x]?=some b0:=⟨P[x]'(by rw [HP.out];exact hlt),Zz _⟩
    have hc0:=(Ho1.out.ext Hx2.out).at_ (Dv hb0)
    have Hb0:=Yw hb0
    clear hb0
    cases b0 with
    | false =>
     go_wp2_with fail
     go_roundw
     case rel=>exact ⟨x+1,by omega,by go_num,by rw [Q6 Hb0.out,HH.out];simp,by rw [Sv Hb0.out,HJ.out];simp,Hx2.out⟩
     case measure=>(simp [intOf];omega)
    | true =>
     by_cases hxk:x < k
     ·have e1:decide ((x:Int) < (k:Int))=true:=Yf (by omega)
      go_wp2_with fail
      go_roundw
      case rel=>exact ⟨x+1,by omega,by go_num,by rw [Q6 Hb0.out,HH.out];simp,by rw [Sv Hb0.out,HJ.out];simp [hxk],Hx2.out⟩
      case measure=>(simp [intOf];omega)
     have e1:decide ((x:Int) < (k:Int))=false:=Yg (by omega)
     go_wp2_with fail
     go_roundw
     case rel=>exact ⟨x+1,by omega,by go_num,by rw [Q6 Hb0.out,HH.out];simp,by rw [Sv Hb0.out,HJ.out];simp [hxk],Hx2.out⟩
     case measure=>(simp [intOf];omega)
   have hd_x:decide ((x:Int) < (i:Int))=false:=Yg (by omega)
   obtain rfl:x=i:=by omega
   rw [Nat.min_eq_right (by omega)] at HJ
   have hbl:Zq2 l P l.length k:=Hbest.out
   have hv0:=Ztn Hpu.out hbl
   have hv1:=Zsm Hpu.out Hsc2.out hbl (by rw [Hnn.out];omega)
   have hsp:=Zvc Hpu.out hbl
   have hms:=Hpu.out.low k hbl.free
   have hms2:=Hpu.out.n0
   have hq1:=Hpu.out.cnt
   unfold Pq at hv0 hv1
   rw [HP.out] at hv0 hv1 hq1
   rw [HH.out,HJ.out] at hv0 hv1
   rw [HH.out] at hq1
   rw [HJ.out] at hsp
   obtain ⟨y0,hy⟩:∃ y,l[k]?=some y:=⟨l[k]'(by rw [Hnn.out];omega),Zz _⟩
   rw [Bf hy] at hv0 hv1 hsp hms
   have hyb:=Hsc2.out y0 (Zy hy)
   obtain ⟨g3,o3,c3,hv3,_,_,_,hg3,cy⟩:=(HhI.out.ext (Hx1.out.trans Hx2.out)).get hy
   simp only [Ye] at hv3
   obtain ⟨rfl,-,rfl⟩:=hv3
   obtain ⟨d,hd⟩:∃ d:Nat,y0 - m=(d:Int):=⟨(y0 - m).toNat,by rw [Int.toNat_of_nonneg (by omega)]⟩
   obtain ⟨H1,hH1e⟩:∃ H1,H+1=H1:=⟨_,rfl⟩
   obtain ⟨M,hM⟩:∃ M,d * H1=M:=⟨_,rfl⟩
   have hM2:(d:Int) * ((H:Int)+1)=(M:Int):=by rw [← hM,← hH1e];simp
   rw [hd,hM2] at hv0 hv1
   have hMb:M≤1114111 * 257:=by rw [← hM];exact Nat.mul_le_mul (by omega) (by omega)
   obtain ⟨V,hV⟩:∃ V:Nat,(M:Int)+(J:Int) - (q:Int)=(V:Int):=⟨((M:Int)+(J:Int) - (q:Int)).toNat,by rw [Int.toNat_of_nonneg hv0]⟩
   have r1:IntKind.i64.wrap (y0 - m)=(d:Int):=by rw [Yq _ (by omega)];exact hd
   have r2:IntKind.i64.wrap ((H:Int)+1)=(H1:Int):=by rw [Yq _ (by omega)];omega
   have r3:IntKind.i64.wrap ((d:Int) * (H1:Int))=(M:Int):=by rw [← Int.natCast_mul,hM,Yq _ (by omega)]
   have r4:IntKind.i64.wrap ((M:Int)+(J:Int))=(M:Int)+(J:Int):=Yq _ (by omega)
   have r5:IntKind.i64.wrap ((M:Int)+(J:Int) - (q:Int))=(V:Int):=by rw [Yq _ (by omega)];omega
   have r6:IntKind.i64.wrap ((J:Int)+1)=(J:Int)+1:=Yq _ (by omega)
   have hVb:V≤300000000:=by omega
   have Hy:=Yw hy
   have Hsp:=Yw hsp
   clear hy hsp hd hM2 hM hV hv0 hv1 hms hms2 hyb hq1 hlt hd_x
   go_wp2_with fail
   refine (Zss V (by omega) y _).mono ?_
   rintro e w3 ⟨s3,rfl,hs3,hx3⟩
   have hus:¬ 9223372036854775807 < u.size+s3.size:=by have:=Hu.out;have:=Hgi.out;omega
   go_wp2_with fail
   refine (Fk V H1 (by omega) (by omega) (by omega) b _).mono ?_
   rintro e w4 ⟨y4,rfl,hx4⟩
   have hx04:=Hx2.out.trans (hx3.trans hx4)
   have ho4:=Ho1.out.ext hx04
   have hgb:=ho4.blk.2
   have htw:=ho4.thaw k
   have hP2:k < P.length:=by rw [HP.out];exact hk
   have hc4:=ho4.at_ (Dv Hbest.out.free)
   have hy4:=(hx3.trans hx4).cell (p:=⟨g3,o3+k,none⟩) hg3
   rw [cy] at hy4
   have hne:g3≠G:=by
    obtain ⟨g4,o4,c4,hv4,_,_,_,hg4,_⟩:=HhI.out.get Hy.out
    simp only [Ye,Yd,Addr.mk.injEq] at hv4
    have:=HG.out
    omega
   have Ho5:=Yw (ho4.put rfl hP2 true (u:=.bool true) rfl)
   have Hxf:=Yw (Hx1.out.trans hx04)
   clear ho4 hx04
   go_wp2_with fail
   go_roundg (Pi (P.set k true))
   case measure=>rw [← Hfr.out];exact Da Hbest.out.free
   case rel =>
    refine ⟨_,y0,J+1,y4,false,P.set k true,rfl,rfl,by go_num,rfl,rfl,by rw [Zf];exact HP.out,Ho5.out,Hsp.out,rfl,?_,?_,Ya Hxf.out (by show w.heap.size≤G;rw [HG.out];exact Yo _) _⟩
    ·have:=Da Hbest.out.free;have:=Hfr.out;have:=Hgi.out;omega
    have h1:=Da Hbest.out.free
    have h2:=Hfr.out
    have h3:=Hu.out
    rw [Ym]
    omega
 have d1:decide ((256:Int) < (n:Int))=true:=Yf (by omega)
 go_wp2_with fail
 go_ret2
 exact ⟨_,_,rfl,by show 0≤_;omega,Yl _⟩
section
def Fd (n:Nat):Array Value:=madeCells #[.slice none 0 0] n
theorem Mv (n:Nat):(Fd n).toList=(List.replicate n (⟨none,0,0⟩:Sl)).map Sl.v:=by
 unfold Fd madeCells
 apply List.ext_getElem
 ·simp
 intro i h1 h2
 simp [Nat.mod_one,Sl.v]
theorem Zsh (n:Nat) (hn:n≤4096) (w:World):(Instr.makeSlice 143 (.int .i64 (n:Int)) (.int .i64 (n:Int))).run Tryz.prog w=.ok (.slice (some ⟨w.heap.size,0,none⟩) n n) (w.alloc (.cells (Fd n) 24)):=by
 obtain ⟨i0,hi,hz0,hz1,hz2⟩:=info_parts Bc
 have h:=run_make w 143 24 i0 _ Zrb hi hz0 .i64 .i64 n n (by omega) (by omega) (by rw [hz2];omega) (by omega)
 simp only [Int.toNat_natCast,hz1,Nat.mul_one] at h
 exact h
theorem Zpf (w:World) (n:Nat) (hn:n≤4096):Own ssE (w.alloc (.cells (Fd n) 24)) w.heap.size (.slice (some ⟨w.heap.size,0,none⟩) n n) (List.replicate n ⟨none,0,0⟩):=by
 refine ⟨by rw [ssE.len],.inr ⟨w.heap.size,n,Fd n,by rw [Z0],Yo _,heap_alloc_new w _,by rw [Z0];exact Yo _,by unfold maxLen;omega,?_,?_⟩⟩
 ·rw [← Array.length_toList,Mv];simp [ssE]
 rw [Mv]
 show _=(List.replicate n (⟨none,0,0⟩:Sl)).map Sl.v
 rw [Zm (by simp [ssE])]
structure Li (w0 w:World) (T:Tbl) (b xb gb:Nat) (cp:Int) (n k j:Nat) (mv lv:Value) (ms:List (Nat×Qq)):Prop where
 ext:Ext w0 w
 cells:Xs w b [.pointer (some ⟨xb,0,none⟩),mv,.slice (some ⟨gb,0,none⟩) n n,.slice none 0 0,lv,.int .i64 0]
 box:Own ssE w w0.heap.size (.slice (some ⟨gb,0,none⟩) n n) (List.replicate n ⟨none,0,0⟩)
 shr:Xs w xb (Zp8 (Zy2 n cp))
 mOwn:Own Zt7 w gb mv (ms.map Prod.fst)
 lOwn:Own Xe w gb lv (List.replicate j (-1))
 len:ms.length=k
 mach:∀ (i:Nat) p,ms[i]?=some p→p.2=Ov i∧Xs w p.1 (machC T p.2)
 ge:∀ q∈b::xb::gb::ms.map Prod.fst,w0.heap.size≤q
 dis:(b::xb::gb::ms.map Prod.fst).Nodup
 dm:∀ q,mv.ownBlock=some q→q ∉ b::xb::gb::ms.map Prod.fst
 dl:∀ q,lv.ownBlock=some q→q ∉ b::xb::gb::ms.map Prod.fst∧mv.ownBlock≠some q
section
variable {w0 w w2 w5:World} {T:Tbl} {b xb gb n k j:Nat} {cp:Int} {mv lv:Value} {ms:List (Nat×Qq)}
theorem Li.lt (h:Li w0 w T b xb gb cp n k j mv lv ms):∀ q∈b::xb::gb::ms.map Prod.fst,q < w.heap.size:=by
 intro q hq
 simp only [Zg,List.mem_map] at hq
 rcases hq with rfl|rfl|rfl | ⟨p,hp,rfl⟩
 ·exact h.cells.lt
 ·exact h.shr.lt
 ·exact h.box.blk.2
 obtain ⟨i,hi⟩:=List.getElem?_of_mem hp
 exact (h.mach i p hi).2.lt
theorem Li.chg {S:Nat→Prop} (h:Li w0 w T b xb gb cp n k j mv lv ms) (x:Ext w0 w2) (c:Chg S w w2) (hS:∀ q∈b::xb::gb::ms.map Prod.fst,¬ S q) (hm:Own Zt7 w2 gb mv (ms.map Prod.fst)) (hl:Own Xe w2 gb lv (List.replicate j (-1))):Li w0 w2 T b xb gb cp n k j mv lv ms where
 ext:=x
 cells:=h.cells.chg c (hS b (by simp))
 box:=h.box.chg c (by intro q hq e;simp only [Value.ownBlock,Yd] at hq;exact hS gb (by simp) (hq ▸ e))
 shr:=h.shr.chg c (hS xb (by simp))
 mOwn:=hm
 lOwn:=hl
 len:=h.len
 mach i p hp:=⟨(h.mach i p hp).1,(h.mach i p hp).2.chg c (hS _ (by simp only [Zg,List.mem_map];exact .inr (.inr (.inr ⟨p,Zy hp,rfl⟩))))⟩
 ge:=h.ge
 dis:=h.dis
 dm:=h.dm
 dl:=h.dl
theorem Li.up (h:Li w0 w T b xb gb cp n k j mv lv ms) (x:Ext w w2):Li w0 w2 T b xb gb cp n k j mv lv ms :=
 h.chg (h.ext.trans x) (x.chg fun _=>False) (fun _ _ e=>e) (h.mOwn.ext x) (h.lOwn.ext x)
theorem Li.bne (h:Li w0 w T b xb gb cp n k j mv lv ms):b≠xb∧b≠gb∧(∀ p∈ms,b≠p.1):=by
 have:=(List.nodup_cons.1 h.dis).1
 simp only [Zg,List.mem_map,not_or,not_exists,not_and] at this
 exact ⟨this.1,this.2.1,fun p hp e=>this.2.2 p hp e.symm⟩
theorem Li.growM {mb n' c:Nat} {A:Option Addr} {o:Obj} (h:Li w0 w T b xb gb cp n k j mv lv ms) (x:Ext w w2) (hb:Xs w2 mb (machC T (Ov k))) (hge:w.heap.size≤mb) (hg:Grew Zt7 (w2.alloc o) gb mv (ms.map Prod.fst++[mb]) A n' c w5) :
 Li w0 (w5.setCell ⟨b,1,none⟩ (.slice A n' c)) T b xb gb cp n (k+1) j (.slice A n' c) lv (ms++[(mb,Ov k)]):=by
 have h2:=h.up x
 have x2:=(Yl w2).alloc o
 have hlt:=h.lt
 have hlt2:=h2.lt
 have hsz:=x.size
 have hat:∀ q,(Value.slice A n' c).ownBlock=some q→mv.ownBlock=some q∨q=(w2.alloc o).heap.size:=fun q hq=>by
  rcases hg.at_ with h1|h1
  ·exact .inl (by rw [← h1];exact hq)
  rw [hq] at h1;exact .inr (Option.some.inj h1)
 have hS:∀ q∈b::xb::gb::ms.map Prod.fst,¬ mv.ownBlock=some q:=fun q hq e=>h.dm q e hq
 have hmbS:¬ mv.ownBlock=some mb:=fun e=>by have:=(h.mOwn.lt mb e).2;omega
 have x5:Ext w0 w5:=hg.ext w0 ((h2.ext).trans x2) (h.ge gb (by simp))
 have l5:Own Xe w5 gb lv (List.replicate j (-1)):=(h2.lOwn.ext x2).chg hg.chg (fun q hq e=>(h.dl q hq).2 e)
 have b5:=(h2.cells.ext x2).chg hg.chg (hS b (by simp))
 have bge:=h.ge b (by simp)
 obtain ⟨n1,n2,n3⟩:=h.bne
 have hmb2:=hb.lt
 have hnew:∀ q,q∈b::xb::gb::(ms++[(mb,Ov k)]).map Prod.fst↔q∈b::xb::gb::ms.map Prod.fst∨q=mb:=fun q=>by simp [or_assoc]
 have c6:Chg (· = b) w5 (w5.setCell ⟨b,1,none⟩ (.slice A n' c)):=(Chg.refl (· = b) w5).setCell (p:=⟨b,1,none⟩) (.inl rfl) _
 refine ⟨x5.chg_new c6 (fun i e=>by omega),?_,?_,?_,?_,?_,?_,?_,?_,?_,?_,?_⟩
 ·exact b5.set (j:=1) (by simp) (.slice A n' c)
 ·exact ((h2.box.ext x2).chg hg.chg (fun q hq e=>by simp only [Value.ownBlock,Yd] at hq;exact hS gb (by simp) (hq ▸ e))).far (fun e=>by simp only [Value.ownBlock,Yd] at e;exact n2 e.symm) _
 ·exact ((h2.shr.ext x2).chg hg.chg (hS xb (by simp))).far n1.symm _
 ·rw [Z9]
  exact hg.own.far (fun e=>by
   rcases hat b e with h1|h1
   ·exact hS b (by simp) h1
   have:=hlt2 b (by simp);simp at h1;omega) _
 ·exact l5.far (fun e=>(h.dl b e).1 (by simp)) _
 ·rw [Zs,h.len];rfl
 ·intro i p hp
  by_cases hi:i < ms.length
  ·rw [Ze hi] at hp
   have hmem:p.1∈b::xb::gb::ms.map Prod.fst:=by simp only [Zg,List.mem_map];exact .inr (.inr (.inr ⟨p,Zy hp,rfl⟩))
   exact ⟨(h.mach i p hp).1,(((h2.mach i p hp).2.ext x2).chg hg.chg (hS _ hmem)).far (n3 p (Zy hp)).symm _⟩
  have hil:=(Zr.1 hp).1
  rw [Zs,List.length_singleton] at hil
  obtain rfl:i=ms.length:=by omega
  rw [Zd (Yo _),Nat.sub_self] at hp
  obtain rfl:(mb,Ov k)=p:=by simpa using hp
  refine ⟨by rw [h.len],((hb.ext x2).chg hg.chg hmbS).far (fun e=>?_) _⟩
  have:=hlt b (by simp)
  omega
 ·intro q hq
  rcases (hnew q).1 hq with hq|rfl
  ·exact h.ge q hq
  have:=h.ext.size;omega
 ·have hn:mb ∉ b::xb::gb::ms.map Prod.fst:=fun hm=>by have:=hlt mb hm;omega
  rw [Z9,show b::xb::gb::(ms.map Prod.fst++[(mb,Ov k)].map Prod.fst)=(b::xb::gb::ms.map Prod.fst)++[mb] from rfl,List.nodup_append]
  exact ⟨h.dis,by simp,fun q hq y hy e=>hn (by rw [Zi.1 hy] at e;exact e ▸ hq)⟩
 ·intro q hq hm
  rcases (hnew q).1 hm with hm|rfl
  ·rcases hat q hq with h1|h1
   ·exact h.dm q h1 hm
   have:=hlt2 q hm;simp at h1;omega
  rcases hat q hq with h1|h1
  ·exact hmbS h1
  simp at h1;omega
 intro q hq
 refine ⟨fun hm=>?_,fun e=>?_⟩
 ·rcases (hnew q).1 hm with hm|rfl
  ·exact (h.dl q hq).1 hm
  have:=(h.lOwn.lt q hq).2;omega
 rcases hat q e with h1|h1
 ·exact (h.dl q hq).2 h1
 have:=(h2.lOwn.lt q hq).2;simp at h1;omega
theorem Li.growL {n' c:Nat} {A:Option Addr} {o:Obj} (h:Li w0 w T b xb gb cp n k j mv lv ms) (hg:Grew Xe (w.alloc o) gb lv (List.replicate j (-1)++[-1]) A n' c w5) :
 Li w0 (w5.setCell ⟨b,4,none⟩ (.slice A n' c)) T b xb gb cp n k (j+1) mv (.slice A n' c) ms:=by
 have x2:=(Yl w).alloc o
 have hlt:=h.lt
 have hat:∀ q,(Value.slice A n' c).ownBlock=some q→lv.ownBlock=some q∨q=(w.alloc o).heap.size:=fun q hq=>by
  rcases hg.at_ with h1|h1
  ·exact .inl (by rw [← h1];exact hq)
  rw [hq] at h1;exact .inr (Option.some.inj h1)
 have hS:∀ q∈b::xb::gb::ms.map Prod.fst,¬ lv.ownBlock=some q:=fun q hq e=>(h.dl q e).1 hq
 have x5:Ext w0 w5:=hg.ext w0 (h.ext.trans x2) (h.ge gb (by simp))
 have m5:Own Zt7 w5 gb mv (ms.map Prod.fst):=(h.mOwn.ext x2).chg hg.chg (fun q hq e=>(h.dl q e).2 hq)
 have bge:=h.ge b (by simp)
 obtain ⟨n1,n2,n3⟩:=h.bne
 have c6:Chg (· = b) w5 (w5.setCell ⟨b,4,none⟩ (.slice A n' c)):=(Chg.refl (· = b) w5).setCell (p:=⟨b,4,none⟩) (.inl rfl) _
 have erep:List.replicate j (-1:Int)++[-1]=List.replicate (j+1) (-1):=by rw [List.replicate_succ']
 refine ⟨x5.chg_new c6 (fun i e=>by omega),?_,?_,?_,?_,?_,h.len,?_,h.ge,h.dis,h.dm,?_⟩
 ·exact ((h.cells.ext x2).chg hg.chg (hS b (by simp))).set (j:=4) (by simp) (.slice A n' c)
 ·exact ((h.box.ext x2).chg hg.chg (fun q hq e=>by simp only [Value.ownBlock,Yd] at hq;exact hS gb (by simp) (hq ▸ e))).far (fun e=>by simp only [Value.ownBlock,Yd] at e;exact n2 e.symm) _
 ·exact ((h.shr.ext x2).chg hg.chg (hS xb (by simp))).far n1.symm _
 ·exact m5.far (fun e=>h.dm b e (by simp)) _
 ·rw [← erep]
  exact hg.own.far (fun e=>by
   rcases hat b e with h1|h1
   ·exact hS b (by simp) h1
   have:=hlt b (by simp);simp at h1;omega) _
 ·intro i p hp
  have hmem:p.1∈b::xb::gb::ms.map Prod.fst:=by simp only [Zg,List.mem_map];exact .inr (.inr (.inr ⟨p,Zy hp,rfl⟩))
  exact ⟨(h.mach i p hp).1,(((h.mach i p hp).2.ext x2).chg hg.chg (hS _ hmem)).far (n3 p (Zy hp)).symm _⟩
 intro q hq
 rcases hat q hq with h1|h1
 ·exact h.dl q h1
 exact ⟨fun hm=>by have:=hlt q hm;simp at h1;omega,fun e=>by have:=(h.mOwn.lt q e).2;simp at h1;omega⟩
theorem Q9.chgO {S:Nat→Prop} {w w':World} {b:Nat} {T:Tbl} (h:Q9 w b T) (c:Chg S w w') (hb:¬ S b):Q9 w' b T :=
 ⟨Nat.lt_of_lt_of_le h.lt c.size,fun k hk=>(c.cell (p:=⟨b,k,none⟩) h.lt hb).trans (h.at_ k hk)⟩
theorem Zpr {k:Nat} (hk:k < 64):MOk (Ov k) :=
 ⟨by simp [Ov],by simp [Ov],by simp [Ov],by simp [Ov];omega,fun h=>by simp [Ov] at h,fun h=>by simp [Ov] at h,fun h=>by simp [Ov] at h,fun h=>by simp [Ov] at h,fun h=>by simp [Ov] at h⟩
theorem Li.desk {S:Nat→Prop} (h:Li w0 w T b xb gb cp n n n mv lv ms) (hn:0 < n) (hn2:n≤64) (hT:Xm w0 S T):∃ (d:Dk) (U:Nat→Prop),Wt w U T b w0.heap.size d∧d.ms=ms∧d.x=Zy2 n cp∧d.n=0∧d.t=0∧d.ops=[]∧d.last=List.replicate n (-1)∧d.bs_=List.replicate n []:=by
 obtain ⟨gl,cl,rfl,hl1,hl2,hl3,hl4⟩:=h.lOwn.some_ (by rw [Z0];exact hn)
 have hdl:=h.dl gl rfl
 have hlt:=h.lt
 have hnd:=List.nodup_cons.1 h.dis
 refine ⟨{xb:=xb,x:=Zy2 n cp,mv:=mv,ms:=ms,gb:=gb,cb:=n,bx:=List.replicate n ⟨none,0,0⟩,bs_:=List.replicate n [],ov:=.slice none 0 0,ops:=[],gl:=gl,cl:=cl,last:=List.replicate n (-1),t:=0,n:=0},fun q=>q∈b::xb::gb::gl::ms.map Prod.fst,?_,rfl,rfl,rfl,rfl,rfl,rfl,rfl⟩
 have hU:∀ q,q∈b::xb::gb::gl::ms.map Prod.fst↔q∈b::xb::gb::ms.map Prod.fst∨q=gl:=fun q=>by
  simp only [Zg]
  constructor
  ·rintro (h1|h1|h1|h1|h1)
   ·exact .inl (.inl h1)
   ·exact .inl (.inr (.inl h1))
   ·exact .inl (.inr (.inr (.inl h1)))
   ·exact .inr h1
   exact .inl (.inr (.inr (.inr h1)))
  rintro ((h1|h1|h1|h1)|h1)
  ·exact .inl h1
  ·exact .inr (.inl h1)
  ·exact .inr (.inr (.inl h1))
  ·exact .inr (.inr (.inr (.inr h1)))
  exact .inr (.inr (.inr (.inl h1)))
 have hgg:=h.ge gb (by simp)
 have hge:∀ q,q∈b::xb::gb::gl::ms.map Prod.fst→w0.heap.size≤q∧q < w.heap.size:=fun q hq=>by
  rcases (hU q).1 hq with hq|rfl
  ·exact ⟨h.ge q hq,hlt q hq⟩
  exact ⟨by omega,hl2⟩
 exact {
  cells:=by have:=h.cells;simp only [Z0] at this;simpa [Zyp,Dk.bv,Dk.lv] using this
  hU:=hge
  ub:=by simp,ux:=by simp,ugb:=by simp,ugl:=by simp
  um:=fun p hp=>by simp only [Zg,List.mem_map];exact .inr (.inr (.inr (.inr ⟨p,hp,rfl⟩)))
  uo:=fun k hk=>by simp [Value.ownBlock] at hk
  dis:=by
   have d0:=List.nodup_cons.1 h.dis
   have d1:=List.nodup_cons.1 d0.2
   have d2:=List.nodup_cons.1 d1.2
   have hg:=hdl.1
   simp only [Zg,not_or] at d0 d1 d2 hg
   simp only [List.nodup_cons,Zg,not_or]
   exact ⟨⟨d0.1.1,d0.1.2.1,fun e=>hg.1 e.symm,d0.1.2.2⟩,⟨d1.1.1,fun e=>hg.2.1 e.symm,d1.1.2⟩,⟨fun e=>hg.2.2.1 e.symm,d2.1⟩,hg.2.2.2,d2.2⟩
  dio:=fun k hk=>by simp [Value.ownBlock] at hk
  tbl:=Bq ((Bq (S':=fun k=>k < w0.heap.size) hT fun k _ hl=>hl).up h.ext) (fun k hk _ hu=>by have:=(hge k hu).1;omega)
  shr:=⟨h.shr,Rd.nil _ _ _,Rd.nil _ _ _⟩
  xok:=⟨by simp [Zy2],by simp [Zy2],by simp [Zy2],by simp [Zy2],by simp [Zy2],by simp [Zy2]⟩
  ptr:=Rd.of_own h.mOwn (fun q hq hu=>by
   rcases (hU q).1 hu with hu|rfl
   ·exact h.dm q hq hu
   exact hdl.2 hq)
  mach:=fun p hp=>by
   obtain ⟨i,hi⟩:=List.getElem?_of_mem hp
   obtain ⟨h1,h2⟩:=h.mach i p hi
   have hil:=(Zr.1 hi).1
   rw [h.len] at hil
   obtain ⟨p1,p2⟩:=p
   simp only at h1 h2 ⊢
   subst h1
   exact ⟨⟨h2,Rd.nil _ _ _,Rd.nil _ _ _⟩,Zpr (by omega)⟩
  box:=by have:=h.box;simpa [Dk.bv] using this
  boxes:=fun j s l h1 h2=>by
   have e1:=Zy h1
   have e2:=Zy h2
   rw [List.eq_of_mem_replicate e1,List.eq_of_mem_replicate e2]
   exact ⟨Rd.nil _ _ _,by simp⟩
  lb:=by simp [h.len]
  lbs:=by simp [h.len]
  ll:=by simp [h.len]
  lm:=by simp [h.len];exact hn2
  own:=Own.nil _ _ _
  nms:=by simp
  lo:=by simp
  n16:=by simp
  lown:=by have:=h.lOwn.base hgg;simpa [Dk.lv] using this}
end
end
end Go.Proofs.YtnbclgbicnpmnaaGreat
