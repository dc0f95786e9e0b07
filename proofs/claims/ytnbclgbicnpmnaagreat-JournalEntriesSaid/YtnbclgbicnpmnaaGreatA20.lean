/- Lemmas of this claim: Enc2, Dc, Dd, OrdB, AppW, Mk, EnP, EnB. Conditions: as named. -/
import Derived.Deep.MidRow
import Derived.Deep.WholeRow
import Derived.Test.YtnbclgbicnpmnaaGreatA04
import Derived.Test.YtnbclgbicnpmnaaGreatA05
import Derived.Test.YtnbclgbicnpmnaaGreatA09
import Derived.Test.YtnbclgbicnpmnaaGreatA11
import Derived.Test.YtnbclgbicnpmnaaGreatA12
import Derived.Test.YtnbclgbicnpmnaaGreatA13
import Derived.Test.YtnbclgbicnpmnaaGreatA16
import Derived.Test.YtnbclgbicnpmnaaGreatA18
namespace Go.Proofs.YtnbclgbicnpmnaaGreat
open Go.RowKit Go.Sort
open List renaming getElem?_eq_getElem → Zz, mem_of_getElem? → Zy, getElem?_cons_zero → Zx, getElem?_cons_succ → Zw, setIfInBounds_toArray → Zv, set_cons_zero → Zu, set_cons_succ → Zt, length_append → Zs, getElem?_eq_some_iff → Zr, length_map → Zq, length_take → Zp, nil_append → Zo, getElem?_map → Zn, mem_append → Zj, mem_singleton → Zi, not_mem_nil → Zh, mem_cons → Zg, getElem?_append_right → Zd, take_add_one → Za, filterMap_cons → Z1, filterMap_nil → Z2, getElem?_toArray → Z3, drop_succ_cons → Z4, drop_zero → Z5, take_succ_cons → Z6, take_zero → Z7, length_drop → Z8, map_append → Z9, getElem?_take → Yy
open Lib renaming hid → Yw
open Go renaming wpQuiet_step → Yv, wpQuiet_nil → Yu, bodyPost_ret → Yt
open AllReadyH renaming cons → Ys, nil → Yr
open IntWalk renaming i64_in → Yq
open Classical renaming choose_spec → Yp
open Nat renaming le_refl → Yo
open Ext renaming refl → Yl, drewN → Yj, drew → Yi
set_option maxHeartbeats 40000000
set_option maxRecDepth 100000
set_option linter.all false
theorem Kk:(Tryz.prog.info? 99).map (fun i=>(i.zero,i.size,i.bytes))=some (some (.agg #[.int .i64 0,.int .i64 0,.int .i64 0]),3,24):=by kernel_rfl
theorem Zwp:Tryz.prog.underlying 31=some (.slice 99):=by kernel_rfl
theorem Zpi (l:List Sp):∀ u∈Wi l,u.oneCell'=true:=by
 induction l with
 | nil=>simp [Wi]
 | cons n r ih =>
  intro u hu
  rw [Wi,Zj] at hu
  rcases hu with hu|hu
  ·simp only [Fc,Zg,Zh,or_false] at hu
   rcases hu with rfl|rfl|rfl<;>rfl
  exact ih u hu
noncomputable def spE:Enc Sp where
 ty:=99
 sl:=31
 z:=3
 bytes:=24
 cells l:=Wi l
 app a b:=J6 a b
 len l:=Ek l
 one l:=Zpi l
 und:=Zwp
 i:=Classical.choose (info_parts Kk)
 zero:=.agg #[.int .i64 0,.int .i64 0,.int .i64 0]
 info:=(Yp (info_parts Kk)).1
 hz:=(Yp (info_parts Kk)).2.1
 hs:=(Yp (info_parts Kk)).2.2.1
 hb:=(Yp (info_parts Kk)).2.2.2
 hc:=rfl
 pos:=by omega
theorem Ks:(Tryz.prog.info? 106).map (fun i=>(i.zero,i.size,i.bytes))=some (some (.agg #[.int .i64 0,.slice none 0 0]),2,32):=by kernel_rfl
theorem Zy6:Tryz.prog.underlying 32=some (.slice 106):=by kernel_rfl
abbrev MpS:={m:Mp // m.tv.oneCell'=true}
def Zoz (l:List MpS):List Value:=Wh (l.map Subtype.val)
theorem Zs9 (l:List MpS):∀ u∈Zoz l,u.oneCell'=true:=by
 induction l with
 | nil=>simp [Zoz,Wh]
 | cons o r ih =>
  intro u hu
  obtain ⟨o,ho⟩:=o
  simp only [Zoz,List.map_cons,Wh,Zj] at hu
  rcases hu with hu|hu
  ·simp only [F7,Zg,Zh,or_false] at hu
   rcases hu with rfl|rfl
   ·rfl
   exact ho
  exact ih u hu
noncomputable def mpE:Enc MpS where
 ty:=106
 sl:=32
 z:=2
 bytes:=32
 cells l:=Zoz l
 app a b:=by simp [Zoz,J5]
 len l:=by simp [Zoz,Ej]
 one l:=Zs9 l
 und:=Zy6
 i:=Classical.choose (info_parts Ks)
 zero:=.agg #[.int .i64 0,.slice none 0 0]
 info:=(Yp (info_parts Ks)).1
 hz:=(Yp (info_parts Ks)).2.1
 hs:=(Yp (info_parts Ks)).2.2.1
 hb:=(Yp (info_parts Ks)).2.2.2
 hc:=rfl
 pos:=by omega
theorem Ae:(Tryz.prog.info? 109).map (fun i=>(i.zero,i.size,i.bytes))=some (some (.agg #[.string ⟨#[]⟩,.string ⟨#[]⟩,.string ⟨#[]⟩]),3,48):=by kernel_rfl
theorem Zpw:Tryz.prog.underlying 49=some (.slice 109):=by kernel_rfl
noncomputable def nmE:Enc Nm where
 ty:=109
 sl:=49
 z:=3
 bytes:=48
 cells l:=Xb l
 app a b:=Q1 a b
 len l:=Ko l
 one l:=P2 l
 und:=Zpw
 i:=Classical.choose (info_parts Ae)
 zero:=.agg #[.string ⟨#[]⟩,.string ⟨#[]⟩,.string ⟨#[]⟩]
 info:=(Yp (info_parts Ae)).1
 hz:=(Yp (info_parts Ae)).2.1
 hs:=(Yp (info_parts Ae)).2.2.1
 hb:=(Yp (info_parts Ae)).2.2.2
 hc:=rfl
 pos:=by omega
structure Rt where
 kind:Int
 cl:Int
 n:Int
 text:ByteArray
def Zoe (a:Rt):List Value:=[.int .i64 a.kind,.int .i64 a.cl,.int .i64 a.n,.string a.text]
def J4:List Rt→List Value
 | []=>[]
 | s::r=>Zoe s++J4 r
theorem Pv:∀ l:List Rt,(J4 l).length=l.length * 4
 | []=>rfl
 | n::r=>by rw [J4,Zs,Pv r];simp [Zoe];omega
theorem Em:∀ a b:List Rt,J4 (a++b)=J4 a++J4 b
 | [],_=>rfl
 | n::r,b=>by simp [J4,Em r b]
theorem Cy:∀ {l:List Rt} {j:Nat} {s:Rt},l[j]?=some s→(J4 l)[j * 4]?=some (.int .i64 s.kind)∧(J4 l)[j * 4+1]?=some (.int .i64 s.cl)∧(J4 l)[j * 4+2]?=some (.int .i64 s.n)∧(J4 l)[j * 4+3]?=some (.string s.text)
 | m::r,0,n,h=>by
  simp only [Zx,Yd] at h
  subst h
  simp [J4,Zoe]
 | m::r,j+1,n,h=>by
  obtain ⟨h1,h2,h3,h4⟩:=Cy (l:=r) (j:=j) (s:=n) (by simpa using h)
  have hm:(Zoe m).length=4:=rfl
  have e:∀ k,(J4 (m::r))[(j+1) * 4+k]?=(J4 r)[j * 4+k]?:=fun k=>by
   rw [J4,Zd (by omega),hm]
   congr 1;omega
  refine ⟨?_,?_,?_,?_⟩
  ·have:=e 0;simp only [Nat.add_zero] at this;rw [this,h1]
  ·rw [e 1,h2]
  ·rw [e 2,h3]
  rw [e 3,h4]
theorem Zs2 (l:List Rt):∀ u∈J4 l,u.oneCell'=true:=by
 induction l with
 | nil=>simp [J4]
 | cons n r ih =>
  intro u hu
  rw [J4,Zj] at hu
  rcases hu with hu|hu
  ·simp only [Zoe,Zg,Zh,or_false] at hu
   rcases hu with rfl|rfl|rfl|rfl<;>rfl
  exact ih u hu
theorem Bv:(Tryz.prog.info? 78).map (fun i=>(i.zero,i.size,i.bytes))=some (some (.agg #[.int .i64 0,.int .i64 0,.int .i64 0,.string ⟨#[]⟩]),4,40):=by kernel_rfl
theorem Ztk:Tryz.prog.underlying 39=some (.slice 78):=by kernel_rfl
noncomputable def Zyb:Enc Rt where
 ty:=78
 sl:=39
 z:=4
 bytes:=40
 cells l:=J4 l
 app a b:=Em a b
 len l:=Pv l
 one l:=Zs2 l
 und:=Ztk
 i:=Classical.choose (info_parts Bv)
 zero:=.agg #[.int .i64 0,.int .i64 0,.int .i64 0,.string ⟨#[]⟩]
 info:=(Yp (info_parts Bv)).1
 hz:=(Yp (info_parts Bv)).2.1
 hs:=(Yp (info_parts Bv)).2.2.1
 hb:=(Yp (info_parts Bv)).2.2.2
 hc:=rfl
 pos:=by omega
theorem Aw (l:List Kp) (k:ByteArray) (r:Rc):(Lo l k r).length≤l.length+1:=by
 have:∀ (l:List Kp) d,(Q5 k r d l).length≤l.length+1:=by
  intro l
  induction l with
  | nil=>intro d;cases d<;>simp [Q5]
  | cons p l ih =>
   intro d
   rw [Q5]
   split
   ·have:=ih d;simp;omega
   split
   ·have h1:∀ l:List Kp,(Q5 k r true l).length≤l.length:=by
     intro l
     induction l with
     | nil=>simp [Q5]
     | cons p l ih2 =>
      rw [Q5]
      split
      ·simp;omega
      simp;omega
    have:=h1 l;simp;omega
   have:=ih d;simp;omega
 exact this l _
structure Zuo (S:Nat→Prop) (T:Tbl) (mb xb:Nat) (m:Qq) (x:Shr) (w:World) (s:Int) (m':Qq) (x':Shr) (w':World):Prop where
 mach:Wo w' S T mb m'
 mok:MOk m'
 shr:V3 w' S xb x'
 chg:Chg (fun j=>j=mb∨j=xb) w w'
 xok:∀ t,XOk t x→XOk (t+1) x'
 live:m'.st≠0→m.st≠0
 par:m.st=1→s=3∨m'.st=2
def Qc (S:Nat→Prop) (T:Tbl) (mb xb:Nat) (m:Qq) (x:Shr) (w:World) (e:Ending) (w':World):Prop :=
 ∃ (s:Int) (m':Qq) (x':Shr),e=.returned (.int .i64 s)∧Zuo S T mb xb m x w s m' x' w'
structure Kx (S:Nat→Prop) (T:Tbl) (mb xb:Nat) (m:Qq) (x:Shr) (w:World):Prop where
 mach:Wo w S T mb m
 mok:MOk m
 shr:V3 w S xb x
 ne:mb≠xb
 sm:¬ S mb
 sx:¬ S xb
 new:∀ k,w.heap.size≤k→S k
 tbl:Xm w S T
theorem Wo.c {w:World} {S:Nat→Prop} {T:Tbl} {b:Nat} {m:Qq} (h:Wo w S T b m) (j:Nat) {v:Value} (hv:(machC T m)[j]?=some v):w.cell? ⟨b,j,none⟩=some v:=by
 rw [h.cells.at_ j (Zr.1 hv).1,hv]
theorem V3.c {w:World} {S:Nat→Prop} {b:Nat} {x:Shr} (h:V3 w S b x) (j:Nat) {v:Value} (hv:(Zp8 x)[j]?=some v):w.cell? ⟨b,j,none⟩=some v:=by
 rw [h.cells.at_ j (Zr.1 hv).1,hv]
theorem Wo.ext {w w':World} {S:Nat→Prop} {T:Tbl} {b:Nat} {m:Qq} (h:Wo w S T b m) (x:Ext w w'):Wo w' S T b m:=⟨h.cells.ext x,Rd.ext h.ns x,Rd.ext h.rs x⟩
theorem V3.ext {w w':World} {S:Nat→Prop} {b:Nat} {x:Shr} (h:V3 w S b x) (e:Ext w w'):V3 w' S b x:=⟨h.cells.ext e,Rd.ext h.ks e,Rd.ext h.rs e⟩
theorem Wo.put {w:World} {S:Nat→Prop} {T:Tbl} {b:Nat} {m m':Qq} (h:Wo w S T b m) (hb:¬ S b) {j:Nat} (hj:j < 28) {v:Value} (e:(machC T m).set j v=machC T m') (e1:m'.lv=m.lv) (e2:m'.ns=m.ns) (e3:m'.rv=m.rv) (e4:m'.rs=m.rs):Wo (w.setCell ⟨b,j,none⟩ v) S T b m' :=
 ⟨e ▸ h.cells.set (j:=j) hj v,by rw [e1,e2];exact RdE.far (E:=nmE) h.ns hb v,by rw [e3,e4];exact Rd.chg h.rs ((Chg.refl (· = b) w).setCell (p:=⟨b,j,none⟩) (.inl rfl) v) (fun _ hk e=>hb (e ▸ hk))⟩
theorem V3.far {w:World} {S:Nat→Prop} {b c j:Nat} {x:Shr} (h:V3 w S b x) (hne:b≠c) (hc:¬ S c) (v:Value):V3 (w.setCell ⟨c,j,none⟩ v) S b x :=
 h.chg (U:=(· = c)) ((Chg.refl (· = c) w).setCell (p:=⟨c,j,none⟩) (.inl rfl) v) hne (fun _ hk e=>hc (e ▸ hk))
theorem Wo.far {w:World} {S:Nat→Prop} {T:Tbl} {b c j:Nat} {m:Qq} (h:Wo w S T b m) (hne:b≠c) (hc:¬ S c) (v:Value):Wo (w.setCell ⟨c,j,none⟩ v) S T b m :=
 h.chg (U:=(· = c)) ((Chg.refl (· = c) w).setCell (p:=⟨c,j,none⟩) (.inl rfl) v) hne (fun _ hk e=>hc (e ▸ hk))
theorem Zv4 {S:Nat→Prop} (T:Tbl) (mb xb:Nat) (m:Qq) (x:Shr) (w:World) (h:Kx S T mb xb m x w) (hs:m.st=0):Calls Tryz.prog 115 #[.pointer (some ⟨mb,0,none⟩),.pointer (some ⟨xb,0,none⟩)] w (Qc S T mb xb m x w):=by
 have z13:w.cell? ⟨mb,13,none⟩=some (.int .i64 m.st):=h.mach.c 13 rfl
 have H:=Yw h
 have Hs:=Yw hs
 rw [hs] at z13
 clear h hs
 go_enter Tryz.func115,Tryz.ntmps115
 go_wp2_with fail
 go_ret
 exact ⟨0,m,x,rfl,H.out.mach,H.out.mok,H.out.shr,Chg.refl _ _,fun t h=>h.up,fun h=>h,fun h=>by rw [Hs.out] at h;simp at h⟩
theorem Zzj {S:Nat→Prop} (T:Tbl) (mb xb:Nat) (m:Qq) (x:Shr) (w:World) (h:Kx S T mb xb m x w) (hs:m.st=7):Calls Tryz.prog 115 #[.pointer (some ⟨mb,0,none⟩),.pointer (some ⟨xb,0,none⟩)] w (Qc S T mb xb m x w):=by
 have z13:w.cell? ⟨mb,13,none⟩=some (.int .i64 m.st):=h.mach.c 13 rfl
 have fz:=h.mach.cells.fz
 have H:=Yw h
 have Hs:=Yw hs
 rw [hs] at z13
 clear h hs
 go_enter Tryz.func115,Tryz.ntmps115
 go_wp2_with fail
 go_ret
 exact ⟨4,{m with st:=0},x,rfl,H.out.mach.put H.out.sm (by omega) rfl rfl rfl rfl rfl,⟨by simp,by simp,H.out.mok.c0,H.out.mok.c1,fun h=>by simp at h,fun h=>by simp at h,fun h=>by simp at h,fun h=>by simp at h,fun h=>by simp at h⟩,
  H.out.shr.far H.out.ne.symm H.out.sm _,(Chg.refl _ _).setCell (.inl (.inl rfl)) _,fun t h=>h.up,fun h=>by simp at h,fun h=>by rw [Hs.out] at h;simp at h⟩
theorem Ji:(Tryz.prog.info? 53).map (·.size)=some 8:=by kernel_rfl
theorem Wo.ans {w:World} {S:Nat→Prop} {T:Tbl} {b:Nat} {m:Qq} (h:Wo w S T b m) (hb:¬ S b) (R:Zy1):Wo (w.setCells b 19 (Wk R)) S T b {m with ans:=R} :=
 ⟨h.cells.mid (o:=19) (by show 19+8≤28;omega) rfl,Rd.chg h.ns (Xl (S:=(· = b)) (.inl rfl) (Chg.refl (· = b) w)) (fun _ hk e=>hb (e ▸ hk)),Rd.chg h.rs (Xl (S:=(· = b)) (.inl rfl) (Chg.refl (· = b) w)) (fun _ hk e=>hb (e ▸ hk))⟩
theorem Zsi (st op:Int) : -1≤Wf st op∧Wf st op≤1:=by
 unfold Wf
 split
 ·split<;>omega
 split
 ·split<;>omega
 omega
theorem V3.sum {w:World} {S:Nat→Prop} {b:Nat} {x:Shr} (h:V3 w S b x) (hb:¬ S b) (u:Int):V3 (w.setCell ⟨b,3,none⟩ (.int .i64 u)) S b {x with sum:=u} :=
 ⟨h.cells.set (j:=3) (by show 3 < 6;omega) _,Rd.chg h.ks ((Chg.refl (· = b) w).setCell (p:=⟨b,3,none⟩) (.inl rfl) _) (fun _ hk e=>hb (e ▸ hk)),Rd.chg h.rs ((Chg.refl (· = b) w).setCell (p:=⟨b,3,none⟩) (.inl rfl) _) (fun _ hk e=>hb (e ▸ hk))⟩
theorem Ix {α β:Type}:∀ (a:List α) (b:List β),a.length=b.length→(a.zip b).map Prod.fst=a∧(a.zip b).map Prod.snd=b
 | [],[],_=>⟨rfl,rfl⟩
 | x::a,y::b,h=>by
  obtain ⟨h1,h2⟩:=Ix a b (by simpa using h)
  exact ⟨by simp [h1],by simp [h2]⟩
 | [],_::_,h=>by simp at h
 | _::_,[],h=>by simp at h
theorem Mt {S:Nat→Prop} {T:Tbl} {mb xb:Nat} {m:Qq} {x:Shr} {w w':World} {R:Zy1} (h:Kx S T mb xb m x w) (hs:m.st=4) (hm:Wo w' S T mb {m with ans:=R,st:=6}) (hx:V3 w' S xb x) (c:Chg (fun j=>j=mb∨j=xb) w w'):Zuo S T mb xb m x w 3 {m with ans:=R,st:=6} x w' :=
 ⟨hm,⟨by simp,by simp,h.mok.c0,h.mok.c1,fun _ _=>h.mok.n0 (by omega) (by omega),fun h=>by simp at h,fun h=>by simp at h,fun _ h=>by simp at h,fun _ h=>by simp at h⟩,hx,c,fun _ h=>h.up,fun _=>by omega,fun h=>by omega⟩
theorem Tu {S:Nat→Prop} (T:Tbl) (mb xb:Nat) (m:Qq) (x:Shr) (w:World) (t:Nat) (hx:XOk t x) (ht:t≤500000) (h:Kx S T mb xb m x w) (hs:m.st=4):Calls Tryz.prog 115 #[.pointer (some ⟨mb,0,none⟩),.pointer (some ⟨xb,0,none⟩)] w (Qc S T mb xb m x w):=by
 have z13:w.cell? ⟨mb,13,none⟩=some (.int .i64 m.st):=h.mach.c 13 rfl
 have m12:=lat (h.mach.c 12 rfl:w.cell? ⟨mb,12,none⟩=some (.int .i64 m.cl))
 have m15:=lat (h.mach.c 15 rfl:w.cell? ⟨mb,15,none⟩=some (.int .i64 m.op))
 have m16:=lat (h.mach.c 16 rfl:w.cell? ⟨mb,16,none⟩=some (.int .i64 m.ttl))
 have m17:=lat (h.mach.c 17 rfl:w.cell? ⟨mb,17,none⟩=some m.lv)
 have m18:=lat (h.mach.c 18 rfl:w.cell? ⟨mb,18,none⟩=some m.rv)
 have x0:=lat (h.shr.c 0 rfl:w.cell? ⟨xb,0,none⟩=some (.int .i64 x.cl))
 have x1:=lat (h.shr.c 1 rfl:w.cell? ⟨xb,1,none⟩=some (.int .i64 x.cp))
 have x2:=lat (h.shr.c 2 rfl:w.cell? ⟨xb,2,none⟩=some (.int .i64 x.clock))
 have x3:=lat (h.shr.c 3 rfl:w.cell? ⟨xb,3,none⟩=some (.int .i64 x.sum))
 rw [hs] at z13
 obtain ⟨hn1,hn16,_,_⟩:=h.mok.n0 (by omega) (by omega)
 have hlen:=h.mok.r4 (by omega) (by omega)
 obtain ⟨ps,hps⟩:∃ ps,m.ns.zip m.rs=ps:=⟨_,rfl⟩
 obtain ⟨hf,hd⟩:=Ix m.ns m.rs hlen.symm
 rw [hps] at hf hd
 have Hl0:=Yw (show 1≤ps.length by rw [← Zq (f:=Prod.fst),hf];exact hn1)
 have Hl1:=Yw (show ps.length≤16 by rw [← Zq (f:=Prod.fst),hf];exact hn16)
 have Hn0:=Yw hx.c0
 have Hn1:=Yw hx.c1
 have Hc0:=Yw (show -10000000≤x.sum by have:=hx.m0;omega)
 have Hc1:=Yw (show x.sum≤10000000 by have:=hx.m1;omega)
 have Hns:=Yw (show Wq w S m.lv (ps.map Prod.fst) by rw [hf];exact h.mach.ns)
 have Hrs:=Yw (show Lj w S m.rv (ps.map Prod.snd) by rw [hd];exact h.mach.rs)
 obtain ⟨nl,hnl⟩:∃ n,m.ns.length=n:=⟨_,rfl⟩
 have hrl:m.rs.length=nl:=by omega
 obtain ⟨Al,Cl,hlv⟩:=h.mach.ns.shape
 obtain ⟨_,Ar,Cr,hrv,hrl2,hrl3,_⟩:=id h.mach.rs
 rw [hnl] at hlv hn16
 rw [hrl] at hrv
 rw [hlv] at m17 Hns
 rw [hrv] at m18 Hrs
 have Hrl:=Yw hrl
 have H:=Yw h
 have Hs:=Yw hs
 have Hlv:=Yw hlv
 have Hrv:=Yw hrv
 have Hlen:=Yw hlen
 clear h hs hps hf hd hnl hrl hlen hlv hrv hx hn1 hrl2 hrl3
 go_enter Tryz.func115,Tryz.ntmps115
 go_upto_region 10 with fail
 clear z13
 refine Xd 34 37 (by kernel_rfl) (by omega) (by kernel_rfl) (by kernel_rfl) (by kernel_rfl) ?_
 simp only [Z4,Z5,Z6,Z7]
 repeat ((with_reducible refine Yv ?_);intro K hK;go_simp;first|((with_reducible refine hK _ ?_);clear hK K)|(apply Exists.intro;refine ⟨fun _=>?_,hK _ ?_⟩;(go_at_call 72;exact Y8 (Zz9 _ _ _ _ _ _ _ _ _ ps _ Hl0.out Hl1.out Hn0.out Hn1.out Hc0.out Hc1.out (Rd.ext Hns.out (⟨_,_,rfl⟩)) (Rd.ext Hrs.out (⟨_,_,rfl⟩))));clear hK K))
 (with_reducible refine Yu ?_)
 intro w9 hy9
 obtain ⟨R,hR⟩:∃ R,Ky x.cp m.op m.cl m.ttl x.clock x.sum ps=R:=⟨_,rfl⟩
 rw [hR]
 have hth:=(H.out.mach.cells.ext hy9).there (o:=19) (n:=8) (by show 19+8≤28;omega)
 have hone:(Wk R).toArray.all (·.oneCell')=true:=by simp [Wk,Value.oneCell']
 go_upto_region 11 with (refine wpList_store_mid rfl _ _ _ rfl mb 19 (Wk R).toArray rfl rfl hth (by rw [Ji];rfl) hone ?_)
 have HM:=Yw ((H.out.mach.ext hy9).ans H.out.sm R)
 have HX:=Yw ((H.out.shr.ext hy9).chg (Xl (S:=(· = mb)) (b:=mb) (.inl rfl) (vs:=Wk R) (o:=19) (Chg.refl _ w9)) H.out.ne.symm (fun _ hk e=>H.out.sm (e ▸ hk)))
 have CC:=Yw (Xl (S:=(fun j=>j=mb∨j=xb)) (b:=mb) (.inl (.inl rfl)) (vs:=Wk R) (o:=19) (hy9.chg _))
 obtain ⟨W,hW⟩:∃ W,w9.setCells mb 19 (Wk R)=W:=⟨_,rfl⟩
 rw [hW] at HM HX CC
 rw [show w9.setCells mb 19 (Wk R).toArray.toList=W from hW]
 clear hW hth hone hy9 m12 m15 m16 m17 m18 x0 x1 x2 x3 hR
 have c13:W.cell? ⟨mb,13,none⟩=some (.int .i64 m.st):=HM.out.c 13 rfl
 have c19:W.cell? ⟨mb,19,none⟩=some (.int .i64 R.e):=HM.out.c 19 rfl
 have c15:W.cell? ⟨mb,15,none⟩=some (.int .i64 m.op):=HM.out.c 15 rfl
 have c18:W.cell? ⟨mb,18,none⟩=some (.slice Ar nl Cr):=by rw [← Hrv.out];exact HM.out.c 18 rfl
 have fz:=HM.out.cells.fz
 have H6:=Yw (HM.out.put (m':={m with ans:=R,st:=6}) H.out.sm (j:=13) (by omega) (v:=.int .i64 6) rfl rfl rfl rfl rfl)
 have X6:=Yw (HX.out.far (j:=13) H.out.ne.symm H.out.sm (.int .i64 6))
 have C6:=Yw (CC.out.setCell (p:=⟨mb,13,none⟩) (.inl (.inl rfl)) (.int .i64 6))
 cases e1:(R.e == 0)
 ·go_wp2_with fail
  go_ret
  exact ⟨3,{m with ans:=R,st:=6},x,rfl,Mt H.out Hs.out H6.out X6.out C6.out⟩
 cases e2:(m.op == 7)
 rotate_left
 ·go_wp2_with fail
  go_ret
  exact ⟨3,{m with ans:=R,st:=6},x,rfl,Mt H.out Hs.out H6.out X6.out C6.out⟩
 have H5:=Yw (H6.out.put (m':={m with ans:=R,st:=5}) H.out.sm (j:=13) (by omega) (v:=.int .i64 5) rfl rfl rfl rfl rfl)
 have X5:=Yw (X6.out.far (j:=13) H.out.ne.symm H.out.sm (.int .i64 5))
 have C5:=Yw (C6.out.setCell (p:=⟨mb,13,none⟩) (.inl (.inl rfl)) (.int .i64 5))
 clear H6 X6 C6
 go_wp2_with fail
 obtain ⟨W5,hW5⟩:∃ W',(W.setCell ⟨mb,13,none⟩ (.int .i64 6)).setCell ⟨mb,13,none⟩ (.int .i64 5)=W':=⟨_,rfl⟩
 rw [hW5] at H5 X5 C5
 try rw [hW5]
 clear hW5 c13 c19 c15 c18 fz e1 e2 HM HX CC
 go_loopw [86] (fun o wr=>∃ (j:Nat) (u:Int),j≤nl∧o=.int .i64 (j:Int)∧Wo wr S T mb {m with ans:=R,st:=5}∧V3 wr S xb {x with sum:=u}∧-(j:Int)≤u - x.sum∧u - x.sum≤j∧Chg (fun k=>k=mb∨k=xb) w wr) (fun o _=>nl - (intOf o).toNat)
 case atStart=>exact ⟨0,x.sum,by omega,rfl,H5.out,X5.out,by omega,by omega,C5.out⟩
 rename World=>wr
 obtain ⟨j,u,hj,rfl,hM,hX,hu1,hu2,hC⟩:=hrel
 by_cases hjn:j < nl
 ·have hd_j:decide ((j:Int) < (nl:Int))=true:=Yf (by omega)
  have i0_j:(0:Int)≤(j:Int):=by omega
  have i1_j:(j:Int) < (nl:Int):=by omega
  obtain ⟨r,hr⟩:∃ r,m.rs[j]?=some r:=⟨m.rs[j]'(by rw [Hrl.out];exact hjn),Zz _⟩
  obtain ⟨g,o,c,hv,_,_,hg,r0,r1,r2,r3⟩:=Up hM.rs hr
  replace hv:m.rv=.slice (some ⟨g,o,none⟩) m.rs.length c:=hv
  rw [Hrv.out,Hrl.out] at hv
  simp only [Ye,true_and] at hv
  obtain ⟨rfl,rfl⟩:=hv
  obtain ⟨rst,row,rnm,rdl⟩:=r
  simp only at r0 r1 r2 r3
  go_upto_region 17 with fail
  have hxa:=(Yl wr).alloc (.cells #[.int .i64 rst,.int .i64 row,.string rnm,.int .i64 rdl] 51)
  have ha:=Xs.new wr #[.int .i64 rst,.int .i64 row,.string rnm,.int .i64 rdl] 51
  obtain ⟨W1,hW1⟩:∃ W,wr.alloc (.cells #[.int .i64 rst,.int .i64 row,.string rnm,.int .i64 rdl] 51)=W:=⟨_,rfl⟩
  obtain ⟨ab,hab⟩:∃ b,wr.heap.size=b:=⟨_,rfl⟩
  rw [hW1] at hxa ha
  rw [hab] at ha
  rw [hW1,hab]
  have k0:=lat (ha.at_ 0 (by simp))
  have k1:=lat (ha.at_ 1 (by simp))
  have k2:=lat (ha.at_ 2 (by simp))
  have k3:=lat (ha.at_ 3 (by simp))
  have M1:=Yw (hM.ext hxa)
  have X1:=Yw (hX.ext hxa)
  have C1:=Yw (hC.trans (hxa.chg _))
  have x3:=lat (X1.out.c 3 rfl:W1.cell? ⟨xb,3,none⟩=some (.int .i64 u))
  have m15:=lat (M1.out.c 15 rfl:W1.cell? ⟨mb,15,none⟩=some (.int .i64 m.op))
  obtain ⟨b1,b2⟩:=Zsi rst m.op
  have h0:=Hc0.out
  have h1:=Hc1.out
  obtain ⟨U,hU⟩:∃ U,u+Wf rst m.op=U:=⟨_,rfl⟩
  have rU:IntKind.i64.wrap (u+Wf rst m.op)=U:=by rw [Yq _ (by omega)];exact hU
  have HU1:=Yw (show -((j+1:Nat):Int)≤U - x.sum by omega)
  have HU2:=Yw (show U - x.sum≤((j+1:Nat):Int) by omega)
  clear hM hX hC hxa ha hW1 hab r0 r1 r2 r3 hr hg hU b1 b2 h0 h1 hu1 hu2
  refine Xd 11 14 (by kernel_rfl) (by omega) (by kernel_rfl) (by kernel_rfl) (by kernel_rfl) ?_
  simp only [Z4,Z5,Z6,Z7]
  repeat ((with_reducible refine Yv ?_);intro K hK;go_simp;first|((with_reducible refine hK _ ?_);clear hK K)|(apply Exists.intro;refine ⟨fun _=>?_,hK _ ?_⟩;(go_at_call 103;exact Y8 (Mk _ _ _ _ _ _));clear hK K))
  (with_reducible refine Yu ?_)
  intro w2 hy2
  have X2:=Yw (X1.out.ext hy2)
  have c3:w2.cell? ⟨xb,3,none⟩=some (.int .i64 u):=X2.out.c 3 rfl
  have fz:=X2.out.cells.fz
  have M3:=Yw ((M1.out.ext hy2).far H.out.ne H.out.sx (j:=3) (.int .i64 U))
  have X3:=Yw (X2.out.sum H.out.sx U)
  have C3:=Yw ((C1.out.trans (hy2.chg _)).setCell (p:=⟨xb,3,none⟩) (.inl (.inr rfl)) (.int .i64 U))
  clear hy2 k0 k1 k2 k3 x3 m15 rU X1 M1 C1 X2
  go_wp2_with fail
  go_roundw
  case rel=>exact ⟨j+1,by omega,by go_num,M3.out,U,X3.out,HU1.out,HU2.out,C3.out⟩
  case measure=>(simp [intOf];omega)
 have hd_j:decide ((j:Int) < (nl:Int))=false:=Yg (by omega)
 obtain rfl:j=nl:=by omega
 have HM:=Yw hM
 have HX:=Yw hX
 have HC:=Yw hC
 clear hM hX hC
 go_wp2_with fail
 go_ret
 exact ⟨3,{m with ans:=R,st:=5},{x with sum:=u},rfl,HM.out,⟨by simp,by simp,H.out.mok.c0,H.out.mok.c1,fun _ _=>H.out.mok.n0 (by rw [Hs.out];omega) (by rw [Hs.out];omega),fun h=>by simp at h,fun h=>by simp at h,fun _ _=>Hlen.out,fun _ h=>by simp at h⟩,
  HX.out,HC.out,fun t h=>⟨h.c0,h.c1,by have:=h.m0;simp only;omega,by have:=h.m1;simp only;omega,by have:=h.k;simp only;omega,by have:=h.r;simp only;omega⟩,fun _=>by rw [Hs.out];omega,fun h=>by rw [Hs.out] at h;omega⟩
section
open Go.RowKit Go.Sort Go.Shelf
theorem Si.range {w:World} {b p:Nat} {o:Opn} (h:Si w b p o):w.rangeAt b p (opC o):=fun j v hv=>by
 rw [h.2 j (by have:=(Zr.1 hv).1;rwa [Qh] at this),hv]
theorem Zog:(Tryz.prog.underlying 55).map TypeDesc.isRow=some true:=by kernel_rfl
theorem Zui:(Tryz.prog.info? 55).map (·.size)=some 23:=by kernel_rfl
theorem Zv0 (o:Opn):opV o=.agg (opC o).toArray:=rfl
def opO (o:Opn):Obj:=.cells (opC o).toArray 55
theorem Ii (w:World) (o:Opn):Si (w.alloc (opO o)) w.heap.size 0 o:=by
 refine ⟨by simp,fun k hk=>?_⟩
 unfold opO
 rw [Nat.zero_add,cell_of_row _ _ k (opC o).toArray 55 (0,0) (heap_alloc_new w _)]
 simp
section
variable {ops:Array Oper} {rest:List Oper} {dst:Option Nat} {x y:Operand} {t:TypeId} {pos:String} {af:Array Edge} {a:Act} {w:World} {Q:Exit→Act→World→Prop} {b p:Nat} {o:Opn}
theorem Vg (h:Si w b p o) (hx:a.eval x=.pointer (some ⟨b,p,none⟩)) (hK:wpList Tryz.prog ops Q rest (a.put dst (opV o)) w) :
 wpList Tryz.prog ops Q ({dst:=dst,op:=.load 55 x,type:=t,pos:=pos,after:=af,guard:=none}::rest) a w:=by
 have hu:=Zog
 rw [Option.map_eq_some_iff] at hu
 obtain ⟨d,hu,hd⟩:=hu
 exact wpList_load_mid rfl _ x rfl b p hx (opC o) d h.range hu hd (by rw [Zui];rfl) hK
theorem Vn {c:Array Value} (hc:c.size=23) (hx:a.eval x=.pointer (some ⟨w.heap.size,0,none⟩)) (hy:a.eval y=opV o) (hnv:o.nv.oneCell'=true) (hK:wpList Tryz.prog ops Q rest (a.put dst undef) (w.alloc (opO o))) :
 wpList Tryz.prog ops Q ({dst:=dst,op:=.store 55 x y,type:=t,pos:=pos,after:=af,guard:=none}::rest) a (w.alloc (.cells c 55)):=by
 refine wpList_plain rfl fun _ hK'=>?_
 unfold Oper.wp execOp
 rw [Zv0] at hy
 have hall:(opC o).toArray.all (·.oneCell')=true:=by
  have e:∀ v∈opC o,v.oneCell'=true:=by
   intro v hv
   simp only [opC,Zg,Zh,or_false] at hv
   rcases hv with rfl|rfl|rfl|rfl|rfl|rfl|rfl|rfl|rfl|rfl|rfl|rfl|rfl|rfl|rfl|rfl|rfl|rfl|rfl|rfl|rfl|rfl|rfl<;>first|exact hnv|rfl
  simpa using e
 have hrun:=run_storeAt_new (P:=Tryz.prog) w 55 c (opC o).toArray (by rw [Zui];rfl) hc hall
 simp only [hx,hy,Sem.run_bind,hrun,Result.andThen_ok,Sem.run_pure]
 exact hK' _ _ hK
end
def Zy5 (i:Nat):Value:=.int .i64 (i:Int)
def O7 (w:World) (S:Nat→Prop) (v:Value) (l:List Nat):Prop:=Rd w S 1 v l.length (l.map Zy5)
theorem Ls (A:Option Addr) (C:Nat) (fv:Value) (w:World):Calls Tryz.prog 135 #[.slice A 0 C,.int .i64 0,.int .i64 0,fv] w fun e w'=>e=.returned (.tuple #[])∧w=w':=by
 go_enter Tryz.func135,Tryz.ntmps135
 go_wp2_with fail
 go_loopw [8] (fun v wr=>v=.int .i64 1∧w=wr) (fun _ _=>0)
 case atStart=>exact ⟨rfl,rfl⟩
 obtain ⟨rfl,rfl⟩:=hrel
 go_wp2_with fail
 go_end0
 exact ⟨rfl,rfl⟩
theorem Tm (A:Option Addr) (C:Nat) (fv:Value) (w:World):Calls Tryz.prog 99 #[.slice A 0 C,.int .i64 0,fv] w fun e w'=>e=.returned (.tuple #[])∧w=w':=by
 go_enter Tryz.func99,Tryz.ntmps99
 go_wp2_with fail
 go_loopw [7,8] (fun u v wr=>u=.int .i64 0∧v=.int .i64 20∧w=wr) (fun _ _ _=>0)
 case atStart=>exact ⟨rfl,rfl,rfl⟩
 obtain ⟨rfl,rfl,rfl⟩:=hrel
 go_wp2_with (go_at_call 135;refine (Ls _ _ _ _).mono ?_;rintro e w' ⟨rfl,rfl⟩)
 go_loopw [6] (fun v wr=>v=.int .i64 20∧w=wr) (fun _ _=>0)
 case atStart=>exact ⟨rfl,rfl⟩
 obtain ⟨rfl,rfl⟩:=hrel
 go_wp2_with fail
 go_end0
 exact ⟨rfl,rfl⟩
theorem Zvh (A:Option Addr) (C:Nat) (fv:Value) (w:World):Calls Tryz.prog 66 #[.slice A 0 C,fv] w fun e w'=>e=.returned (.tuple #[])∧w=w':=by
 go_enter Tryz.func66,Tryz.ntmps66
 go_wp2_with (go_at_call 99;refine (Tm _ _ _ _).mono ?_;rintro e w' ⟨rfl,rfl⟩)
 go_end0
 exact ⟨rfl,rfl⟩
def Zvu {n:Nat} (i:Fin n):Value:=Zy5 i.val
theorem Ztc {n:Nat}:OneCell (Zvu (n:=n)):=fun _=>rfl
theorem Zr6 {α:Type} [Inhabited α] {enc:α→Value} {w0 W:World} {blk off:Nat} {d:Array α} (h:SW enc w0 blk off d W):Chg (· = blk) w0 W:=by
 obtain ⟨m,os,rfl⟩:=h
 unfold sortWorld
 refine ⟨rfl,rfl,rfl,?_,fun k hk hne=>?_⟩
 ·show w0.heap.size≤((putRow enc (Sort.ahead w0 m) blk off d).heap++os).size
  rw [Array.size_append,Sort.size_putRow]
  exact Nat.le_add_right _ _
 show ((putRow enc (Sort.ahead w0 m) blk off d).heap++os)[k]?=_
 rw [Array.getElem?_append_left (by rw [Sort.size_putRow];exact hk)]
 simp only [putRow,mapBlock,Sort.heap_ahead]
 rw [Array.getElem?_modify,if_neg (fun e=>hne e.symm)]
theorem Zv7 {os:List Opn} {N:Nat} [Inhabited (Fin N)] {sz:Nat} {d0 d:Array (Fin N)} (h0:d0.toList.map (·.val)=El os os.length) (hsz:d0.size=sz) (h:Merged (fun i:Fin N=>Jj os i.val) (fun i:Fin N=>i.val) 0 sz d0 d):d.toList.map (·.val)=Ds os:=by
 obtain ⟨hp,hs⟩:=h
 have hds:d.size=sz:=by rw [hp.1,hsz]
 have hperm:d.toList.Perm d0.toList:=by
  have:=hp.2.2
  rw [← hsz] at this
  have e1:d0.extract 0 d0.size=d0:=by simp
  have e2:d.extract 0 d0.size=d:=by rw [hsz,← hds];simp
  rw [e1,e2] at this
  exact this
 have hnd:(d.toList.map (·.val)).Nodup:=(hperm.map _).nodup_iff.2 (by rw [h0];exact (Mi os os.length).imp fun h=>Nat.ne_of_lt h)
 refine Cf.unique ⟨?_,fun i=>?_⟩ (Fm os)
 ·rw [List.pairwise_iff_getElem]
  intro i j hi hj hij
  simp only [Zq,Array.length_toList] at hi hj
  have h1:=hs i j (Nat.zero_le _) hij (by omega)
  have hne:(d.toList.map (·.val))[i]'(by simpa using hi)≠(d.toList.map (·.val))[j]'(by simpa using hj):=by
   intro e
   have:=(List.getElem_inj hnd).1 e
   omega
  simp only [List.getElem_map,Array.getElem_toList] at hne ⊢
  rw [getElem!_pos d i hi,getElem!_pos d j hj] at h1
  simp only [lxK,lxO,decide_eq_false_iff_not,decide_eq_true_eq] at h1 ⊢
  omega
 rw [(hperm.map _).mem_iff,h0,Dy]
 exact ⟨fun h=>h.2,fun h=>⟨Bh h,h⟩⟩
def Cq (os:List Opn) (w:World) (e:Ending) (w':World):Prop:=∃ v,e=.returned v∧O7 w' (fun k=>w.heap.size≤k) v (Ds os)∧Ext w w'
theorem OpsAt.mono {w:World} {S T:Nat→Prop} {v:Value} {l:List Opn} (h:OpsAt w S v l) (hST:∀ k,S k→k < w.heap.size→T k):OpsAt w T v l:=⟨Rd.mono h.1 hST,fun p hp=>Rd.mono (h.2 p hp) hST⟩
theorem Zxs {S:Nat→Prop} (v:Value) (os:List Opn) (w:World) (ho:OpsAt w S v os) (hn:os.length≤1000000000000) :
 Calls Tryz.prog 28 #[v] w (Cq os w):=by
 obtain ⟨i0,hi0,hz0,hz1,hz2⟩:=info_parts Zwy
 obtain ⟨A,C,rfl⟩:=ho.shape
 obtain ⟨n,hnn⟩:∃ n,os.length=n:=⟨_,rfl⟩
 have Hnn:=Yw hnn
 have Ho:=Yw (ho.mono (T:=fun k=>k < w.heap.size) fun k _ hk=>hk)
 rw [hnn] at hn ⊢
 clear hnn ho
 go_enter Tryz.func28,Tryz.ntmps28
 go_wp2_with fail
 go_loopw [3,8] (fun l o wr=>∃ i:Nat,i≤n∧o=.int .i64 (i:Int)∧wr.ownsRow (w.heap.size+1) 3 1 l (El os i).length ((El os i).map Zy5)∧Ext w wr∧wr.cell? ⟨w.heap.size,0,none⟩=some (.slice A n C)∧w.heap.size < wr.heap.size) (fun _ o _=>n - (intOf o).toNat)
 case atStart=>exact ⟨0,by omega,rfl,World.ownsRow_nil _ _ _ _,(Yl w).alloc _,by go_simp,by simp⟩
 obtain ⟨i,hi,rfl,hrow,hx,hB,hBl⟩:=hrel
 by_cases hin:i < n
 ·have hd:decide ((i:Int) < (n:Int))=true:=by simp;omega
  obtain ⟨o,hoi⟩:∃ o,os[i]?=some o:=⟨os[i]'(by rw [Hnn.out];exact hin),by rw [Zz]⟩
  obtain ⟨g,p,c,hv,hc1,hc2,_,hA,hN⟩:=(Ho.out.ext hx).get hoi
  simp only [Ye] at hv
  obtain ⟨rfl,_,rfl⟩:=hv
  rw [Hnn.out] at hc1
  have hC:C≤9223372036854775807:=by unfold maxLen at hc2;omega
  have HA:=Yw hA
  have hN2:=hN.shape
  obtain ⟨nA,nC,hnv⟩:=hN2
  have hone:o.nv.oneCell'=true:=by rw [hnv];rfl
  have hNew:=Ii wr o
  have hNd:=hNew.dec
  have hx1:Ext w (wr.alloc (opO o)):=hx.alloc _
  have hrow1:=hrow.alloc (opO o)
  have hB1:(wr.alloc (opO o)).cell? ⟨w.heap.size,0,none⟩=some (.slice (some ⟨g,p,none⟩) n C):=(((Yl wr).alloc (opO o)).cell (p:=⟨w.heap.size,0,none⟩) hBl).trans hB
  have hBl1:w.heap.size < (wr.alloc (opO o)).heap.size:=by simp;omega
  obtain ⟨la,lc,rfl⟩:=Vw hrow
  have hlen:=Nr os i
  clear hN hnv hA
  by_cases hdec:o.dec = -1
  ·have hdq:(o.dec != -1)=false:=by simp [hdec]
   have Hnx:=Yw (show El os (i+1)=El os i by rw [Oa,if_neg (by simp [Pt,Jy hoi,hdec])])
   have Hoi:=Yw hoi
   clear hoi hdec
   go_wp2_with (first|(refine Vg HA.out rfl ?_)|(refine Vn rfl rfl rfl hone ?_))
   go_roundw
   case rel=>exact ⟨i+1,by omega,by go_num,by rw [Hnx.out];exact hrow1,hx1,hB1,hBl1⟩
   case measure=>simp [intOf];omega
  have hdq:(o.dec != -1)=true:=by simp [hdec]
  have Hnx:=Yw (show El os (i+1)=El os i++[i] by rw [Oa,if_pos (by simp [Pt,Jy hoi,hdec])])
  have Hoi:=Yw hoi
  clear hoi hdec
  go_wp2_with (first|(refine Vg HA.out rfl ?_)|(refine Vn rfl rfl rfl hone ?_)|(at_builtin;refine wpList_append_own _ rfl _ _ 22 rfl (w.heap.size+1) 3 i0 _ 1 8 Zvs hi0 hz0 hz1 hz2 rfl (by decide) _ _ _ rfl (hrow1.alloc _) ⟨wr.heap.size+1,0,none⟩ 1 1 [Zy5 i] rfl rfl ?c1 ?c2 ?c3 ?c4 ?c5 ?_;rotate_left 5;intro v' w3 hown' hg3 hnil3;go_frame))
  go_roundw
  case rel =>
   refine ⟨i+1,by omega,by go_num,?_,(hx1.alloc _).grown hg3 (fun k hk=>by have:=(hrow1.lt k hk).1;omega),?_,?_⟩
   ·rw [Hnx.out]
    simpa [Zy5] using hown'
   ·have hne:∀ k,(Value.slice la (El os i).length lc).ownBlock=some k→w.heap.size≠k:=fun k hk=>by have:=(hrow1.lt k hk).1;omega
    rw [World.cell?_of_block (a:=⟨w.heap.size,0,none⟩) (hg3.block w.heap.size (by simp;omega) (fun e=>hne _ e.symm rfl))]
    exact (((Yl (wr.alloc (opO o))).alloc _).cell (p:=⟨w.heap.size,0,none⟩) hBl1).trans hB1
   have:=hg3.size
   simp at this;omega
  case measure=>simp [intOf];omega
  case c1 =>
   intro j u hj
   have:=cell_one_new (wr.alloc (opO o)) (Zy5 i) 3 j u hj
   rw [show (wr.alloc (opO o)).heap.size=wr.heap.size+1 by simp] at this
   exact this
  case c2=>simp [Value.oneCell',Zy5]
  case c3=>unfold maxLen;omega
  case c4=>omega
  case c5=>simp;omega
 have hd:decide ((i:Int) < (n:Int))=false:=by simp;omega
 obtain rfl:i=n:=by omega
 obtain ⟨la,lc,rfl⟩:=Vw hrow
 have hlen:=Nr os i
 by_cases h0:(El os i).length=0
 ·have h1:Ds os=[]:=by
   have:=Fm os
   have hm:∀ j,j ∉ Ds os:=fun j hj=>by
    have h2:=(this.mem j).1 hj
    have h3:j∈El os i:=Dy.2 ⟨by rw [← Hnn.out];exact Bh h2,h2⟩
    rw [List.eq_nil_of_length_eq_zero h0] at h3
    simp at h3
   exact List.eq_nil_iff_forall_not_mem.2 hm
  have H1:=Yw h1
  have Hrow:=Yw (Rd.of_own (S:=fun k=>w.heap.size≤k) hrow fun k hk=>by have:=(hrow.lt k hk).1;omega)
  have H0:=Yw h0
  rw [h0]
  clear h0 h1 hrow
  go_wp2_with (go_at_call 66;refine (Zvh _ _ _ _).mono ?_;rintro e w' ⟨rfl,rfl⟩)
  go_ret
  refine ⟨_,rfl,?_,hx⟩
  have hr:=Hrow.out
  rw [H0.out,List.eq_nil_of_length_eq_zero H0.out] at hr
  unfold O7
  rw [H1.out]
  exact hr
 -- the row
 obtain ⟨m,hm⟩:∃ m,(El os i).length=m:=⟨_,rfl⟩
 have hiN:0 < i:=by omega
 haveI:Inhabited (Fin i):=⟨⟨0,hiN⟩⟩
 have hlt:∀ j∈El os i,j < i:=fun j hj=>(Dy.1 hj).1
 obtain ⟨d0,hd0⟩:∃ d0:Array (Fin i),d0.toList.map (·.val)=El os i:=by
  refine ⟨((El os i).attach.map fun x=>(⟨x.1,hlt x.1 x.2⟩:Fin i)).toArray,?_⟩
  rw [List.toList_toArray,List.map_map]
  exact List.attach_map_subtype_val _
 have hsz:d0.size=m:=by rw [← hm,← hd0];simp
 rcases hrow.2 with ⟨hv,hz⟩ | ⟨g,cap,cur,hv,hbase,hb,hnc,hcm,hcs,htk⟩
 ·exact absurd hz h0
 simp only [Ye] at hv
 obtain ⟨rfl,_,rfl⟩:=hv
 have hcell:∀ j,j < d0.size→wr.cell? ⟨g,0+j,none⟩=some (Zvu d0[j]!)∧wr.frozen? ⟨g,0+j,none⟩=false:=by
  intro j hj
  have e1:cur[j]?=some (Zvu d0[j]!):=by
   have h1:(cur.toList.take ((El os i).length * 1))[j]?=some (Zvu d0[j]!):=by
    rw [htk,Zn,← hd0,Zn,Array.getElem?_toList,getElem!_pos d0 j hj,Array.getElem?_eq_getElem hj]
    rfl
   rw [Yy,if_pos (by omega)] at h1
   simpa using h1
  rw [Nat.zero_add]
  exact ⟨(cell_of_row wr g j cur _ _ hb).trans e1,by simp [World.frozen?,hb]⟩
 have R:Row1 Zvu wr g 0 d0:=⟨Ztc,hcell,(Array.getElem?_eq_some_iff.1 hb).1⟩
 have hBne:w.heap.size≠g:=by omega
 have ho2:=Ho.out.ext hx
 have hcmp:CmpLays1 Tryz.prog 67 #[.pointer (some ⟨w.heap.size,0,none⟩)] Zvu (cfK fun j:Fin i=>Jj os j.val) g 0 m wr:=by
  intro q obs dk hdk x y
  have hc:=Zr6 (enc:=Zvu) (w0:=wr) (blk:=g) (off:=0) (d:=dk) (W:=sortWorld Zvu wr g 0 q dk obs) ⟨q,obs,rfl⟩
  obtain ⟨a,ha⟩:∃ a,os[x.val]?=some a:=⟨os[x.val]'(by rw [Hnn.out];exact x.isLt),Zz _⟩
  obtain ⟨b,hb⟩:∃ a,os[y.val]?=some a:=⟨os[y.val]'(by rw [Hnn.out];exact y.isLt),Zz _⟩
  have ho3:=ho2.chg hc (fun k hk e=>by omega)
  have hB3:=(hc.cell (p:=⟨w.heap.size,0,none⟩) hBl hBne).trans hB
  have hB4:∀ N,os.length=N→(sortWorld Zvu wr g 0 q dk obs).cell? ⟨w.heap.size,0,none⟩=some (.slice A N C)→(sortWorld Zvu wr g 0 q dk obs).cell? ⟨w.heap.size,0,none⟩=some (.slice A os.length C):=fun N e h=>by rw [e];exact h
  have:=Tr w.heap.size x.val y.val A C os a b _ (hB4 _ Hnn.out hB3) ho3 ha hb
  refine Calls.mono this ?_
  rintro e w' ⟨rfl,q',os',hw'⟩
  refine ⟨?_,q',os',hw'⟩
  rw [← Jy ha,← Jy hb]
  rfl
 have hso:=F0 Zvu (fun j:Fin i=>Jj os j.val) (fun j:Fin i=>j.val) m g 0 lc #[.pointer (some ⟨w.heap.size,0,none⟩)] d0 wr hcmp R hsz (by omega) (fun p q hpq hq=>by
  have hl:=Mi os i
  rw [← hd0,List.pairwise_map] at hl
  have:=List.pairwise_iff_getElem.1 hl p q (by simp;omega) (by simp;omega) hpq
  rw [getElem!_pos d0 p (by omega),getElem!_pos d0 q (by omega)]
  simpa using this)
 have HS:=Yw hso
 have Hd0:=Yw hd0
 have Hm:=Yw hm
 have HC:=Yw hcell
 have HR:=Yw R
 rw [hm]
 clear hso hd0 hm hcell R hcmp hrow hb htk hlt
 go_wp2_with fail
 refine Calls.mono HS.out ?_
 rintro e w5 ⟨rfl,d,hSW,hds,hM⟩
 have hres:=Zv7 (os:=os) (by rw [Hd0.out,Hnn.out]) hsz hM
 have hch:=Zr6 hSW
 have hx5:Ext w w5:=hx.chg_new hch (fun k hk=>by omega)
 have hh:=hSW.holds HR.out.hblk HC.out (by omega)
 have Hres:=Yw hres
 have Hx5:=Yw hx5
 have Hh:=Yw hh
 have hsz5:=hch.size
 clear hres hx5 hh hch hSW hM
 go_wp2_with fail
 go_ret
 refine ⟨_,rfl,?_,Hx5.out⟩
 unfold O7
 have hL:(Ds os).length=m:=by rw [← Hres.out];simp [hds]
 rw [hL]
 refine ⟨by simp [hL],_,_,rfl,by rw [← Hm.out];exact hnc,hcm,fun _=>⟨g,0,rfl,by omega,Nat.lt_of_lt_of_le HR.out.hblk hsz5,fun j u hu=>?_⟩⟩
 have hj:j < d.size:=by
  have:=(Zr.1 hu).1
  simp at this;omega
 have:=(Hh.out j hj).1
 rw [this,← hu,← Hres.out,List.map_map,Zn,Array.getElem?_toList,Array.getElem?_eq_getElem hj,getElem!_pos d j hj]
 rfl
end
section
section
variable {α:Type} {ops:Array Oper} {rest:List Oper} {o:Oper} {a:Act} {w:World} {Q:Exit→Act→World→Prop} {K:Act→World→Prop} {B:Nat} {S:Nat→Prop} {v x:Value} {l m:List α}
theorem Zwg (E:Enc α) (s y:Operand) (t:TypeId) (ho:o.op=.call {callee:=.builtin .append,args:=#[s,y],argTypes:=#[t,t]}) (ht:t=E.sl) (hs:a.eval s=v) (hown:Own E w B v l)
 (hx:a.eval y=x) (hr:RdE E w S x m) (h63:l.length+m.length≤maxLen) (hby:(l.length+m.length) * E.bytes≤140737488355328) (hB:B≤w.heap.size)
 (h:∀ A n c w',Grew E w B v (l++m) A n c w'→K (a.put o.dst (.slice A n c)) w'):o.wp Tryz.prog a w K Q:=by
 subst ht
 refine Jw w s y E.sl ho B E.ty E.i E.zero E.z E.bytes E.und E.info E.hz E.hs E.hb E.hc E.pos v l.length (E.cells l) hs hown S x m.length (E.cells m) hx hr (E.one m) h63 hby hB ?_
 intro v' w' ha
 obtain ⟨A,n,c,rfl,hg⟩:=Zvf hown ha
 exact h A n c w' hg
theorem Wy (E:Enc α) (s y:Operand) (t:TypeId) (hgd:o.guard=none) (ho:o.op=.call {callee:=.builtin .append,args:=#[s,y],argTypes:=#[t,t]}) (ht:t=E.sl) (hs:a.eval s=v) (hown:Own E w B v l)
 (hx:a.eval y=x) (hr:RdE E w S x m) (h63:l.length+m.length≤maxLen) (hby:(l.length+m.length) * E.bytes≤140737488355328) (hB:B≤w.heap.size)
 (h:∀ A n c w',Grew E w B v (l++m) A n c w'→wpList Tryz.prog ops Q rest (a.put o.dst (.slice A n c)) w'):wpList Tryz.prog ops Q (o::rest) a w :=
 wpList_plain hgd fun _ hK=>Zwg E s y t ho ht hs hown hx hr h63 hby hB fun A n c w' hg=>hK _ _ (h A n c w' hg)
theorem Bn (E:Enc α) {F:Prop} (s y:Operand) (t:TypeId) (hgd:o.guard=none) (ho:o.op=.call {callee:=.builtin .append,args:=#[s,y],argTypes:=#[t,t]}) (ht:t=E.sl) (hs:a.eval s=v) (hown:Own E w B v l)
 (hx:a.eval y=x) (hr:RdE E w S x m) (h63:l.length+m.length≤maxLen) (hby:(l.length+m.length) * E.bytes≤140737488355328) (hB:B≤w.heap.size)
 (h:∀ A n c w',Grew E w B v (l++m) A n c w'→K (a.put o.dst (.slice A n c)) w') :
 if Region.wanted o (yielded ops a.tmps)=true then Oper.wp Tryz.prog o a w K Q else F:=by
 have hw:Region.wanted o (yielded ops a.tmps)=true:=by simp [Region.wanted,hgd]
 rw [if_pos hw]
 exact Zwg E s y t ho ht hs hown hx hr h63 hby hB h
end
noncomputable def K9:Enc Nat where
 ty:=3
 sl:=22
 z:=1
 bytes:=8
 cells l:=l.map Zy5
 app a b:=Z9
 len l:=by simp
 one l:=Ub _ (fun _=>rfl) l
 und:=Ia
 i:=Classical.choose (info_parts Qs)
 zero:=.int .i64 0
 info:=(Yp (info_parts Qs)).1
 hz:=(Yp (info_parts Qs)).2.1
 hs:=(Yp (info_parts Qs)).2.2.1
 hb:=(Yp (info_parts Qs)).2.2.2
 hc:=rfl
 pos:=by omega
theorem Zqt {l:List Nat} {j:Nat} {x:Nat} (h:l[j]?=some x):(K9.cells l)[j]?=some (Zy5 x):=by
 show (l.map Zy5)[j]?=_
 rw [Zn,h];rfl
theorem Fv (w:World) (z:Nat) (t:TypeId) (g:Nat) (hg:w.heap.size=g):RdE K9 (w.alloc (.cells #[.int .i64 (z:Int)] t)) (fun _=>True) (.slice (some ⟨g,0,none⟩) 1 1) [z]:=by
 subst hg
 exact Qo w #[.int .i64 (z:Int)] t 1 rfl
structure Bo (os:List Opn) (i:Nat) (l:List Nat):Prop where
 asc:l.Pairwise (fun a b=>lxO os a b=true)
 mem:∀ j,j∈l↔j < i∧Pt os j=true
theorem Bo.done {os:List Opn} {l:List Nat} (h:Bo os os.length l):l=Ds os :=
 Cf.unique ⟨h.asc,fun j=>by rw [h.mem];exact ⟨fun q=>q.2,fun q=>⟨Bh q,q⟩⟩⟩ (Fm os)
theorem Bo.skip {os:List Opn} {i:Nat} {l:List Nat} (h:Bo os i l) (hd:Pt os i=false):Bo os (i+1) l :=
 ⟨h.asc,fun j=>by
   rw [h.mem]
   constructor
   ·rintro ⟨h1,h2⟩;exact ⟨by omega,h2⟩
   rintro ⟨h1,h2⟩
   refine ⟨?_,h2⟩
   rcases (show j < i∨j=i by omega) with h3|rfl
   ·exact h3
   rw [hd] at h2;cases h2⟩
theorem Bo.put {os:List Opn} {i k:Nat} {l:List Nat} (h:Bo os i l) (hd:Pt os i=true) (hk:k≤l.length) (hhi:∀ p j,k≤p→l[p]?=some j→Jj os i < Jj os j) (hlo:∀ j,0 < k→l[k - 1]?=some j→Jj os j≤Jj os i) :
 Bo os (i+1) (l.take k++[i]++l.drop k):=by
 have hm:=h.mem
 have ha:=h.asc
 have hpre:∀ j∈l.take k,lxO os j i=true:=fun j hj=>by
  obtain ⟨p,hp,rfl⟩:=List.mem_iff_getElem.1 hj
  rw [Zp] at hp
  rw [List.getElem_take]
  have hpl:p < l.length:=by omega
  have hlast:=hlo l[k - 1] (by omega) (Zz (by omega))
  have hji:=(hm l[p]).1 (List.getElem_mem _)
  have hle:Jj os l[p]≤Jj os l[k - 1]:=by
   rcases (show p < k - 1∨p=k - 1 by omega) with h1|rfl
   ·have:=List.pairwise_iff_getElem.1 ha p (k - 1) hpl (by omega) h1
    simp only [lxO,decide_eq_true_eq] at this
    omega
   exact Int.le_refl _
  simp only [lxO,decide_eq_true_eq]
  omega
 have hpost:∀ j∈l.drop k,lxO os i j=true:=fun j hj=>by
  obtain ⟨p,hp,rfl⟩:=List.mem_iff_getElem.1 hj
  rw [List.getElem_drop]
  rw [Z8] at hp
  have:=hhi (k+p) l[k+p] (by omega) (Zz (by omega))
  simp only [lxO,decide_eq_true_eq]
  omega
 refine ⟨?_,fun j=>?_⟩
 ·rw [← List.take_append_drop k l] at ha
  rw [List.pairwise_append] at ha
  obtain ⟨h1,h2,h3⟩:=ha
  rw [List.append_assoc,List.pairwise_append]
  refine ⟨h1,?_,?_⟩
  ·rw [List.singleton_append,List.pairwise_cons]
   exact ⟨hpost,h2⟩
  intro a haa b hb
  rcases Zg.1 hb with rfl|hb
  ·exact hpre a haa
  exact h3 a haa b hb
 have e:j∈l.take k++[i]++l.drop k↔j∈l∨j=i:=by
  conv=>rhs;rw [← List.take_append_drop k l]
  simp only [Zj,Zi]
  constructor
  ·rintro ((h1|h1)|h1)
   ·exact .inl (.inl h1)
   ·exact .inr h1
   exact .inl (.inr h1)
  rintro ((h1|h1)|h1)
  ·exact .inl (.inl h1)
  ·exact .inr h1
  exact .inl (.inr h1)
 rw [e,hm]
 constructor
 ·rintro (⟨h1,h2⟩|rfl)
  ·exact ⟨by omega,h2⟩
  exact ⟨by omega,hd⟩
 rintro ⟨h1,h2⟩
 rcases (show j < i∨j=i by omega) with h3|rfl
 ·exact .inl ⟨h3,h2⟩
 exact .inr rfl
end
theorem Ext.alloc_box {w:World} {T:Tbl} {a b:Array Value} {t t2:TypeId} (h:Ext w ((w.alloc (Xf T)).alloc (.cells a t))):Ext w ((w.alloc (Xf T)).alloc (.cells b t2)):=((Yl w).alloc _).alloc _
def sliceLen:Value→Nat | .slice _ n _=>n|_=>0
theorem Zpa {w:World} {v:Value} {l:List Nm} {c j n:Nat} {u:Value} (h:Rd w (fun k=>c < k∧n≤k) 3 v l.length (Xb l)):Rd (w.setCell ⟨c,j,none⟩ u) (fun k=>c < k∧n≤k) 3 v l.length (Xb l):=Rd.chg h ((Chg.refl (· = c) w).setCell (p:=⟨c,j,none⟩) (.inl rfl) u) (fun k hk e=>by omega)
def Zsr (w:World) (e:Ending) (w':World):Prop:=∃ (nv av:Value) (ns:List Nm) (r:Zy1),e=.returned (.tuple #[nv,av,Qd r])∧Wq w' (fun k=>w.heap.size≤k) nv ns∧(r.e=0→1≤ns.length∧ns.length≤16)∧nv.oneCell'=true∧Ext w w'
theorem Zrm (w:World) (a u k:ByteArray) (t:TypeId) (g:Nat) (hg:w.heap.size=g):RdE nmE (w.alloc (.cells #[.string a,.string u,.string k] t)) (fun _=>True) (.slice (some ⟨g,0,none⟩) 1 1) [⟨a,u,k⟩]:=by
 subst hg
 exact Qo w #[.string a,.string u,.string k] t 3 rfl
theorem Ztr {S R:Nat→Prop} (T:Tbl) (hf:Few T) (hu:Uq T) (v:Value) (l:List ByteArray) (w:World) (h:Xm w S T) (hl:RdE Wr w R v l):Calls Tryz.prog 171 #[Wc T,v] w (Zsr w):=by
 obtain ⟨A,C,rfl,hlC,hC⟩:=hl.shape
 obtain ⟨n,hn⟩:∃ n,l.length=n:=⟨_,rfl⟩
 have HL0:=Yw hl
 rw [hn] at hlC ⊢
 have Hnn:=Yw hn
 clear hl hn
 have X0:=Yw ((Yl w).alloc (Xf T))
 have H:=Yw (h.up X0.out)
 have Hb0:=Yw (Xq w T)
 clear h
 have Hf:=Yw hf
 have Hu:=Yw hu
 clear hf hu
 have hz0:=Zrj (w.alloc (Xf T))
 obtain ⟨rb,hrb⟩:∃ b,(w.alloc (Xf T)).heap.size=b:=⟨_,rfl⟩
 have hrb2:w.heap.size+1=rb:=by rw [← hrb];simp
 rw [hrb] at hz0
 have hx0:=X0.out.alloc (.cells #[.int .i64 0,.int .i64 0,.string ⟨#[]⟩,.int .i64 0,.int .i64 0,.string ⟨#[]⟩,.int .i64 0,.int .i64 0] 53)
 have h01:=(Yl (w.alloc (Xf T))).alloc (.cells #[.int .i64 0,.int .i64 0,.string ⟨#[]⟩,.int .i64 0,.int .i64 0,.string ⟨#[]⟩,.int .i64 0,.int .i64 0] 53)
 by_cases hn0:n=0
 ·subst hn0
  go_enter Tryz.func171,Tryz.ntmps171
  go_wp2_with (first|(refine Xy rfl ?_))
  refine Yt (v:=.tuple #[.slice none 0 0,.slice none 0 0,Qd ⟨10,(-1),⟨#[]⟩,default,0⟩]) (by simp [results,Tryz.results171,go_sem,Qd,Kr, *]) rfl ⟨.slice none 0 0,.slice none 0 0,[],⟨10,(-1),⟨#[]⟩,default,0⟩,rfl,Rd.nil _ _ _,fun h=>absurd h (by decide),rfl,?_⟩
  exact hx0.alloc_box
 have e0:((n:Int) == 0)=false:=by simp;omega
 have e00:(n == 0)=false:=by simp;omega
 have e000:¬ (n:Int)=0:=by omega
 by_cases h16:16 < n
 ·have e1:decide ((16:Int) < (n:Int))=true:=Yf (by omega)
  go_enter Tryz.func171,Tryz.ntmps171
  go_wp2_with (first|(refine Xy rfl ?_))
  refine Yt (v:=.tuple #[.slice none 0 0,.slice none 0 0,Qd ⟨7,(-1),⟨#[]⟩,default,0⟩]) (by simp [results,Tryz.results171,go_sem,Qd,Kr, *]) rfl ⟨.slice none 0 0,.slice none 0 0,[],⟨7,(-1),⟨#[]⟩,default,0⟩,rfl,Rd.nil _ _ _,fun h=>absurd h (by decide),rfl,?_⟩
  exact hx0.alloc_box
 have e1:decide ((16:Int) < (n:Int))=false:=Yg (by omega)
 go_enter Tryz.func171,Tryz.ntmps171
 go_wp2_with (first|(refine Xy rfl ?_))
 obtain ⟨W0,hW0⟩:∃ W,(w.alloc (Xf T)).alloc (.cells #[.int .i64 0,.int .i64 0,.string ⟨#[]⟩,.int .i64 0,.int .i64 0,.string ⟨#[]⟩,.int .i64 0,.int .i64 0] 53)=W:=⟨_,rfl⟩
 rw [hW0] at hz0 hx0 h01
 rw [hW0]
 have HZ0:=Yw hz0
 have HX0:=Yw hx0
 have H1:=Yw (H.out.up h01)
 have Hb1:=Yw (Hb0.out.ext h01)
 have hrw:w.heap.size≤rb:=by omega
 have Hrw:=Yw hrw
 have HL:=Yw (HL0.out.ext HX0.out)
 obtain ⟨B,hB⟩:∃ B,W0.heap.size=B:=⟨_,rfl⟩
 have HB:=Yw hB
 have HwB:=Yw (show w.heap.size≤B by rw [← hB];exact hx0.size)
 clear hz0 hx0 h01 hW0 hrw hB HL0 X0 H Hb0 hrb hrb2
 go_loopw [28,7] (fun o u wr=>∃ (i:Nat) (L:List Nm),i≤n∧o=.int .i64 (i:Int)∧Own nmE wr B u L∧L.length=i∧Ext W0 wr) (fun o _ _=>n - (intOf o).toNat)
 case atStart=>exact ⟨0,[],by omega,rfl,Own.nil _ _ _,rfl,Yl _⟩
 obtain ⟨i,L,hi,rfl,ho,hLn,hx⟩:=hrel
 obtain ⟨A1,C1,rfl,hlC1,hC1⟩:=ho.shape
 try rw [hLn] at ho
 try rw [hLn]
 rw [hLn] at hlC1
 have Hx:=Yw hx
 have Ho:=Yw ho
 have HLn:=Yw hLn
 have hBw:B≤wr.heap.size:=by rw [← HB.out];exact hx.size
 have HBw:=Yw hBw
 clear hx ho hLn
 by_cases hlt:i < n
 ·have hd_i:decide ((i:Int) < (n:Int))=true:=Yf (by omega)
  have i0_i:(0:Int)≤(i:Int):=by omega
  have i1_i:(i:Int) < (n:Int):=by omega
  obtain ⟨x,hx0⟩:∃ x,l[i]?=some x:=⟨l[i]'(by rw [Hnn.out];exact hlt),Zz _⟩
  obtain ⟨g,o,c,hv,_,_,_,hg,c0⟩:=strs_get (HL.out.ext Hx.out) hx0
  rw [Hnn.out] at hv
  simp only [Ye] at hv
  obtain ⟨rfl,-,rfl⟩:=hv
  clear hx0
  go_wp2_with (refine Y4 (Hb1.out.ext Hx.out) rfl ?_)
  refine (Zwx T Hf.out Hu.out x _ (H1.out.up Hx.out)).mono ?_
  rintro e w2 ⟨a,u,k,z,rfl,ha,hu2,hk,hx2⟩
  have Hx2:=Yw (Hx.out.trans hx2)
  have Ho2:=Yw (Ho.out.ext hx2)
  have hB2:B≤w2.heap.size:=Nat.le_trans HBw.out hx2.size
  clear hx2 c0
  by_cases hz:z=0
  ·subst hz
   go_wp2_with (at_builtin;(refine Xx nmE _ _ _ rfl rfl rfl rfl (Ho2.out.ext (((Yl _).alloc _).alloc _)) rfl (Zrm _ a u k _ _ (by first|rfl|simp)) (by rw [HLn.out];show _+1≤_;omega) (by show 48≤1000;omega) (by simp;omega) ?_;intro A5 n5 c5 w5 hg5;have Hx5:=Yw (hg5.ext W0 ((Hx2.out.alloc _).alloc _) (by rw [HB.out];exact Yo _));have Hg5:=Yw hg5;clear hg5))
   go_roundw
   case rel=>exact ⟨i+1,_,by omega,by go_num,Hg5.out.own,by rw [Zs,HLn.out];rfl,Hx5.out⟩
   case measure=>(simp [intOf];omega)
  have hzb:(!(z == 0))=true:=by simp [hz]
  have hzc:(z != 0)=true:=hzb
  have hzd:(z == 0)=false:=by simp [hz]
  have hzH:=Yw hz
  clear hz
  obtain ⟨y0,y1,y2,y3,y4,y5,y6,y7,yf,yl⟩:=HZ0.out.ext (Hx2.out.alloc (.cells #[.string a,.string u,.string k] 109))
  go_wp2_with fail
  refine Yt (v:=.tuple #[.slice none 0 0,.slice none 0 0,Qd ⟨z,(i:Int),⟨#[]⟩,default,0⟩]) (by simp [results,Tryz.results171,go_sem,Qd,Kr, *]) rfl ⟨.slice none 0 0,.slice none 0 0,[],⟨z,(i:Int),⟨#[]⟩,default,0⟩,rfl,Rd.nil _ _ _,fun h=>absurd h hzH.out,rfl,?_⟩
  (repeat refine Ya ?_ Hrw.out _)
  exact HX0.out.trans (Hx2.out.alloc _)
 have hd_i:decide ((i:Int) < (n:Int))=false:=Yg (by omega)
 obtain rfl:i=n:=by omega
 obtain ⟨B2,hB2⟩:∃ B,wr.heap.size=B:=⟨_,rfl⟩
 have HB2:=Yw hB2
 have HrB:=Yw (show rb < B2 by rw [← hB2];exact (HZ0.out.ext Hx.out).lt)
 have HwB2:=Yw (show w.heap.size≤B2 by rw [← hB2];exact Nat.le_trans HwB.out hBw)
 have HN:=Yw (show Wq wr (fun k=>B≤k) (.slice A1 L.length C1) L from by have:=Ho.out;rw [← HLn.out] at this;exact this.rd)
 have hXW:=HX0.out.trans Hx.out
 have HXW:=Yw hXW
 have HZ1:=Yw (HZ0.out.ext Hx.out)
 unfold maxLen at hC1
 clear hB2 hBw HBw Ho Hx HB Hb1 H1 HZ0 HX0 hXW
 go_wp2_with fail
 go_loopw [12,13] (fun u v wr2=>∃ (out:List Nm) (av:List Int),Own nmE wr2 B2 u out∧Own Xe wr2 B2 v av∧(∀ k,u.ownBlock=some k→v.ownBlock≠some k)∧Uh L (Rq out)=out.length∧out.length≤i∧av.length=out.length∧Ext wr wr2) (fun u _ _=>i - sliceLen u)
 case atStart=>exact ⟨[],[],Own.nil _ _ _,Own.nil _ _ _,(by intro k h;cases h),Ry L,by simp,rfl,Yl _⟩
 rename World=>wq
 obtain ⟨out,av,hou,hav,hne,hch,hol,hal,hx⟩:=hrel
 obtain ⟨A2,C2,rfl,hlC2,hC2⟩:=hou.shape
 obtain ⟨A3,C3,rfl,hlC3,hC3⟩:=hav.shape
 obtain ⟨m,hm⟩:∃ m,out.length=m:=⟨_,rfl⟩
 rw [hal] at hav hlC3 hne ⊢
 rw [hm] at hou hlC2 hol hch hav hlC3 hne ⊢
 have Hm:=Yw hm
 have Hal:=Yw (hal.trans hm)
 have Hou:=Yw hou
 have Hav:=Yw hav
 have Hne:=Yw hne
 have Hch:=Yw hch
 have Hx:=Yw hx
 have hBw2:B2≤wq.heap.size:=by rw [← HB2.out];exact hx.size
 have HBw2:=Yw hBw2
 unfold maxLen at hC2
 clear hal hm hou hav hne hch hx hBw2
 by_cases hlt:m < i
 ·have hd_m:decide ((m:Int) < (i:Int))=true:=Yf (by omega)
  have i0_m:(0:Int)≤(m:Int):=by omega
  have i1_m:(m:Int) < (i:Int):=by omega
  go_wp2_with fail
  obtain ⟨o9,ho9⟩:∃ o,Rq out=o:=⟨_,rfl⟩
  have Ho9:=Yw ho9
  clear ho9
  go_loopw [56,14] (fun o z wx=>∃ (j:Nat) (Z:Int),j≤i∧o=.int .i64 (j:Int)∧z=.int .i64 Z∧Sel L o9 j Z∧Ext wq wx) (fun o _ _=>i - (intOf o).toNat)
  case atStart=>exact ⟨0,-1,by omega,rfl,rfl,Sel.start _ _,Yl _⟩
  rename World=>wi
  obtain ⟨j,Z,hj,rfl,rfl,hsel,hxi⟩:=hrel
  have Hsel:=Yw hsel
  have Hxi:=Yw hxi
  clear hxi
  by_cases hji:j < i
  ·have hd_j:decide ((j:Int) < (i:Int))=true:=Yf (by omega)
   have i0_j:(0:Int)≤(j:Int):=by omega
   have i1_j:(j:Int) < (i:Int):=by omega
   obtain ⟨nm,hnm⟩:∃ x,L[j]?=some x:=⟨L[j]'(by rw [HLn.out];exact hji),Zz _⟩
   obtain ⟨g,o,c,hv,_,_,_,hg,hcell⟩:=(HN.out.ext (Hx.out.trans Hxi.out)).get (j:=j) (by rw [HLn.out];exact hji)
   rw [HLn.out] at hv
   simp only [Ye] at hv
   obtain ⟨rfl,-,rfl⟩:=hv
   obtain ⟨q0,q1,q2⟩:=hcell j nm hnm
   have hzc:=Hsel.out.at_
   go_wp2_with fail
   have q9:(wi.alloc (.cells #[.string nm.a,.string nm.u,.string nm.k] 109)).cell? ⟨wi.heap.size,2,none⟩=some (.string nm.k):=by go_simp
   have m9:=lat q9
   have Hnm:=Yw hnm
   clear q0 q1 q2 q9 hsel hnm
   rcases Nat.eq_zero_or_pos m with hm0|hm0
   ·have hob:Behind o9 nm=true:=by
     have h1:out=[]:=List.eq_nil_of_length_eq_zero (by rw [Hm.out];exact hm0)
     rw [← Ho9.out,h1];rfl
    have Hb:=Yw hob
    have k1:((m:Int) == 0)=true:=by simp;omega
    have k2:(m == 0)=true:=by simp;omega
    clear hob hm0
    rcases hzc with rfl | ⟨k,mk,rfl,hk,hmk⟩
    ·clear hcell
     have hun:=Yb
     refine Y0 (by kernel_rfl) (by kernel_rfl) ?_
     repeat ((with_reducible refine Yv ?_);intro K hK;go_simp;(with_reducible refine hK _ ?_);clear hK K)
     (with_reducible refine Yu ?_)
     intro w9 hy9
     clear hun
     try simp only [Yc]
     go_wp2_with fail
     go_roundw
     case rel=>exact ⟨j+1,_,by omega,by go_num,rfl,(Hsel.out.first Hnm.out Hb.out),(Hxi.out.alloc _).trans hy9⟩
     case measure=>(simp [intOf];omega)
    have z1:decide ((k:Int) < 0)=false:=Yg (by omega)
    have z2:(0:Int)≤(k:Int):=by omega
    have z3:(k:Int) < (i:Int):=by omega
    have z4:k < i:=by omega
    obtain ⟨p0,p1,p2⟩:=hcell k mk hmk
    have m8:=lat (((((Yl wi).alloc (.cells #[.string nm.a,.string nm.u,.string nm.k] 109))).cell (p:=⟨g,o+k * 3+2,none⟩) hg).trans p2)
    have Hmk:=Yw hmk
    clear p0 p1 p2 hcell hmk
    by_cases hl:kb nm.k < kb mk.k
    ·have l1:=Oi hl
     have Hl:=Yw hl
     clear hl
     have hun:=Yb
     refine Y0 (by kernel_rfl) (by kernel_rfl) ?_
     repeat ((with_reducible refine Yv ?_);intro K hK;go_simp;(with_reducible refine hK _ ?_);clear hK K)
     (with_reducible refine Yu ?_)
     intro w9 hy9
     clear hun
     try simp only [Yc]
     go_wp2_with fail
     go_roundw
     case rel=>exact ⟨j+1,_,by omega,by go_num,rfl,(Hsel.out.less Hmk.out Hnm.out Hb.out Hl.out),(Hxi.out.alloc _).trans hy9⟩
     case measure=>(simp [intOf];omega)
    have l1:=Mz hl
    have Hl:=Yw hl
    clear hl
    have hun:=Yb
    refine Y0 (by kernel_rfl) (by kernel_rfl) ?_
    repeat ((with_reducible refine Yv ?_);intro K hK;go_simp;(with_reducible refine hK _ ?_);clear hK K)
    (with_reducible refine Yu ?_)
    intro w9 hy9
    clear hun
    try simp only [Yc]
    go_wp2_with fail
    go_roundw
    case rel=>exact ⟨j+1,_,by omega,by go_num,rfl,(Hsel.out.keep Hmk.out Hnm.out Hl.out),(Hxi.out.alloc _).trans hy9⟩
    case measure=>(simp [intOf];omega)
   have k1:((m:Int) == 0)=false:=by simp;omega
   have k2:(m == 0)=false:=by simp;omega
   have k3:¬ (m:Int)=0:=by omega
   obtain ⟨r,hr⟩:∃ r,m - 1=r:=⟨_,rfl⟩
   obtain ⟨y,hy⟩:∃ x,out[r]?=some x:=⟨out[r]'(by rw [Hm.out];omega),Zz _⟩
   have hlk:Rq out=some (kb y.k):=Zti (by rw [Hm.out,hr];exact hy)
   have r1:IntKind.i64.wrap ((m:Int) - 1)=(r:Int):=by rw [Yq _ (by omega)];omega
   have r2:(0:Int)≤(r:Int):=by omega
   have r3:(r:Int) < (m:Int):=by omega
   have r4:r < m:=by omega
   have HO:=Yw (show Wq wi (fun k=>B2≤k) (.slice A2 out.length C2) out from by have:=Hou.out.ext Hxi.out;rw [← Hm.out] at this;exact this.rd)
   obtain ⟨g2,o2,c2,hv2,_,_,_,hg2,hcell2⟩:=HO.out.get (j:=r) (by rw [Hm.out];exact r4)
   rw [Hm.out] at hv2
   simp only [Ye] at hv2
   obtain ⟨rfl,-,rfl⟩:=hv2
   obtain ⟨p0,p1,p2⟩:=hcell2 r y hy
   have m7:=lat (((((Yl wi).alloc (.cells #[.string nm.a,.string nm.u,.string nm.k] 109))).cell (p:=⟨g2,o2+r * 3+2,none⟩) hg2).trans p2)
   have hoy:o9=some (kb y.k):=by rw [← Ho9.out,hlk]
   clear p0 p1 p2 hcell2 hr hy hlk
   by_cases hbe:kb y.k < kb nm.k
   ·obtain ⟨l2,l3⟩:=Zqp hbe
    have Hb:=Yw (show Behind o9 nm=true by rw [hoy];simp [Behind,hbe])
    clear hbe hoy
    rcases hzc with rfl | ⟨k,mk,rfl,hk,hmk⟩
    ·clear hcell
     have hun:=Yb
     refine Y0 (by kernel_rfl) (by kernel_rfl) ?_
     repeat ((with_reducible refine Yv ?_);intro K hK;go_simp;(with_reducible refine hK _ ?_);clear hK K)
     (with_reducible refine Yu ?_)
     intro w9 hy9
     clear hun
     try simp only [Yc]
     go_wp2_with fail
     go_roundw
     case rel=>exact ⟨j+1,_,by omega,by go_num,rfl,(Hsel.out.first Hnm.out Hb.out),(Hxi.out.alloc _).trans hy9⟩
     case measure=>(simp [intOf];omega)
    have z1:decide ((k:Int) < 0)=false:=Yg (by omega)
    have z2:(0:Int)≤(k:Int):=by omega
    have z3:(k:Int) < (i:Int):=by omega
    have z4:k < i:=by omega
    obtain ⟨p0,p1,p2⟩:=hcell k mk hmk
    have m8:=lat (((((Yl wi).alloc (.cells #[.string nm.a,.string nm.u,.string nm.k] 109))).cell (p:=⟨g,o+k * 3+2,none⟩) hg).trans p2)
    have Hmk:=Yw hmk
    clear p0 p1 p2 hcell hmk
    by_cases hl:kb nm.k < kb mk.k
    ·have l1:=Oi hl
     have Hl:=Yw hl
     clear hl
     have hun:=Yb
     refine Y0 (by kernel_rfl) (by kernel_rfl) ?_
     repeat ((with_reducible refine Yv ?_);intro K hK;go_simp;(with_reducible refine hK _ ?_);clear hK K)
     (with_reducible refine Yu ?_)
     intro w9 hy9
     clear hun
     try simp only [Yc]
     go_wp2_with fail
     go_roundw
     case rel=>exact ⟨j+1,_,by omega,by go_num,rfl,(Hsel.out.less Hmk.out Hnm.out Hb.out Hl.out),(Hxi.out.alloc _).trans hy9⟩
     case measure=>(simp [intOf];omega)
    have l1:=Mz hl
    have Hl:=Yw hl
    clear hl
    have hun:=Yb
    refine Y0 (by kernel_rfl) (by kernel_rfl) ?_
    repeat ((with_reducible refine Yv ?_);intro K hK;go_simp;(with_reducible refine hK _ ?_);clear hK K)
    (with_reducible refine Yu ?_)
    intro w9 hy9
    clear hun
    try simp only [Yc]
    go_wp2_with fail
    go_roundw
    case rel=>exact ⟨j+1,_,by omega,by go_num,rfl,(Hsel.out.keep Hmk.out Hnm.out Hl.out),(Hxi.out.alloc _).trans hy9⟩
    case measure=>(simp [intOf];omega)
   have l2:=Zsk hbe
   have Hb:=Yw (show Behind o9 nm=false by rw [hoy];simp [Behind,hbe])
   clear hbe hoy hcell hzc
   have hun:=Yb
   refine Y0 (by kernel_rfl) (by kernel_rfl) ?_
   repeat ((with_reducible refine Yv ?_);intro K hK;go_simp;(with_reducible refine hK _ ?_);clear hK K)
   (with_reducible refine Yu ?_)
   intro w9 hy9
   clear hun
   try simp only [Yc]
   go_wp2_with fail
   go_roundw
   case rel=>exact ⟨j+1,_,by omega,by go_num,rfl,(Hsel.out.skip Hnm.out Hb.out),(Hxi.out.alloc _).trans hy9⟩
   case measure=>(simp [intOf];omega)
  have hd_j:decide ((j:Int) < (i:Int))=false:=Yg (by omega)
  obtain rfl:j=i:=by omega
  have hseln:Sel L o9 L.length Z:=by rw [HLn.out];exact hsel
  obtain ⟨k,mk,rfl,hk,hmk,hbk,hmin,hfirst⟩:=hseln.found (by rw [← Ho9.out,Hch.out,HLn.out];exact hlt)
  rw [HLn.out] at hk
  have Hmk:=Yw hmk
  have Hbk:=Yw hbk
  have Hmin:=Yw hmin
  have Hfirst:=Yw hfirst
  obtain ⟨K1,hK1⟩:∃ q,k+1=q:=⟨_,rfl⟩
  have r1:IntKind.i64.wrap ((k:Int)+1)=(K1:Int):=by rw [Yq _ (by omega)];omega
  clear hseln hsel hmk hbk hmin hfirst Hsel
  go_wp2_with fail
  go_loopw [17] (fun o wx=>∃ q:Nat,K1≤q∧q≤j∧o=.int .i64 (q:Int)∧(∀ p x,k < p→p < q→L[p]?=some x→x.k≠mk.k)∧Ext wi wx) (fun o _=>j - (intOf o).toNat)
  case atStart=>exact ⟨K1,by omega,by omega,rfl,fun p x h1 h2=>by omega,Yl _⟩
  rename World=>w4
  obtain ⟨q,hq1,hq2,rfl,htw,hx4⟩:=hrel
  have Htw:=Yw htw
  have HX4:=Yw (Hxi.out.trans hx4)
  have HXi4:=Yw hx4
  clear htw hx4
  by_cases hqj:q < j
  ·have hd_q:decide ((q:Int) < (j:Int))=true:=Yf (by omega)
   have i0_q:(0:Int)≤(q:Int):=by omega
   have i1_q:(q:Int) < (j:Int):=by omega
   obtain ⟨nq,hnq⟩:∃ x,L[q]?=some x:=⟨L[q]'(by rw [HLn.out];exact hqj),Zz _⟩
   obtain ⟨g,o,c,hv,_,_,_,hg,hcell⟩:=(HN.out.ext (Hx.out.trans HX4.out)).get (j:=q) (by rw [HLn.out];exact hqj)
   rw [HLn.out] at hv
   simp only [Ye] at hv
   obtain ⟨rfl,-,rfl⟩:=hv
   obtain ⟨q0,q1,q2⟩:=hcell q nq hnq
   obtain ⟨p0,p1,p2⟩:=hcell k mk Hmk.out
   have m1:=lat q2
   have m2:=lat p2
   have z2:(0:Int)≤(k:Int):=by omega
   have z3:(k:Int) < (j:Int):=by omega
   have Hnq:=Yw hnq
   clear p0 p1 q1 hcell hnq
   cases heq:(nq.k.toList == mk.k.toList)
   ·have heq2:¬ nq.k.toList=mk.k.toList:=by simpa using heq
    have hne2:nq.k≠mk.k:=fun e=>heq2 (by rw [e])
    have Hne2:=Yw hne2
    clear hne2 q0
    go_wp2_with fail
    have hun:=Yb
    refine Y0 (by kernel_rfl) (by kernel_rfl) ?_
    repeat ((with_reducible refine Yv ?_);intro K hK;go_simp;(with_reducible refine hK _ ?_);clear hK K)
    (with_reducible refine Yu ?_)
    intro w9 hy9
    clear hun
    try simp only [Yc]
    go_wp2_with fail
    go_roundw
    case rel =>
     refine ⟨q+1,by omega,by omega,by go_num,fun p x h1 h2 h3=>?_,HXi4.out.trans hy9⟩
     rcases (show p < q∨p=q by omega) with h4|rfl
     ·exact Htw.out p x h1 h4 h3
     rw [Hnq.out] at h3;cases h3;exact Hne2.out
    case measure=>(simp [intOf];omega)
   have heq2:nq.k.toList=mk.k.toList:=by simpa using heq
   clear heq2
   go_wp2_with fail
   have hun:=Yb
   refine Y0 (by kernel_rfl) (by kernel_rfl) ?_
   repeat ((with_reducible refine Yv ?_);intro K hK;go_simp;(with_reducible refine hK _ ?_);clear hK K)
   (with_reducible refine Yu ?_)
   intro w9 hy9
   clear hun
   try simp only [Yc]
   have q0':=(hy9.cell (p:=⟨g,o+q * 3,none⟩) hg).trans q0
   have HX9:=Yw (HX4.out.trans hy9)
   clear q0 q2 p2 m1 m2 hy9
   obtain ⟨y0,y1,y2,y3,y4,y5,y6,y7,yf,yl⟩:=HZ1.out.ext (Hx.out.trans HX9.out)
   go_wp2_with fail
   go_region
   all_goals
    go_wp2_with fail
    refine Yt (v:=.tuple #[.slice none 0 0,.slice none 0 0,Qd ⟨22,(q:Int),nq.a,default,0⟩]) (by simp [results,Tryz.results171,go_sem,Qd,Kr, *]) rfl ⟨.slice none 0 0,.slice none 0 0,[],⟨22,(q:Int),nq.a,default,0⟩,rfl,Rd.nil _ _ _,fun h=>absurd h (show ¬ (22:Int)=0 by decide),rfl,?_⟩
    (first|refine Yi ?_|refine Yj ?_ _|skip)
    (repeat refine Ya ?_ Hrw.out _)
    first|exact HXW.out.trans (Hx.out.trans HX9.out)|exact (HXW.out.trans (Hx.out.trans HX9.out)).drew|exact (HXW.out.trans (Hx.out.trans HX9.out)).drewN _
  have hd_q:decide ((q:Int) < (j:Int))=false:=Yg (by omega)
  obtain rfl:q=j:=by omega
  obtain ⟨g,o,c,hv,_,_,_,hg,hcell⟩:=(HN.out.ext (Hx.out.trans HX4.out)).get (j:=k) (by rw [HLn.out];exact hk)
  rw [HLn.out] at hv
  simp only [Ye] at hv
  obtain ⟨rfl,-,rfl⟩:=hv
  obtain ⟨p0,p1,p2⟩:=hcell k mk Hmk.out
  have z2:(0:Int)≤(k:Int):=by omega
  have z3:(k:Int) < (q:Int):=by omega
  have V4:=Yw (Hou.out.ext HX4.out)
  have U4:=Yw (Hav.out.ext HX4.out)
  have hB4:B2≤w4.heap.size:=Nat.le_trans HBw2.out HX4.out.size
  clear hcell
  go_wp2_with (first|(at_builtin;(refine Xx nmE _ _ _ rfl rfl rfl rfl (V4.out.ext ((Yl _).alloc _)) rfl (Zrm w4 mk.a mk.u mk.k _ _ rfl) (by rw [Hm.out];show m+1≤_;omega) (by show 48≤1000;omega) (by simp;omega) ?_;intro A5 n5 c5 w5 hg5;have H5:=Yw hg5;have X5:=Yw (hg5.ext wr ((Hx.out.trans HX4.out).alloc _) (by rw [HB2.out];exact Yo _));have U5:=Yw ((U4.out.ext ((Yl _).alloc _)).chg hg5.chg (fun kk h1 h2=>Hne.out kk h2 h1));have hB5:B2≤w5.heap.size:=(by rw [← HB2.out];exact X5.out.size);clear hg5))|(at_builtin;(refine Xx Xe _ _ _ rfl rfl rfl rfl (U5.out.ext ((Yl _).alloc _)) rfl (X9 w5 (k:Int) _ _ rfl) (by rw [Hal.out];show m+1≤_;omega) (by show 8≤1000;omega) (by simp;omega) ?_;intro A6 n6 c6 w6 hg6;have H6:=Yw hg6;have X6:=Yw (hg6.ext wr (X5.out.alloc _) (by rw [HB2.out];exact Yo _));clear hg6)))
  go_roundw
  case rel =>
   have hlt5:∀ kk,(Value.slice A5 n5 c5).ownBlock=some kk→kk < w5.heap.size:=fun kk h=>(H5.out.own.lt kk h).2
   have hn56:∀ kk,(Value.slice A5 n5 c5).ownBlock=some kk→(Value.slice A3 m C3).ownBlock≠some kk:=by
    intro kk h1 h2
    rcases H5.out.at_ with h|h
    ·exact Hne.out kk ((show (Value.slice A5 n5 c5).ownBlock=(Value.slice A2 m C2).ownBlock from h).symm.trans h1) h2
    rw [h1] at h
    have h3:=(U4.out.lt kk h2).2
    simp at h
    omega
   have hst:=Rb Hmk.out Hbk.out Hmin.out (fun p x h1 h2=>by
    rcases Nat.lt_trichotomy p k with h|h|h
    ·exact absurd h2 (Hfirst.out p x h h1)
    ·exact h
    exact absurd h2 (Htw.out p x h (by have:=(Zr.1 h1).1;rw [HLn.out] at this;exact this) h1))
   refine ⟨out++[mk],av++[(k:Int)],(H5.out.own.ext ((Yl _).alloc _)).chg H6.out.chg (fun kk h1 h2=>hn56 kk h1 h2),H6.out.own,fun kk h1 h2=>?_,by rw [Cg,hst,← Ho9.out,Hch.out,Zs,Hm.out];rfl,by rw [Zs,Hm.out];show m+1≤_;omega,by simp [Hm.out,Hal.out],X6.out⟩
   rcases H6.out.at_ with h|h
   ·exact hn56 kk h1 ((show (Value.slice A6 n6 c6).ownBlock=(Value.slice A3 m C3).ownBlock from h).symm.trans h2)
   have h3:=hlt5 kk h1
   rw [h2] at h
   simp at h
   omega
  case measure =>
   have e5:n5=m+1:=by rw [H5.out.len,Zs,Hm.out];rfl
   simp only [sliceLen]
   omega
 have hd_m:decide ((m:Int) < (i:Int))=false:=Yg (by omega)
 obtain ⟨y0,y1,y2,y3,y4,y5,y6,y7,yf,yl⟩:=HZ1.out.ext Hx.out
 go_wp2_with fail
 refine Yt (v:=.tuple #[.slice A2 m C2,.slice A3 m C3,Qd ⟨0,-1,⟨#[]⟩,default,0⟩]) (by simp [results,Tryz.results171,go_sem,Qd,Kr, *]) rfl ⟨.slice A2 m C2,.slice A3 m C3,out,⟨0,-1,⟨#[]⟩,default,0⟩,rfl,?_,fun _=>by rw [Hm.out];omega,rfl,?_⟩
 ·have h9:Wq wq (fun k=>B2≤k) (.slice A2 m C2) out:=by have:=Hou.out;exact this.rd
  have h8:Wq wq (fun k=>rb < k∧w.heap.size≤k) (.slice A2 m C2) out:=Rd.mono h9 fun k hk _=>by have:=HwB2.out;have:=HrB.out;omega
  refine Rd.mono (S:=fun k=>rb < k∧w.heap.size≤k) ?_ fun _ hk _=>hk.2
  (repeat refine Zpa ?_)
  exact h8
 (repeat refine Ya ?_ Hrw.out _)
 exact HXW.out.trans Hx.out
structure OpF (w:World) (b:Nat) (o:Opn):Prop where
 c0:w.cell? ⟨b,0,none⟩=some (.int .i64 o.cl)
 c1:w.cell? ⟨b,1,none⟩=some (.int .i64 o.op)
 c2:w.cell? ⟨b,2,none⟩=some (.int .i64 o.ttl)
 c3:w.cell? ⟨b,3,none⟩=some o.nv
 c22:w.cell? ⟨b,22,none⟩=some (.int .i64 o.res.tick)
theorem Si.f {w:World} {b:Nat} {o:Opn} (h:Si w b 0 o):OpF w b o :=
 ⟨(h.2 0 (by omega)),(h.2 1 (by omega)),(h.2 2 (by omega)),(h.2 3 (by omega)),(h.2 22 (by omega))⟩
def Jr (o:Opn):Option Ent:=if (o.bad.e == 0) && (o.res.e == 0) && !(o.op == 7) then some ⟨o.cl,o.op,o.ttl,o.res.tick,o.ns⟩ else none
def Ee (os:List Opn) (l:List Nat):List Ent:=l.filterMap fun j=>(os[j]?).bind Jr
theorem Mu (os:List Opn) (l:List Nat) (j:Nat):Ee os (l++[j])=Ee os l++((os[j]?).bind Jr).toList:=by
 unfold Ee
 rw [List.filterMap_append]
 cases h:(os[j]?).bind Jr<;>simp [h]
theorem Uv {os:List Opn} {l:List Nat} {i j:Nat} {o:Opn} {es:List Ent} (h:es=Ee os (l.take i)) (hj:l[i]?=some j) (ho:os[j]?=some o) (hn:Jr o=none):es=Ee os (l.take (i+1)):=by
 rw [Za,hj,Option.toList_some,Mu,ho,Option.bind_some,hn,← h];simp
theorem Pf {os:List Opn} {l:List Nat} {i j:Nat} {o:Opn} {es:List Ent} {e:Ent} (h:es=Ee os (l.take i)) (hj:l[i]?=some j) (ho:os[j]?=some o) (hn:Jr o=some e):es++[e]=Ee os (l.take (i+1)):=by
 rw [Za,hj,Option.toList_some,Mu,ho,Option.bind_some,hn,← h];simp
abbrev Zty:={p:Ent×Value // p.2.oneCell'=true}
def Zyl (l:List Zty):List Value:=Ws (l.map Subtype.val)
theorem Zud (l:List Zty):∀ u∈Zyl l,u.oneCell'=true:=by
 induction l with
 | nil=>simp [Zyl,Ws]
 | cons o r ih =>
  intro u hu
  obtain ⟨o,ho⟩:=o
  simp only [Zyl,List.map_cons,Ws,Zj] at hu
  rcases hu with hu|hu
  ·simp only [Vm,Zg,Zh,or_false] at hu
   rcases hu with rfl|rfl|rfl|rfl|rfl
   all_goals first|rfl|exact ho
  exact ih u hu
noncomputable def Zox:Enc Zty where
 ty:=83
 sl:=43
 z:=5
 bytes:=56
 cells l:=Zyl l
 app a b:=by simp [Zyl,Qn]
 len l:=by simp [Zyl,Bx]
 one l:=Zud l
 und:=Cz
 i:=Classical.choose (info_parts K6)
 zero:=.agg #[.int .i64 0,.int .i64 0,.int .i64 0,.int .i64 0,.slice none 0 0]
 info:=(Yp (info_parts K6)).1
 hz:=(Yp (info_parts K6)).2.1
 hs:=(Yp (info_parts K6)).2.2.1
 hb:=(Yp (info_parts K6)).2.2.2
 hc:=rfl
 pos:=by omega
theorem Zwh (w:World) (a b c d:Int) (ns:List Nm) (A:Option Addr) (n k:Nat) (g:Nat) (hg:w.heap.size=g):RdE Zox (w.alloc (.cells #[.int .i64 a,.int .i64 b,.int .i64 c,.int .i64 d,.slice A n k] 83)) (fun _=>True) (.slice (some ⟨g,0,none⟩) 1 1) [⟨(⟨a,b,c,d,ns⟩,.slice A n k),rfl⟩]:=by
 subst hg
 exact Zvk w a b c d (.slice A n k)
structure Ztz (w1 w:World) (v:Value) (ps:List Zty):Prop where
 own:Own Zox w w1.heap.size v ps
 nms:∀ p∈ps,Wq w (fun k=>w1.heap.size≤k∧v.ownBlock≠some k) p.1.2 p.1.1.names
 ext:Ext w1 w
theorem Ztz.up {w1 w w':World} {v:Value} {ps:List Zty} (h:Ztz w1 w v ps) (x:Ext w w'):Ztz w1 w' v ps:=⟨h.own.ext x,fun p hp=>Rd.ext (h.nms p hp) x,h.ext.trans x⟩
theorem Ztz.more {w1 w w':World} {v:Value} {ps:List Zty} {p:Zty} {o:Obj} {A:Option Addr} {n c:Nat} (h:Ztz w1 w v ps) (hn:Wq w (fun k=>w1.heap.size≤k∧v.ownBlock≠some k) p.1.2 p.1.1.names) (hg:Grew Zox (w.alloc o) w1.heap.size v (ps++[p]) A n c w'):Ztz w1 w' (.slice A n c) (ps++[p]):=by
 have key:∀ {u:Value} {l:List Nm},Wq w (fun k=>w1.heap.size≤k∧v.ownBlock≠some k) u l→Wq w' (fun k=>w1.heap.size≤k∧(Value.slice A n c).ownBlock≠some k) u l:=fun {u l} a=>by
  have h3:Wq (w.alloc o) (fun k=>(w1.heap.size≤k∧v.ownBlock≠some k)∧k < w.heap.size) u l:=Rd.ext (Rd.mono a fun k hk hl=>⟨hk,hl⟩) ((Yl _).alloc o)
  refine Rd.mono (Rd.chg h3 hg.chg (fun k hk e=>hk.1.2 e)) fun k hk _=>⟨hk.1.1,fun e=>?_⟩
  rcases hg.at_ with h5|h5
  ·exact hk.1.2 (h5.symm.trans e)
  rw [e] at h5
  have h6:=Option.some.inj h5
  have:=hk.2
  simp at h6;omega
 refine ⟨hg.own,fun q hq=>?_,(h.ext.alloc o).chg_new hg.chg (fun k e=>(h.own.lt k e).1)⟩
 rcases Zj.1 hq with hq|hq
 ·exact key (h.nms q hq)
 rw [Zi.1 hq];exact key hn
theorem Ztz.ents {w1 w:World} {v:Value} {ps:List Zty} (h:Ztz w1 w v ps):V7 w (fun k=>w1.heap.size≤k) v (ps.map Subtype.val):=by
 refine ⟨?_,fun p hp=>?_⟩
 ·rw [Zq];exact h.own.rd
 obtain ⟨x,hx,rfl⟩:=List.mem_map.1 hp
 exact Rd.mono (h.nms x hx) fun k hk _=>hk.1
theorem Tb {w:World} {S:Nat→Prop} {v:Value} {l:List Nat} (h:O7 w S v l) {j i:Nat} (hj:l[j]?=some i) :
 ∃ g o c,v=.slice (some ⟨g,o,none⟩) l.length c∧S g∧g < w.heap.size∧w.cell? ⟨g,o+j,none⟩=some (.int .i64 (i:Int)):=by
 obtain ⟨g,o,c,h1,h2,h3,h4,h5,h6⟩:=Rd.at_ h (Zr.1 hj).1
 exact ⟨g,o,c,h1,h4,h5,h6 j _ (by rw [Zn,hj];rfl)⟩
def Dl (os:List Opn) (w:World) (e:Ending) (w':World):Prop:=∃ (v:Value) (ps:List (Ent×Value)),e=.returned v∧V7 w' (fun k=>w.heap.size≤k) v ps∧ps.map Prod.fst=Ee os (Ds os)∧Ext w w'
theorem Fx {S:Nat→Prop} (v:Value) (os:List Opn) (w:World) (ho:OpsAt w S v os) (hn:os.length≤610000000000) (hns:∀ o∈os,o.ns.length * 48≤140737488351232):Calls Tryz.prog 15 #[v] w (Dl os w):=by
 obtain ⟨A,C,rfl⟩:=ho.shape
 obtain ⟨n,hnn⟩:∃ n,os.length=n:=⟨_,rfl⟩
 have Hnn:=Yw hnn
 have Ho:=Yw ho
 have Hns:=Yw hns
 rw [hnn] at hn ⊢
 clear hnn ho hns
 go_enter Tryz.func15,Tryz.ntmps15
 go_wp2_with fail
 refine (Zxs _ os _ (by have:=Ho.out;rwa [Hnn.out] at this) (by rw [Hnn.out];omega)).mono ?_
 rintro e w1 ⟨rv,rfl,hrow,hx1⟩
 obtain ⟨m,hm⟩:∃ m,(Ds os).length=m:=⟨_,rfl⟩
 obtain ⟨Ar,Cr,rfl,hlr,hcr⟩:∃ Ar Cr,rv=.slice Ar m Cr∧m≤Cr∧Cr≤maxLen:=by
  obtain ⟨_,Ar,Cr,h1,h2,h3,_⟩:=hrow
  rw [hm] at h1 h2
  exact ⟨Ar,Cr,h1,h2,h3⟩
 have Hm:=Yw hm
 have Hrow:=Yw hrow
 have Hx1:=Yw hx1
 have hmn:m≤n:=by
  rw [← hm,← Hnn.out]
  exact Ij os
 unfold maxLen at hcr
 clear hrow hx1 hm
 go_wp2_with fail
 go_loopw [10,3] (fun o u wr=>∃ (i:Nat) (ps:List Zty),i≤m∧o=.int .i64 (i:Int)∧Ztz w1 wr u ps∧ps.length≤i∧ps.map (fun p=>p.1.1)=Ee os ((Ds os).take i)) (fun o _ _=>m - (intOf o).toNat)
 case atStart=>exact ⟨0,[],by omega,rfl,⟨Own.nil _ _ _,by simp,Yl _⟩,by simp,by simp [Ee]⟩
 rename World=>wr
 obtain ⟨i,ps,hi,rfl,hS,hpl,hps⟩:=hrel
 obtain ⟨Ao,Co,rfl,hlC,hCm⟩:=hS.own.shape
 obtain ⟨k,hk⟩:∃ k,ps.length=k:=⟨_,rfl⟩
 rw [hk] at hS hpl hlC ⊢
 have Hk:=Yw hk
 have S0:=Yw hS
 have Hps:=Yw hps
 unfold maxLen at hCm
 clear hk hS hps
 by_cases him:i < m
 ·have hd_i:decide ((i:Int) < (m:Int))=true:=Yf (by omega)
  have i0_i:(0:Int)≤(i:Int):=by omega
  have i1_i:(i:Int) < (m:Int):=by omega
  obtain ⟨j,hj⟩:∃ j,(Ds os)[i]?=some j:=⟨(Ds os)[i]'(by rw [Hm.out];exact him),Zz _⟩
  obtain ⟨gr,pr,cr,hvr,_,hgr,cj⟩:=Tb (Rd.ext Hrow.out S0.out.ext) hj
  rw [Hm.out] at hvr
  simp only [Ye,true_and] at hvr
  obtain ⟨rfl,rfl⟩:=hvr
  have hjn:j < n:=by rw [← Hnn.out];exact Bh ((Fm os).mem j |>.1 (Zy hj))
  obtain ⟨o,hoj⟩:∃ o,os[j]?=some o:=⟨os[j]'(by rw [Hnn.out];exact hjn),Zz _⟩
  obtain ⟨g,p,c,hv,hc1,hc2,_,hA,hN⟩:=(Ho.out.ext (Hx1.out.trans S0.out.ext)).get hoj
  rw [Hnn.out] at hv
  simp only [Ye,true_and] at hv
  obtain ⟨rfl,rfl⟩:=hv
  unfold maxLen at hc2
  have HA:=Yw hA
  obtain ⟨nA,nC,hnv⟩:=hN.shape
  have hone:o.nv.oneCell'=true:=by rw [hnv];rfl
  have HN:=Yw hN
  have hns16:=Hns.out o (Zy hoj)
  have Hj:=Yw hj
  have Hoj:=Yw hoj
  have j0:(0:Int)≤(j:Int):=by omega
  have j1:(j:Int) < (n:Int):=by omega
  clear hj hoj hN hnv hA
  go_upto_region 6 with (first|(refine Vg HA.out rfl ?_)|(refine Vn rfl rfl rfl hone ?_))
  have hOp:=Ii wr o
  have hXa:=(Yl wr).alloc (opO o)
  obtain ⟨bo,hbo⟩:∃ x,wr.heap.size=x:=⟨_,rfl⟩
  obtain ⟨W1,hW1⟩:∃ W,wr.alloc (opO o)=W:=⟨_,rfl⟩
  rw [hW1,hbo] at hOp
  rw [hW1] at hXa
  rw [hW1,hbo]
  have S1:=Yw (S0.out.up hXa)
  have N1:=Yw (Rd.ext HN.out hXa)
  have f0:=hOp.2 0 (by omega)
  have f1:=hOp.2 1 (by omega)
  have f2:=hOp.2 2 (by omega)
  have f3:=hOp.2 3 (by omega)
  have f4:=hOp.2 4 (by omega)
  have f15:=hOp.2 15 (by omega)
  have f22:=hOp.2 22 (by omega)
  simp only [opC,Nat.zero_add,Zx,Zw] at f0 f1 f2 f3 f4 f15 f22
  have HO:=Yw hOp
  have hob:=hOp.1
  have Hbo:=Yw hbo
  clear hXa hOp hW1 hbo cj HA hone
  cases h1:(o.bad.e == 0)
  ·have hno:=Yw (show Jr o=none by unfold Jr;rw [h1];rfl)
   go_wp2_with fail
   go_roundw
   case rel=>exact ⟨i+1,ps,by omega,by go_num,by have:=S1.out;exact this,by rw [Hk.out];omega,Uv Hps.out Hj.out Hoj.out hno.out⟩
   case measure=>(simp [intOf];omega)
  cases h2:(o.res.e == 0)
  ·have hno:=Yw (show Jr o=none by unfold Jr;rw [h1,h2];rfl)
   go_wp2_with fail
   go_roundw
   case rel=>exact ⟨i+1,ps,by omega,by go_num,by have:=S1.out;exact this,by rw [Hk.out];omega,Uv Hps.out Hj.out Hoj.out hno.out⟩
   case measure=>(simp [intOf];omega)
  cases h3:(o.op == 7)
  rotate_left
  ·have hno:=Yw (show Jr o=none by unfold Jr;rw [h1,h2,h3];rfl)
   go_wp2_with fail
   go_roundw
   case rel=>exact ⟨i+1,ps,by omega,by go_num,by have:=S1.out;exact this,by rw [Hk.out];omega,Uv Hps.out Hj.out Hoj.out hno.out⟩
   case measure=>(simp [intOf];omega)
  have hyes:=Yw (show Jr o=some ⟨o.cl,o.op,o.ttl,o.res.tick,o.ns⟩ by unfold Jr;rw [h1,h2,h3];rfl)
  go_upto_region 7 with fail
  have hns0:o.ns.length≤3000000000000:=by omega
  refine wp_region_held_drew (S:=fun w'=>OpF w' bo o) (by kernel_rfl) (HO.out.ext (Yl _).drew).f (fun hHeld=>?_)
  have Sd:=Yw (S1.out.up (Yl W1).drew)
  have Od:=Yw (HO.out.ext (Yl W1).drew)
  have Nd:=Yw (Rd.ext N1.out (Yl W1).drew)
  obtain ⟨Wd,hWd⟩:∃ V,W1.drew=V:=⟨_,rfl⟩
  rw [hWd] at Sd Od Nd hHeld
  rw [hWd]
  clear hWd S1 HO N1 f0 f1 f2 f3 f4 f15 f22 hob
  refine Xw [0,1,2,3,4,5,6,7,8,9,10,11] 5 (by rfl) (by kernel_rfl) (by kernel_rfl) (fun _ _ d _ _ h=>by cases d<;>exact h) hHeld ?_
  simp only [Z1,Z2,Z3,Zw,Zx]
  repeat (refine Xu (v:=?_) (by kernel_rfl) ?_ ?_;rotate_left;(focus ((intro wT hST;obtain ⟨h0,h1,h2,h3,h22⟩:=hST;go_simp);(first|done|(with_reducible rfl))));(try simp only [Act.put,Zv,Zu,Zt]))
  refine Xt ?_
  clear hHeld
  refine wpAnyH_ready (rs:=[12]) (by kernel_rfl) (by simp) ?_;refine Ys (o:=_) rfl (fun K hK=>?_) Yr
  refine Bn nmE (Operand.const (Value.slice none 0 0)) (.tmp 44) 49 (by rfl) (by rfl) (by rfl) (by rfl) (Own.nil nmE _ Wd.heap.size) (by rfl) Nd.out (by show 0+_≤maxLen;unfold maxLen;omega) (by show (0+_) * 48≤_;omega) (Yo _) ?_
  intro A5 n5 c5 w5 hg5
  have X5:=Yw (hg5.ext Wd (Yl _) (Yo _))
  have S5:=Yw (Sd.out.up X5.out)
  have O5:=Yw (Od.out.ext X5.out)
  have N5:=Yw (show Wq w5 (fun q=>w1.heap.size≤q∧(Value.slice Ao k Co).ownBlock≠some q) (.slice A5 n5 c5) o.ns from by
   have h7:=hg5.own.rd
   rw [Zo] at h7
   have h8:=hg5.len
   rw [Zo] at h8
   subst h8
   exact Rd.mono h7 fun q hq _=>⟨by have:=Sd.out.ext.size;omega,fun e=>by have:=(Sd.out.own.lt q e).2;omega⟩)
  clear hg5
  refine hK.out _ _ O5.out.f (fun hHeld=>?_)
  clear hK K Sd Od Nd X5
  try simp only [Act.put,Zv,Zu,Zt]
  refine Xw [13] 3 (by rfl) (by kernel_rfl) (by kernel_rfl) (fun _ _ d _ _ h=>by cases d<;>exact h) hHeld ?_
  simp only [Z1,Z2,Z3,Zw,Zx]
  repeat (refine Xu (v:=?_) (by kernel_rfl) ?_ ?_;rotate_left;(focus ((intro wT hST;obtain ⟨h0,h1,h2,h3,h22⟩:=hST;go_simp);(first|done|(with_reducible rfl))));(try simp only [Act.put,Zv,Zu,Zt]))
  refine Xt ?_
  clear hHeld
  refine wpAnyH_ready (rs:=[14]) (by kernel_rfl) (by simp) ?_;refine Ys (o:=_) rfl (fun K hK=>?_) Yr
  go_simp
  refine hK.out _ _ (O5.out.ext ((Yl _).alloc _)).f (fun hHeld=>?_)
  clear hHeld hK K
  try simp only [Act.put,Zv,Zu,Zt]
  refine wpAnyH_ready (rs:=[15]) (by kernel_rfl) (by simp) ?_;refine Ys (o:=_) rfl (fun K hK=>?_) Yr
  refine Bn Zox (.tmp 33) (.tmp 47) 43 (by rfl) (by rfl) (by rfl) (by rfl) (S5.out.own.ext ((Yl _).alloc _)) (by rfl) (Zwh w5 o.cl o.op o.ttl o.res.tick o.ns A5 n5 c5 _ rfl) (by rw [Hk.out];show k+1≤maxLen;unfold maxLen;omega) (by rw [Hk.out];show (k+1) * 56≤_;omega) (by have:=S5.out.ext.size;simp;omega) ?_
  intro A6 n6 c6 w6 hg6
  have S6:=Yw (S5.out.more N5.out hg6)
  have O6:=Yw ((O5.out.ext ((Yl _).alloc _)).chg hg6.chg (fun e=>by have:=(S0.out.own.lt bo e).2;have:=Hbo.out;omega))
  clear hg6
  refine hK.out _ _ O6.out.f (fun hHeld=>?_)
  clear hK K
  try simp only [Act.put,Zv,Zu,Zt]
  refine Xw [16] 0 (by rfl) (by kernel_rfl) (by kernel_rfl) (fun _ _ d _ _ h=>by cases d<;>exact h) hHeld ?_
  simp only [Z1,Z2,Z3,Zw,Zx]
  repeat (refine Xu (v:=?_) (by kernel_rfl) ?_ ?_;rotate_left;(focus ((intro wT hST;obtain ⟨h0,h1,h2,h3,h22⟩:=hST;go_simp);(first|done|(with_reducible rfl))));(try simp only [Act.put,Zv,Zu,Zt]))
  refine Xt ?_
  clear hHeld
  refine wpAnyH_done (by kernel_rfl) ?_ _
  go_wp2_with fail
  go_roundw
  case rel=>exact ⟨i+1,_,by omega,by go_num,S6.out,by rw [Zs,Hk.out];show k+1≤_;omega,by rw [Z9];exact Pf Hps.out Hj.out Hoj.out hyes.out⟩
  case measure=>(simp [intOf];omega)
 have hd_i:decide ((i:Int) < (m:Int))=false:=Yg (by omega)
 obtain rfl:i=m:=by omega
 go_wp2_with fail
 go_ret
 refine ⟨_,_,rfl,V7.mono S0.out.ents (fun k hk=>Nat.le_trans Hx1.out.size hk),?_,Hx1.out.trans S0.out.ext⟩
 rw [List.map_map,← List.take_length (l:=Ds os),Hm.out]
 exact Hps.out
end Go.Proofs.YtnbclgbicnpmnaaGreat
