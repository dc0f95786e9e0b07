/- Lemmas of this claim: Dl, Dm, Dn, Dp, Ds, Dq. Conditions: as named. -/
import Derived.Test.YtnbclgbicnpmnaaGreatA13
import Derived.Test.YtnbclgbicnpmnaaGreatA19
import Derived.Test.YtnbclgbicnpmnaaGreatA20
namespace Go.Proofs.YtnbclgbicnpmnaaGreat
open Go.RowKit Go.Sort
open List renaming getElem?_eq_getElem → Zz, mem_of_getElem? → Zy, getElem?_cons_zero → Zx, getElem?_cons_succ → Zw, setIfInBounds_toArray → Zv, set_cons_zero → Zu, set_cons_succ → Zt, length_append → Zs, getElem?_eq_some_iff → Zr, length_map → Zq, nil_append → Zo, getElem?_map → Zn, length_cons → Zl, length_nil → Zk, not_mem_nil → Zh, mem_cons → Zg, length_set → Zf, getElem?_set_self → Zc, getElem?_set_ne → Zb, filterMap_cons → Z1, filterMap_nil → Z2, getElem?_toArray → Z3, drop_succ_cons → Z4, drop_zero → Z5, take_succ_cons → Z6, take_zero → Z7, length_drop → Z8
open Lib renaming hid → Yw
open Go renaming wpQuiet_step → Yv, wpQuiet_nil → Yu
open AllReadyH renaming cons → Ys, nil → Yr
open Classical renaming choose_spec → Yp
open Nat renaming le_refl → Yo
open Ext renaming refl → Yl
set_option maxHeartbeats 40000000
set_option maxRecDepth 100000
set_option linter.all false
theorem Wo.each {w w':World} {S:Nat→Prop} {T:Tbl} {b n:Nat} {nx:Int} {m:Qq} (h:Wo w S T b m) (hb:¬ S b) (hB:Xs w' b (machC T (Jo m n nx))) (c:Chg (· = b) w w'):Wo w' S T b (Jo m n nx):=by
 refine ⟨hB,?_,?_⟩
 ·have e1:(Jo m n nx).lv=m.lv:=by unfold Jo;split<;>rfl
  have e2:(Jo m n nx).ns=m.ns:=by unfold Jo;split<;>rfl
  rw [e1,e2]
  exact Rd.chg h.ns c (fun _ hk e=>hb (e ▸ hk))
 have e1:(Jo m n nx).rv=m.rv:=by unfold Jo;split<;>rfl
 have e2:(Jo m n nx).rs=m.rs:=by unfold Jo;split<;>rfl
 rw [e1,e2]
 exact Rd.chg h.rs c (fun _ hk e=>hb (e ▸ hk))
theorem V3.lks {w:World} {S:Nat→Prop} {b:Nat} {x:Shr} {v:Value} {l:List Kp} (h:V3 w S b x) (hb:¬ S b) (hl:KeptAt w S v l):V3 (w.setCell ⟨b,4,none⟩ v) S b {x with kv:=v,ks:=l} :=
 ⟨h.cells.set (j:=4) (by show 4 < 6;omega) _,Rd.chg hl ((Chg.refl (· = b) w).setCell (p:=⟨b,4,none⟩) (.inl rfl) _) (fun _ hk e=>hb (e ▸ hk)),Rd.chg h.rs ((Chg.refl (· = b) w).setCell (p:=⟨b,4,none⟩) (.inl rfl) _) (fun _ hk e=>hb (e ▸ hk))⟩
theorem V3.rcs {w:World} {S:Nat→Prop} {b:Nat} {x:Shr} {v:Value} {l:List Kp} (h:V3 w S b x) (hb:¬ S b) (hl:KeptAt w S v l):V3 (w.setCell ⟨b,5,none⟩ v) S b {x with rv:=v,rs:=l} :=
 ⟨h.cells.set (j:=5) (by show 5 < 6;omega) _,Rd.chg h.ks ((Chg.refl (· = b) w).setCell (p:=⟨b,5,none⟩) (.inl rfl) _) (fun _ hk e=>hb (e ▸ hk)),Rd.chg hl ((Chg.refl (· = b) w).setCell (p:=⟨b,5,none⟩) (.inl rfl) _) (fun _ hk e=>hb (e ▸ hk))⟩
theorem Zwk {S:Nat→Prop} (T:Tbl) (mb xb:Nat) (m:Qq) (x:Shr) (w:World) (t:Nat) (hx:XOk t x) (ht:t≤100000) (h:Kx S T mb xb m x w) (hs:m.st=2):Calls Tryz.prog 115 #[.pointer (some ⟨mb,0,none⟩),.pointer (some ⟨xb,0,none⟩)] w (Qc S T mb xb m x w):=by
 have z13:w.cell? ⟨mb,13,none⟩=some (.int .i64 m.st):=h.mach.c 13 rfl
 rw [hs] at z13
 obtain ⟨hn1,hn16,hi0,hi1⟩:=h.mok.n0 (by omega) (by omega)
 obtain ⟨i,hi⟩:∃ i:Nat,m.i=i:=⟨m.i.toNat,by omega⟩
 rw [hi] at hi0 hi1
 obtain ⟨nm,hnm⟩:∃ n,m.ns[i]?=some n:=⟨m.ns[i]'(by omega),Zz _⟩
 obtain ⟨g,o,c,hlv,hl1,hl2,hgS,hg,hcell⟩:=h.mach.ns.get (j:=i) (by omega)
 obtain ⟨a0,a1,a2⟩:=hcell i nm hnm
 obtain ⟨nl,hnl⟩:∃ n,m.ns.length=n:=⟨_,rfl⟩
 rw [hnl] at hn1 hn16 hi1 hlv hl1
 have m17:=lat (h.mach.c 17 rfl:w.cell? ⟨mb,17,none⟩=some m.lv)
 rw [hlv] at m17
 have m27:=lat (h.mach.c 27 rfl:w.cell? ⟨mb,27,none⟩=some (.int .i64 m.i))
 rw [hi] at m27
 have ma2:=lat a2
 have j0:(0:Int)≤(i:Int):=by omega
 have j1:(i:Int) < (nl:Int):=by omega
 have j2:i < nl:=by omega
 have H:=Yw h
 have Hs:=Yw hs
 have Hi:=Yw hi
 have Hnl:=Yw hnl
 have Hlv:=Yw hlv
 have Hnm:=Yw hnm
 have Ha0:=Yw a0
 have Hg:=Yw hg
 have Hxo:=Yw hx
 have Ht:=Yw ht
 clear h hs hi hnl hlv hnm hcell a0 a1 a2 hg hgS hi0 hi1 hl1 hx ht
 go_enter Tryz.func115,Tryz.ntmps115
 go_upto_region 20 with fail
 clear z13
 refine Xd 11 12 (by kernel_rfl) (by omega) (by kernel_rfl) (by kernel_rfl) (by kernel_rfl) ?_
 simp only [Z4,Z5,Z6,Z7]
 repeat ((with_reducible refine Yv ?_);intro K hK;go_simp;(with_reducible refine hK _ ?_);clear hK K)
 (with_reducible refine Yu ?_)
 intro w1 hy1
 have M1:=Yw (H.out.mach.ext hy1)
 have X1:=Yw (H.out.shr.ext hy1)
 have Y1:=Yw hy1
 have z13:w1.cell? ⟨mb,13,none⟩=some (.int .i64 m.st):=M1.out.c 13 rfl
 rw [Hs.out] at z13
 clear hy1 m17 m27 ma2
 go_wp2_with fail
 refine (Zxl xb x nm.k _ X1.out).mono ?_
 rintro e w2 ⟨ov,rfl,hy2⟩
 have M2:=Yw (M1.out.ext hy2)
 have X2:=Yw (X1.out.ext hy2)
 have Y2:=Yw (Y1.out.trans hy2)
 have c12:w2.cell? ⟨mb,12,none⟩=some (.int .i64 m.cl):=M2.out.c 12 rfl
 clear hy2 M1 X1 Y1 z13
 go_upto_region 24 with fail
 go_cut [133] (fun o wq=>∃ q:Bool,o=.bool q∧w2=wq)
 case first =>
  cases d1:decide (0≤ov)
  ·go_wp2_with fail
   go_meet
   exact ⟨_,rfl,rfl⟩
  cases d2:(ov == m.cl)
  all_goals
   go_wp2_with fail
   go_meet
   exact ⟨_,rfl,rfl⟩
 obtain ⟨q,rfl,rfl⟩:=hcut
 cases q with
 | true =>
  go_wp2_with fail
  go_ret
  exact ⟨2,m,x,rfl,M2.out,H.out.mok,X2.out,Y2.out.chg _,fun _ h=>h.up,fun h=>h,fun h=>by rw [Hs.out] at h;omega⟩
 | false =>
  have m12:=lat (M2.out.c 12 rfl:w2.cell? ⟨mb,12,none⟩=some (.int .i64 m.cl))
  have x4:=lat (X2.out.c 4 rfl:w2.cell? ⟨xb,4,none⟩=some x.kv)
  obtain ⟨A,C,hv⟩:=X2.out.ks.shape
  rw [hv] at x4
  have Hk:=Yw (show KeptAt w2 S (.slice A x.ks.length C) x.ks by rw [← hv];exact X2.out.ks)
  have hkl:x.ks.length≤100000:=Nat.le_trans Hxo.out.k Ht.out
  clear hv c12
  go_upto_region 26 with fail
  refine Vv (S:=Lat w2) 12 15 (by kernel_rfl) (by omega) (by kernel_rfl) (by kernel_rfl) ?_
  refine J3 11 1 (by rfl) (by decide) (by kernel_rfl) (by kernel_rfl) (fun _ _ d _ _ h=>by cases d<;>exact h) Lat.drew ?_
  simp only [Z6,Z7]
  repeat (refine Xu (v:=?_) (by kernel_rfl) ?_ ?_;rotate_left;(focus ((rintro wT ⟨pT,rfl⟩;go_simp);(first|done|(with_reducible rfl))));(try simp only [Act.put,Zv,Zu,Zt]))
  refine Xt ?_
  refine wpAnyH_ready (rs:=[11]) (by kernel_rfl) (by simp) ?_;refine Ys (o:=_) rfl (fun K hK=>?_) Yr;go_simp
  refine (Av _ x.ks nm.k ⟨1,m.cl,⟨#[]⟩,0⟩ _ (Rd.ext Hk.out (Yl w2).drew) hkl).mono ?_
  rintro e w6 ⟨v6,rfl,ho6,hx6⟩
  obtain ⟨A6,C6,hv6⟩:=Vw ho6
  subst hv6
  refine hK.out _ _ (Lat.of ((Yl w2).drew.trans hx6)) (fun hHeld=>?_)
  clear hHeld hK K
  refine wpAnyH_done (by kernel_rfl) ?_ _
  simp only [Vq,Z4,Z5]
  have hy6:Ext w2 w6:=(Yl w2).drew.trans hx6
  have M6:=Yw (M2.out.ext hy6)
  have X6:=Yw (X2.out.ext hy6)
  have Y6:=Yw hy6
  have c4:w6.cell? ⟨xb,4,none⟩=some x.kv:=X6.out.c 4 rfl
  have fz:=X6.out.cells.fz
  have X7:=Yw (X6.out.lks H.out.sx (Rd.of_own ho6 (S:=S) fun k hk=>H.out.new k (by have h1:=(ho6.lt k hk).1;have h2:=Y2.out.size;simp at h1;omega)))
  have M7:=Yw (M6.out.far H.out.ne H.out.sx (j:=4) (.slice A6 (Lo x.ks nm.k ⟨1,m.cl,⟨#[]⟩,0⟩).length C6))
  have C7:=Yw ((((Y2.out.trans Y6.out).chg (fun j=>j=mb∨j=xb)).setCell (p:=⟨xb,4,none⟩) (.inl (.inr rfl)) (.slice A6 (Lo x.ks nm.k ⟨1,m.cl,⟨#[]⟩,0⟩).length C6)))
  go_wp2_with fail
  obtain ⟨W7,hW7⟩:∃ W,w6.setCell ⟨xb,4,none⟩ (.slice A6 (Lo x.ks nm.k ⟨1,m.cl,⟨#[]⟩,0⟩).length C6)=W:=⟨_,rfl⟩
  rw [hW7] at M7 X7 C7
  rw [hW7]
  clear hW7 c4 fz ho6 hx6 hy6 M6 X6 Y6
  refine (Dm T mb m 3 _ nl c W7 M7.out.cells Hlv.out (by rw [Hi.out];exact j0) (by rw [Hi.out];exact j1) hn16).mono ?_
  rintro e w8 ⟨rfl,hB8,hC8⟩
  have M8:=Yw (M7.out.each H.out.sm hB8 hC8)
  have X8:=Yw (X7.out.chg hC8 H.out.ne.symm (fun _ hk e=>H.out.sm (e ▸ hk)))
  have C8:=Yw (C7.out.trans (hC8.mono fun _ _ e=>.inl e))
  clear hB8 hC8 M7 X7 C7
  go_wp2_with fail
  go_ret
  refine ⟨1,Jo m nl 3,{x with kv:=.slice A6 (Lo x.ks nm.k ⟨1,m.cl,⟨#[]⟩,0⟩).length C6,ks:=Lo x.ks nm.k ⟨1,m.cl,⟨#[]⟩,0⟩},rfl,M8.out,?_,X8.out,C8.out,fun t h=>⟨h.c0,h.c1,by have:=h.m0;simp only;omega,by have:=h.m1;simp only;omega,by have h1:=h.k;have h2:=Aw x.ks nm.k ⟨1,m.cl,⟨#[]⟩,0⟩;simp only;omega,by have:=h.r;simp only;omega⟩,fun _=>by rw [Hs.out];omega,fun h=>by rw [Hs.out] at h;omega⟩
  have k0:=H.out.mok
  have kr:=(k0.e2 (by rw [Hs.out];omega) (by rw [Hs.out];omega)).1
  have kn:=Hnl.out
  have ks:=Hs.out
  have ki:=Hi.out
  unfold Jo
  split
  ·exact ⟨by simp,by simp,k0.c0,k0.c1,fun _ _=>by simp only;omega,fun h=>by simp at h,fun _=>by simp [kr],fun h=>by simp at h,fun _ h=>by simp at h⟩
  exact ⟨k0.s0,k0.s1,k0.c0,k0.c1,fun _ _=>by simp only;omega,fun h=>by simp only at h;omega,fun h=>by simp only at h;omega,fun h=>by simp only at h;omega,fun _ _=>⟨kr,fun h=>by simp only at h;omega⟩⟩
theorem Zwi {S:Nat→Prop} (T:Tbl) (mb xb:Nat) (m:Qq) (x:Shr) (w:World) (t:Nat) (hx:XOk t x) (ht:t≤100000) (h:Kx S T mb xb m x w) (hs:m.st=6):Calls Tryz.prog 115 #[.pointer (some ⟨mb,0,none⟩),.pointer (some ⟨xb,0,none⟩)] w (Qc S T mb xb m x w):=by
 have z13:w.cell? ⟨mb,13,none⟩=some (.int .i64 m.st):=h.mach.c 13 rfl
 rw [hs] at z13
 obtain ⟨hn1,hn16,hi0,hi1⟩:=h.mok.n0 (by omega) (by omega)
 obtain ⟨i,hi⟩:∃ i:Nat,m.i=i:=⟨m.i.toNat,by omega⟩
 rw [hi] at hi0 hi1
 obtain ⟨nm,hnm⟩:∃ n,m.ns[i]?=some n:=⟨m.ns[i]'(by omega),Zz _⟩
 obtain ⟨g,o,c,hlv,hl1,hl2,hgS,hg,hcell⟩:=h.mach.ns.get (j:=i) (by omega)
 obtain ⟨a0,a1,a2⟩:=hcell i nm hnm
 obtain ⟨nl,hnl⟩:∃ n,m.ns.length=n:=⟨_,rfl⟩
 rw [hnl] at hn1 hn16 hi1 hlv hl1
 have m17:=lat (h.mach.c 17 rfl:w.cell? ⟨mb,17,none⟩=some m.lv)
 rw [hlv] at m17
 have m27:=lat (h.mach.c 27 rfl:w.cell? ⟨mb,27,none⟩=some (.int .i64 m.i))
 rw [hi] at m27
 have ma2:=lat a2
 have j0:(0:Int)≤(i:Int):=by omega
 have j1:(i:Int) < (nl:Int):=by omega
 have j2:i < nl:=by omega
 have H:=Yw h
 have Hs:=Yw hs
 have Hi:=Yw hi
 have Hnl:=Yw hnl
 have Hlv:=Yw hlv
 have Hnm:=Yw hnm
 have Ha0:=Yw a0
 have Hg:=Yw hg
 have Hxo:=Yw hx
 have Ht:=Yw ht
 clear h hs hi hnl hlv hnm hcell a0 a1 a2 hg hgS hi0 hi1 hl1 hx ht
 go_enter Tryz.func115,Tryz.ntmps115
 go_upto_region 20 with fail
 clear z13
 refine Xd 11 12 (by kernel_rfl) (by omega) (by kernel_rfl) (by kernel_rfl) (by kernel_rfl) ?_
 simp only [Z4,Z5,Z6,Z7]
 repeat ((with_reducible refine Yv ?_);intro K hK;go_simp;(with_reducible refine hK _ ?_);clear hK K)
 (with_reducible refine Yu ?_)
 intro w1 hy1
 have M1:=Yw (H.out.mach.ext hy1)
 have X1:=Yw (H.out.shr.ext hy1)
 have Y1:=Yw hy1
 have z13:w1.cell? ⟨mb,13,none⟩=some (.int .i64 m.st):=M1.out.c 13 rfl
 rw [Hs.out] at z13
 clear hy1 m17 m27 ma2
 have x4:=lat (X1.out.c 4 rfl:w1.cell? ⟨xb,4,none⟩=some x.kv)
 obtain ⟨A,C,hv⟩:=X1.out.ks.shape
 rw [hv] at x4
 have Hk:=Yw (show KeptAt w1 S (.slice A x.ks.length C) x.ks by rw [← hv];exact X1.out.ks)
 have hkl:x.ks.length≤100000:=Nat.le_trans Hxo.out.k Ht.out
 have c4:w1.cell? ⟨xb,4,none⟩=some (.slice A x.ks.length C):=by rw [← hv];exact X1.out.c 4 rfl
 clear x4 hv z13
 have z13:w1.cell? ⟨mb,13,none⟩=some (.int .i64 m.st):=M1.out.c 13 rfl
 rw [Hs.out] at z13
 go_wp2_with fail
 refine (Av _ x.ks nm.k ⟨0,0,⟨#[]⟩,0⟩ _ Hk.out hkl).mono ?_
 rintro e w6 ⟨v6,rfl,ho6,hx6⟩
 obtain ⟨A6,C6,hv6⟩:=Vw ho6
 subst hv6
 have hy6:=hx6
 have M6:=Yw (M1.out.ext hy6)
 have X6:=Yw (X1.out.ext hy6)
 have Y6:=Yw hy6
 clear c4
 have c4:w6.cell? ⟨xb,4,none⟩=some x.kv:=X6.out.c 4 rfl
 have fz:=X6.out.cells.fz
 have X7:=Yw (X6.out.lks H.out.sx (Rd.of_own ho6 (S:=S) fun k hk=>H.out.new k (by have h1:=(ho6.lt k hk).1;have h2:=Y1.out.size;omega)))
 have M7:=Yw (M6.out.far H.out.ne H.out.sx (j:=4) (.slice A6 (Lo x.ks nm.k ⟨0,0,⟨#[]⟩,0⟩).length C6))
 have C7:=Yw ((((Y1.out.trans Y6.out).chg (fun j=>j=mb∨j=xb)).setCell (p:=⟨xb,4,none⟩) (.inl (.inr rfl)) (.slice A6 (Lo x.ks nm.k ⟨0,0,⟨#[]⟩,0⟩).length C6)))
 go_wp2_with fail
 obtain ⟨W7,hW7⟩:∃ W,w6.setCell ⟨xb,4,none⟩ (.slice A6 (Lo x.ks nm.k ⟨0,0,⟨#[]⟩,0⟩).length C6)=W:=⟨_,rfl⟩
 rw [hW7] at M7 X7 C7
 rw [hW7]
 clear hW7 c4 fz ho6 hx6 hy6 M6 X6 Y6
 refine (Dm T mb m 7 _ nl c W7 M7.out.cells Hlv.out (by rw [Hi.out];exact j0) (by rw [Hi.out];exact j1) hn16).mono ?_
 rintro e w8 ⟨rfl,hB8,hC8⟩
 have M8:=Yw (M7.out.each H.out.sm hB8 hC8)
 have X8:=Yw (X7.out.chg hC8 H.out.ne.symm (fun _ hk e=>H.out.sm (e ▸ hk)))
 have C8:=Yw (C7.out.trans (hC8.mono fun _ _ e=>.inl e))
 clear hB8 hC8 M7 X7 C7
 go_wp2_with fail
 go_ret
 refine ⟨1,Jo m nl 7,{x with kv:=.slice A6 (Lo x.ks nm.k ⟨0,0,⟨#[]⟩,0⟩).length C6,ks:=Lo x.ks nm.k ⟨0,0,⟨#[]⟩,0⟩},rfl,M8.out,?_,X8.out,C8.out,fun t h=>⟨h.c0,h.c1,by have:=h.m0;simp only;omega,by have:=h.m1;simp only;omega,by have h1:=h.k;have h2:=Aw x.ks nm.k ⟨0,0,⟨#[]⟩,0⟩;simp only;omega,by have:=h.r;simp only;omega⟩,fun _=>by rw [Hs.out];omega,fun h=>by rw [Hs.out] at h;omega⟩
 have k0:=H.out.mok
 have kn:=Hnl.out
 have ks:=Hs.out
 have ki:=Hi.out
 unfold Jo
 split
 ·exact ⟨by simp,by simp,k0.c0,k0.c1,fun _ h=>by simp at h,fun h=>by simp at h,fun h=>by simp at h,fun _ h=>by simp at h,fun _ h=>by simp at h⟩
 exact ⟨k0.s0,k0.s1,k0.c0,k0.c1,fun _ _=>by simp only;omega,fun h=>by simp only at h;omega,fun h=>by simp only at h;omega,fun _ h=>by simp only at h;omega,fun _ h=>by simp only at h;omega⟩
theorem Zvr (l:List Rc):∀ u∈Lt l,u.oneCell'=true:=fun u hu=>by
 obtain ⟨r,_,h⟩:=List.mem_flatMap.1 hu
 simp only [Rc.cells,Zg,Zh,or_false] at h
 rcases h with rfl|rfl|rfl|rfl<;>rfl
noncomputable def rcE:Enc Rc where
 ty:=51
 sl:=25
 z:=4
 bytes:=40
 cells l:=Lt l
 app a b:=by simp [Lt]
 len l:=Zxv l
 one l:=Zvr l
 und:=Zta
 i:=Classical.choose (info_parts Gm)
 zero:=.agg #[.int .i64 0,.int .i64 0,.string ⟨#[]⟩,.int .i64 0]
 info:=(Yp (info_parts Gm)).1
 hz:=(Yp (info_parts Gm)).2.1
 hs:=(Yp (info_parts Gm)).2.2.1
 hb:=(Yp (info_parts Gm)).2.2.2
 hc:=rfl
 pos:=by omega
theorem Zor (w:World) (r:Rc) (t:TypeId) (g:Nat) (hg:w.heap.size=g):RdE rcE (w.alloc (.cells #[.int .i64 r.st,.int .i64 r.ow,.string r.nm,.int .i64 r.dl] t)) (fun _=>True) (.slice (some ⟨g,0,none⟩) 1 1) [r]:=by
 subst hg
 exact Qo w #[.int .i64 r.st,.int .i64 r.ow,.string r.nm,.int .i64 r.dl] t 4 rfl
theorem Wo.rcv {w:World} {S:Nat→Prop} {T:Tbl} {b:Nat} {m:Qq} {v:Value} {l:List Rc} (h:Wo w S T b m) (hb:¬ S b) (hl:Lj w S v l):Wo (w.setCell ⟨b,18,none⟩ v) S T b {m with rv:=v,rs:=l} :=
 ⟨h.cells.set (j:=18) (by show 18 < 28;omega) _,Rd.chg h.ns ((Chg.refl (· = b) w).setCell (p:=⟨b,18,none⟩) (.inl rfl) _) (fun _ hk e=>hb (e ▸ hk)),Rd.chg hl ((Chg.refl (· = b) w).setCell (p:=⟨b,18,none⟩) (.inl rfl) _) (fun _ hk e=>hb (e ▸ hk))⟩
theorem Zzq {S:Nat→Prop} (T:Tbl) (mb xb:Nat) (m:Qq) (x:Shr) (w:World) (t:Nat) (hx:XOk t x) (ht:t≤100000) (h:Kx S T mb xb m x w) (hs:m.st=5):Calls Tryz.prog 115 #[.pointer (some ⟨mb,0,none⟩),.pointer (some ⟨xb,0,none⟩)] w (Qc S T mb xb m x w):=by
 have z13:w.cell? ⟨mb,13,none⟩=some (.int .i64 m.st):=h.mach.c 13 rfl
 rw [hs] at z13
 obtain ⟨hn1,hn16,hi0,hi1⟩:=h.mok.n0 (by omega) (by omega)
 obtain ⟨i,hi⟩:∃ i:Nat,m.i=i:=⟨m.i.toNat,by omega⟩
 rw [hi] at hi0 hi1
 obtain ⟨nm,hnm⟩:∃ n,m.ns[i]?=some n:=⟨m.ns[i]'(by omega),Zz _⟩
 obtain ⟨g,o,c,hlv,hl1,hl2,hgS,hg,hcell⟩:=h.mach.ns.get (j:=i) (by omega)
 obtain ⟨a0,a1,a2⟩:=hcell i nm hnm
 obtain ⟨nl,hnl⟩:∃ n,m.ns.length=n:=⟨_,rfl⟩
 rw [hnl] at hn1 hn16 hi1 hlv hl1
 have m17:=lat (h.mach.c 17 rfl:w.cell? ⟨mb,17,none⟩=some m.lv)
 rw [hlv] at m17
 have m27:=lat (h.mach.c 27 rfl:w.cell? ⟨mb,27,none⟩=some (.int .i64 m.i))
 rw [hi] at m27
 have ma2:=lat a2
 have j0:(0:Int)≤(i:Int):=by omega
 have j1:(i:Int) < (nl:Int):=by omega
 have j2:i < nl:=by omega
 have H:=Yw h
 have Hs:=Yw hs
 have Hi:=Yw hi
 have Hnl:=Yw hnl
 have Hlv:=Yw hlv
 have Hnm:=Yw hnm
 have Ha0:=Yw a0
 have Hg:=Yw hg
 have Hxo:=Yw hx
 have Ht:=Yw ht
 clear h hs hi hnl hlv hnm hcell a0 a1 a2 hg hgS hi0 hi1 hl1 hx ht
 go_enter Tryz.func115,Tryz.ntmps115
 go_upto_region 20 with fail
 clear z13
 refine Xd 11 12 (by kernel_rfl) (by omega) (by kernel_rfl) (by kernel_rfl) (by kernel_rfl) ?_
 simp only [Z4,Z5,Z6,Z7]
 repeat ((with_reducible refine Yv ?_);intro K hK;go_simp;(with_reducible refine hK _ ?_);clear hK K)
 (with_reducible refine Yu ?_)
 intro w1 hy1
 have M1:=Yw (H.out.mach.ext hy1)
 have X1:=Yw (H.out.shr.ext hy1)
 have Y1:=Yw hy1
 have z13:w1.cell? ⟨mb,13,none⟩=some (.int .i64 m.st):=M1.out.c 13 rfl
 rw [Hs.out] at z13
 clear hy1 m17 m27 ma2
 obtain ⟨A,C,hv⟩:=X1.out.rs.shape
 have x5:=lat (X1.out.c 5 rfl:w1.cell? ⟨xb,5,none⟩=some x.rv)
 rw [hv] at x5
 have Hk:=Yw (show KeptAt w1 S (.slice A x.rs.length C) x.rs by rw [← hv];exact X1.out.rs)
 have hkl:x.rs.length≤100000:=Nat.le_trans Hxo.out.r Ht.out
 have hrl:m.rs.length=nl:=by rw [H.out.mok.r4 (by rw [Hs.out];omega) (by rw [Hs.out];omega)];exact Hnl.out
 obtain ⟨r,hr⟩:∃ r,m.rs[i]?=some r:=⟨m.rs[i]'(by rw [hrl];exact j2),Zz _⟩
 obtain ⟨gr,pr,cr,hrv,_,_,_,r0,r1,r2,r3⟩:=Up M1.out.rs hr
 rw [hrl] at hrv
 obtain ⟨rst,row,rnm,rdl⟩:=r
 have k0:=lat r0
 have k1:=lat r1
 have k2:=lat r2
 have k3:=lat r3
 have m12:=lat (M1.out.c 12 rfl:w1.cell? ⟨mb,12,none⟩=some (.int .i64 m.cl))
 have m15:=lat (M1.out.c 15 rfl:w1.cell? ⟨mb,15,none⟩=some (.int .i64 m.op))
 have m16:=lat (M1.out.c 16 rfl:w1.cell? ⟨mb,16,none⟩=some (.int .i64 m.ttl))
 have m17:=lat (M1.out.c 17 rfl:w1.cell? ⟨mb,17,none⟩=some m.lv)
 rw [Hlv.out] at m17
 have m18:=lat (M1.out.c 18 rfl:w1.cell? ⟨mb,18,none⟩=some m.rv)
 rw [hrv] at m18
 have m26:=lat (M1.out.c 26 rfl:w1.cell? ⟨mb,26,none⟩=some (.int .i64 m.ans.tick))
 have m27:=lat (M1.out.c 27 rfl:w1.cell? ⟨mb,27,none⟩=some (.int .i64 m.i))
 rw [Hi.out] at m27
 have ma0:=lat ((Y1.out.cell (p:=⟨g,o+i * 3,none⟩) Hg.out).trans Ha0.out)
 clear hv hrv r0 r1 r2 r3 hr hrl
 simp only at k0 k1 k2 k3
 go_upto_region 32 with fail
 refine Vv (S:=Lat w1) 47 50 (by kernel_rfl) (by omega) (by kernel_rfl) (by kernel_rfl) ?_
 refine J3 45 2 (by rfl) (by decide) (by kernel_rfl) (by kernel_rfl) (fun _ _ d _ _ h=>by cases d<;>exact h) Lat.drew ?_
 simp only [Z6,Z7]
 repeat (refine Xu (v:=?_) (by kernel_rfl) ?_ ?_;rotate_left;(focus ((rintro wT ⟨pT,rfl⟩;go_simp);(first|done|(with_reducible rfl))));(try simp only [Act.put,Zv,Zu,Zt]))
 refine Xt ?_
 refine wpAnyH_ready (rs:=[45]) (by kernel_rfl) (by simp) ?_;refine Ys (o:=_) rfl (fun K hK=>?_) Yr;go_simp
 refine (Ce _ _ _ _ _ _ _ _ _).mono ?_
 rintro e w5 ⟨rfl,hx5⟩
 refine hK.out _ _ (Lat.of ((Yl w1).drew.trans hx5)) (fun hHeld=>?_)
 clear hHeld hK K
 try simp only [Act.put,Zv,Zu,Zt]
 refine wpAnyH_ready (rs:=[46]) (by kernel_rfl) (by simp) ?_;refine Ys (o:=_) rfl (fun K hK=>?_) Yr;go_simp
 refine (Av _ x.rs nm.k ⟨Oy rst m.op,Nh row m.op m.cl,N9 rnm m.op nm.a,Nw rdl m.op (IntKind.i64.wrap (m.ans.tick+m.ttl))⟩ _ (Rd.ext Hk.out ((Yl w1).drew.trans hx5)) hkl).mono ?_
 rintro e w6 ⟨v6,rfl,ho6,hx6⟩
 obtain ⟨A6,C6,hv6⟩:=Vw ho6
 subst hv6
 obtain ⟨R,hR⟩:∃ R:Rc,⟨Oy rst m.op,Nh row m.op m.cl,N9 rnm m.op nm.a,Nw rdl m.op (IntKind.i64.wrap (m.ans.tick+m.ttl))⟩=R:=⟨_,rfl⟩
 rw [hR] at ho6 ⊢
 refine hK.out _ _ (Lat.of (((Yl w1).drew.trans hx5).trans hx6)) (fun hHeld=>?_)
 clear hHeld hK K hR
 refine wpAnyH_done (by kernel_rfl) ?_ _
 simp only [Vq,Z4,Z5]
 have hy6:Ext w1 w6:=((Yl w1).drew.trans hx5).trans hx6
 have hs5:=((Yl w1).drew.trans hx5).size
 have M6:=Yw (M1.out.ext hy6)
 have X6:=Yw (X1.out.ext hy6)
 have Y6:=Yw hy6
 have c5:w6.cell? ⟨xb,5,none⟩=some x.rv:=X6.out.c 5 rfl
 have fz:=X6.out.cells.fz
 have X7:=Yw (X6.out.rcs H.out.sx (Rd.of_own ho6 (S:=S) fun k hk=>H.out.new k (by have h1:=(ho6.lt k hk).1;have h2:=Y1.out.size;omega)))
 clear hs5 hx5 x5 k0 k1 k2 k3 m12 m15 m16 m17 m18 m26 m27 ma0
 have M7:=Yw (M6.out.far H.out.ne H.out.sx (j:=5) (.slice A6 (Lo x.rs nm.k R).length C6))
 have C7:=Yw ((((Y1.out.trans Y6.out).chg (fun j=>j=mb∨j=xb)).setCell (p:=⟨xb,5,none⟩) (.inl (.inr rfl)) (.slice A6 (Lo x.rs nm.k R).length C6)))
 go_wp2_with fail
 obtain ⟨W7,hW7⟩:∃ W,w6.setCell ⟨xb,5,none⟩ (.slice A6 (Lo x.rs nm.k R).length C6)=W:=⟨_,rfl⟩
 rw [hW7] at M7 X7 C7
 rw [hW7]
 clear hW7 c5 fz ho6 hx6 hy6 M6 X6 Y6
 refine (Dm T mb m 6 _ nl c W7 M7.out.cells Hlv.out (by rw [Hi.out];exact j0) (by rw [Hi.out];exact j1) hn16).mono ?_
 rintro e w8 ⟨rfl,hB8,hC8⟩
 have M8:=Yw (M7.out.each H.out.sm hB8 hC8)
 have X8:=Yw (X7.out.chg hC8 H.out.ne.symm (fun _ hk e=>H.out.sm (e ▸ hk)))
 have C8:=Yw (C7.out.trans (hC8.mono fun _ _ e=>.inl e))
 clear hB8 hC8 M7 X7 C7
 go_wp2_with fail
 go_ret
 refine ⟨1,Jo m nl 6,{x with rv:=.slice A6 (Lo x.rs nm.k R).length C6,rs:=Lo x.rs nm.k R},rfl,M8.out,?_,X8.out,C8.out,fun t h=>⟨h.c0,h.c1,by have:=h.m0;simp only;omega,by have:=h.m1;simp only;omega,by have:=h.k;simp only;omega,by have h1:=h.r;have h2:=Aw x.rs nm.k R;simp only;omega⟩,fun _=>by rw [Hs.out];omega,fun h=>by rw [Hs.out] at h;omega⟩
 have k0:=H.out.mok
 have kr:=k0.r4 (by rw [Hs.out];omega) (by rw [Hs.out];omega)
 have kn:=Hnl.out
 have ks:=Hs.out
 have ki:=Hi.out
 unfold Jo
 split
 ·exact ⟨by simp,by simp,k0.c0,k0.c1,fun _ _=>by simp only;omega,fun h=>by simp at h,fun h=>by simp at h,fun _ h=>by simp at h,fun _ h=>by simp at h⟩
 exact ⟨k0.s0,k0.s1,k0.c0,k0.c1,fun _ _=>by simp only;omega,fun h=>by simp only at h;omega,fun h=>by simp only at h;omega,fun _ _=>kr,fun _ h=>by simp only at h;omega⟩
theorem Zu7 {S:Nat→Prop} (T:Tbl) (mb xb:Nat) (m:Qq) (x:Shr) (w:World) (t:Nat) (hx:XOk t x) (ht:t≤100000) (h:Kx S T mb xb m x w) (hs:m.st=3):Calls Tryz.prog 115 #[.pointer (some ⟨mb,0,none⟩),.pointer (some ⟨xb,0,none⟩)] w (Qc S T mb xb m x w):=by
 have z13:w.cell? ⟨mb,13,none⟩=some (.int .i64 m.st):=h.mach.c 13 rfl
 rw [hs] at z13
 obtain ⟨hn1,hn16,hi0,hi1⟩:=h.mok.n0 (by omega) (by omega)
 obtain ⟨i,hi⟩:∃ i:Nat,m.i=i:=⟨m.i.toNat,by omega⟩
 rw [hi] at hi0 hi1
 obtain ⟨nm,hnm⟩:∃ n,m.ns[i]?=some n:=⟨m.ns[i]'(by omega),Zz _⟩
 obtain ⟨g,o,c,hlv,hl1,hl2,hgS,hg,hcell⟩:=h.mach.ns.get (j:=i) (by omega)
 obtain ⟨a0,a1,a2⟩:=hcell i nm hnm
 obtain ⟨nl,hnl⟩:∃ n,m.ns.length=n:=⟨_,rfl⟩
 rw [hnl] at hn1 hn16 hi1 hlv hl1
 have m17:=lat (h.mach.c 17 rfl:w.cell? ⟨mb,17,none⟩=some m.lv)
 rw [hlv] at m17
 have m27:=lat (h.mach.c 27 rfl:w.cell? ⟨mb,27,none⟩=some (.int .i64 m.i))
 rw [hi] at m27
 have ma2:=lat a2
 have j0:(0:Int)≤(i:Int):=by omega
 have j1:(i:Int) < (nl:Int):=by omega
 have j2:i < nl:=by omega
 have H:=Yw h
 have Hs:=Yw hs
 have Hi:=Yw hi
 have Hnl:=Yw hnl
 have Hlv:=Yw hlv
 have Hnm:=Yw hnm
 have Ha0:=Yw a0
 have Hg:=Yw hg
 have Hxo:=Yw hx
 have Ht:=Yw ht
 clear h hs hi hnl hlv hnm hcell a0 a1 a2 hg hgS hi0 hi1 hl1 hx ht
 go_enter Tryz.func115,Tryz.ntmps115
 go_upto_region 20 with fail
 clear z13
 refine Xd 11 12 (by kernel_rfl) (by omega) (by kernel_rfl) (by kernel_rfl) (by kernel_rfl) ?_
 simp only [Z4,Z5,Z6,Z7]
 repeat ((with_reducible refine Yv ?_);intro K hK;go_simp;(with_reducible refine hK _ ?_);clear hK K)
 (with_reducible refine Yu ?_)
 intro w1 hy1
 have M1:=Yw (H.out.mach.ext hy1)
 have X1:=Yw (H.out.shr.ext hy1)
 have Y1:=Yw hy1
 have z13:w1.cell? ⟨mb,13,none⟩=some (.int .i64 m.st):=M1.out.c 13 rfl
 rw [Hs.out] at z13
 clear hy1 m17 m27 ma2
 obtain ⟨_,Ar,Cr,hrv,hrl1,hrl2,_⟩:=id M1.out.rs
 obtain ⟨nr,hnr⟩:∃ n,m.rs.length=n:=⟨_,rfl⟩
 have hr3:=H.out.mok.r3 Hs.out
 rw [hnr] at hr3
 have hri:nr=i:=by have:=Hi.out;omega
 have hrs:=M1.out.rs
 rw [hrv] at hrs
 rw [hnr] at hrv hrs
 have m18:w1.cell? ⟨mb,18,none⟩=some m.rv:=M1.out.c 18 rfl
 rw [hrv] at m18
 have Hrs:=Yw hrs
 have Hnr:=Yw hnr
 have Hri:=Yw hri
 clear hrv hrl1 hrl2 hnr hr3 hrs hri
 go_wp2_with (at_builtin;refine Xx rcE _ _ _ rfl rfl rfl rfl (Own.nil rcE _ w1.heap.size) rfl Hrs.out (by rw [Hnr.out];show 0+nr≤_;have:=Hri.out;omega) (by show 40≤1000;omega) (Yo _) ?_;intro A5 n5 c5 w5 hg5;have G5:=Yw hg5;have Y5:=Yw (hg5.ext w1 (Yl w1) (Yo _));have N5:=Yw (show n5=nr by rw [hg5.len,Zo];exact Hnr.out);clear hg5)
 refine (Zul xb x nm.k _ (X1.out.ext Y5.out)).mono ?_
 rintro e w6 ⟨rfl,hx6⟩
 obtain ⟨R,hR⟩:∃ R,Ib x.rs nm.k=R:=⟨_,rfl⟩
 rw [hR]
 clear hR
 have Y6:=Yw (Y5.out.trans hx6)
 have O6:=Yw (G5.out.own.ext hx6)
 have hs6:=Y6.out.size
 clear hx6 Y5
 unfold rcV
 go_upto_region 30 with (first
  | (at_builtin;refine Xx rcE _ _ _ rfl rfl rfl rfl (O6.out.ext ((Yl _).alloc _)) rfl (Zor w6 R _ _ rfl) (by rw [Zo,Hnr.out];show nr+1≤_;have:=Hri.out;omega) (by show 40≤1000;omega) (by simp;omega) ?_;intro A7 n7 c7 w7 hg7;have G7:=Yw hg7;have Y7:=Yw (hg7.ext w1 (Y6.out.alloc _) (Yo _));have c18:w7.cell? ⟨mb,18,none⟩=some m.rv:=(M1.out.ext Y7.out).c 18 rfl;have fz:=(M1.out.ext Y7.out).cells.fz;clear hg7))
 obtain ⟨L,hL⟩:∃ L,m.rs++[R]=L:=⟨_,rfl⟩
 have Hn7:=Yw (show n7=L.length by rw [G7.out.len,Zo,hL])
 have hlen:L.length=i+1:=by rw [← hL,Zs,Hnr.out,Hri.out];rfl
 have hrs7:Lj w7 S (.slice A7 n7 c7) L:=by
  have h7:=G7.out.own.rd
  rw [Zo,hL] at h7
  exact Rd.mono h7 fun k hk _=>H.out.new k (Nat.le_trans Y1.out.size hk)
 have M7:=Yw ((M1.out.ext Y7.out).rcv H.out.sm hrs7)
 have X7:=Yw ((X1.out.ext Y7.out).far (j:=18) H.out.ne.symm H.out.sm (.slice A7 n7 c7))
 have C7:=Yw (((Y1.out.trans Y7.out).chg (fun j=>j=mb∨j=xb)).setCell (p:=⟨mb,18,none⟩) (.inl (.inl rfl)) (.slice A7 n7 c7))
 obtain ⟨W7,hW7⟩:∃ W,w7.setCell ⟨mb,18,none⟩ (.slice A7 n7 c7)=W:=⟨_,rfl⟩
 rw [hW7] at M7 X7 C7
 rw [hW7]
 have Hlen:=Yw hlen
 clear hW7 hrs7 hlen hL c18 fz G7 Y7 O6 Y6 M1 X1 Y1 z13 m18
 go_wp2_with fail
 refine (Dm T mb {m with rv:=.slice A7 n7 c7,rs:=L} 4 _ nl c W7 M7.out.cells Hlv.out (by show 0≤m.i;rw [Hi.out];exact j0) (by show m.i < nl;rw [Hi.out];exact j1) hn16).mono ?_
 rintro e w8 ⟨rfl,hB8,hC8⟩
 have M8:=Yw (M7.out.each H.out.sm hB8 hC8)
 have X8:=Yw (X7.out.chg hC8 H.out.ne.symm (fun _ hk e=>H.out.sm (e ▸ hk)))
 have C8:=Yw (C7.out.trans (hC8.mono fun _ _ e=>.inl e))
 clear hB8 hC8 M7 X7 C7
 go_wp2_with fail
 go_ret
 refine ⟨1,Jo {m with rv:=.slice A7 n7 c7,rs:=L} nl 4,x,rfl,M8.out,?_,X8.out,C8.out,fun t h=>h.up,fun _=>by rw [Hs.out];omega,fun h=>by rw [Hs.out] at h;omega⟩
 have k0:=H.out.mok
 have kn:=Hnl.out
 have ks:=Hs.out
 have ki:=Hi.out
 have kl:=Hlen.out
 unfold Jo
 split
 ·rename_i e
  replace e:m.i+1=nl:=e
  exact ⟨by simp,by simp,k0.c0,k0.c1,fun _ _=>by simp only;omega,fun _=>rfl,fun h=>by simp at h,fun _ _=>by simp only;omega,fun _ h=>by simp at h⟩
 rename_i e
 replace e:¬ m.i+1=nl:=e
 exact ⟨k0.s0,k0.s1,k0.c0,k0.c1,fun _ _=>by simp only;omega,fun h=>by simp only at h;omega,fun _=>by simp only;omega,fun h=>by simp only at h;omega,fun _ h=>by simp only at h;omega⟩
theorem Tp {ops:Array Oper} {S:World→Prop} {Q:Act→Prop} {l:List Oper} {dst:Option Nat} {x:Operand} {t:TypeId} {pos:String} {af:Array Edge} {gd:Option (Nat×Bool)} {a:Act} {b:Nat} {T:Tbl}
 (hw:Region.wanted {dst:=dst,op:=.load 34 x,type:=t,pos:=pos,after:=af,guard:=gd} (yielded ops a.tmps)=true) (hx:a.eval x=.pointer (some ⟨b,0,none⟩)) (hS:∀ w',S w'→Q9 w' b T)
 (hK:J8 Tryz.prog ops S Q l (a.put dst (Wc T))):J8 Tryz.prog ops S Q ({dst:=dst,op:=.load 34 x,type:=t,pos:=pos,after:=af,guard:=gd}::l) a:=by
 refine ⟨Wc T,.inl ⟨hw,fun w' hc=>?_⟩,hK⟩
 unfold execOp
 simp only [hx,Sem.run_bind,Ztq (hS w' hc),Result.andThen_ok,Sem.run_pure]
theorem Ug {P:Program} {ops:Array Oper} {op:Oper} {a:Act} {w:World} {K:Act→World→Prop} {Q:Exit→Act→World→Prop} {F:Prop} (hgd:op.guard=none) (ty:TypeId) (x y:Operand) (ho:op.op=.store ty x y)
 (b o:Nat) (cells:Array Value) (hx:a.eval x=.pointer (some ⟨b,o,none⟩)) (hy:a.eval y=.agg cells) (ht:w.there b o cells.size) (hi:(P.info? ty).map (·.size)=some cells.size) (h1:cells.all (·.oneCell')=true)
 (h:K (a.put op.dst undef) (w.setCells b o cells.toList)):if Region.wanted op (yielded ops a.tmps)=true then op.wp P a w K Q else F:=by
 rw [if_pos (by simp [Region.wanted,hgd])]
 exact wp_store_mid ty x y ho b o cells hx hy ht hi h1 h
theorem Gg (R:Zy1):(Wk R).toArray.all (·.oneCell')=true:=by simp [Wk,Value.oneCell']
theorem Wo.box {w:World} {S:Nat→Prop} {T:Tbl} {b:Nat} {m:Qq} (h:Wo w S T b m):Q9 w b T:=Zu2 h.cells
theorem Wo.nmv {w:World} {S:Nat→Prop} {T:Tbl} {b:Nat} {m:Qq} {v:Value} {l:List Nm} (h:Wo w S T b m) (hb:¬ S b) (hl:Wq w S v l):Wo (w.setCell ⟨b,17,none⟩ v) S T b {m with lv:=v,ns:=l} :=
 ⟨h.cells.set (j:=17) (by show 17 < 28;omega) _,Rd.chg hl ((Chg.refl (· = b) w).setCell (p:=⟨b,17,none⟩) (.inl rfl) _) (fun _ hk e=>hb (e ▸ hk)),Rd.chg h.rs ((Chg.refl (· = b) w).setCell (p:=⟨b,17,none⟩) (.inl rfl) _) (fun _ hk e=>hb (e ▸ hk))⟩
def Zzm (S:Nat→Prop) (T:Tbl) (mb:Nat) (m:Qq) (w:World) (e:Ending) (w':World):Prop :=
 ∃ (s:Int) (m':Qq),e=.returned (.int .i64 s)∧Wo w' S T mb m'∧Chg (· = mb) w w'∧m'.cl=m.cl∧m'.i=m.i∧m'.rs=m.rs∧((s=3∧m'.st=7)∨(s=1∧m'.st=2∧1≤m'.ns.length∧m'.ns.length≤16))
theorem Zz0 {S:Nat→Prop} (T:Tbl) (hf:Few T) (hu:Uq T) (mb:Nat) (m:Qq) (w:World) (h:Wo w S T mb m) (hm:¬ S mb) (hT:Xm w S T) (hn:∀ k,w.heap.size≤k→S k):Calls Tryz.prog 149 #[.pointer (some ⟨mb,0,none⟩)] w (Zzm S T mb m w):=by
 have c14:w.cell? ⟨mb,14,none⟩=some (.string m.text):=h.c 14 rfl
 have H:=Yw h
 have Hm:=Yw hm
 have HT:=Yw hT
 have Hn:=Yw hn
 have Hf:=Yw hf
 have Hu:=Yw hu
 clear h hm hT hn hf hu
 go_enter Tryz.func149,Tryz.ntmps149
 go_wp2_with fail
 refine (parse_any m.text _).mono ?_
 rintro e w2 ⟨op,ttl,v,l,er,rfl,hl,hx2⟩
 obtain ⟨A,C,rfl,_,_⟩:=hl.shape
 obtain ⟨n,hn⟩:∃ n,l.length=n:=⟨_,rfl⟩
 have Hl:=Yw hl
 have Hnn:=Yw hn
 rw [hn]
 clear hn hl c14
 go_upto_if 14 with fail
 have hr:=Xs.new w2 #[.int .i64 op,.int .i64 ttl,.slice A n C] 168
 have hy:=hx2.alloc (.cells #[.int .i64 op,.int .i64 ttl,.slice A n C] 168)
 have hxa:=(Yl w2).alloc (.cells #[.int .i64 op,.int .i64 ttl,.slice A n C] 168)
 obtain ⟨W3,hW3⟩:∃ W,w2.alloc (.cells #[.int .i64 op,.int .i64 ttl,.slice A n C] 168)=W:=⟨_,rfl⟩
 obtain ⟨rb,hrb⟩:∃ x,w2.heap.size=x:=⟨_,rfl⟩
 have hrm:rb≠mb:=by have h1:=H.out.cells.lt;have h2:=hx2.size;omega
 rw [hW3] at hr hy hxa
 rw [hrb] at hr
 rw [hW3,hrb]
 have HR:=Yw hr
 have Y3:=Yw hy
 have L3:=Yw (show RdE Wr W3 (fun _=>True) (.slice A n C) l by have:=Hl.out.ext hxa;rwa [Hnn.out] at this)
 have HMR:=Yw hrm
 clear hr hy hxa hW3 hrb hx2 hrm Hl
 go_cut [] (fun wq=>∃ m1:Qq,Wo wq S T mb m1∧Chg (· = mb) W3 wq∧m1.cl=m.cl∧m1.i=m.i∧m1.rs=m.rs∧(m1.ans.e=0→1≤m1.ns.length∧m1.ns.length≤16))
 case first =>
  have M3:=Yw (H.out.ext Y3.out)
  have hth:=M3.out.cells.there (o:=19) (n:=8) (by show 19+8≤28;omega)
  cases e1:(er == 0)
  ·go_wp2_with (refine wpList_store_mid rfl _ _ _ rfl mb 19 (Wk ⟨er,-1,⟨#[]⟩,⟨0,0,⟨#[]⟩,0⟩,0⟩).toArray rfl rfl hth (by rw [Ji];rfl) (Gg _) ?_)
   go_meet
   exact ⟨_,M3.out.ans Hm.out ⟨er,-1,⟨#[]⟩,⟨0,0,⟨#[]⟩,0⟩,0⟩,Xl (S:=(· = mb)) (.inl rfl) (Chg.refl _ _),rfl,rfl,rfl,fun h=>by simp only at h;simp [h] at e1⟩
  go_upto_region 4 with fail
  refine wp_region_held_drew (S:=fun w'=>Q9 w' mb T∧w'.cell? ⟨rb,2,none⟩=some (.slice A n C)∧True) (by kernel_rfl) ?_ (fun hHeld=>?_)
  ·exact ⟨(M3.out.ext (Yl W3).drew).box,HR.out.drew.at_ 2 (by simp),trivial⟩
  refine Xw [0,1,2,3,4,5,6,7] 11 (by rfl) (by kernel_rfl) (by kernel_rfl) (fun _ _ d _ _ h=>by cases d<;>exact h) hHeld ?_
  simp only [Z1,Z2,Z3,Zw,Zx]
  repeat (first|((with_reducible refine Tp (by kernel_rfl) rfl (fun _ h=>h.1) ?_);(try simp only [Act.put,Zv,Zu,Zt]))|(refine Xu (v:=?_) (by kernel_rfl) ?_ ?_;rotate_left;(focus ((intro wT hST;obtain ⟨hS0,hS1,hS2⟩:=hST;go_simp);(first|done|(with_reducible rfl))));(try simp only [Act.put,Zv,Zu,Zt])))
  refine Xt ?_
  clear hHeld
  refine wpAnyH_ready (rs:=[8]) (by kernel_rfl) (by simp) ?_;refine Ys (o:=_) rfl (fun K hK=>?_) Yr;go_simp
  refine (Ztr T Hf.out Hu.out _ l _ ((HT.out.up Y3.out).up (Yl W3).drew) (Rd.ext L3.out (Yl W3).drew)).mono ?_
  rintro e w5 ⟨nv,av,ns,r,rfl,hns,hlen,hone,hx5⟩
  have Y5:=Yw ((Yl W3).drew.trans hx5)
  have M5:=Yw (M3.out.ext Y5.out)
  have R5:=Yw (HR.out.ext Y5.out)
  have N5:=Yw (show Wq w5 S nv ns from Rd.mono hns fun k hk _=>Hn.out k (Nat.le_trans Y3.out.size hk))
  obtain ⟨An,Cn,rfl⟩:=hns.shape
  have Hlen:=Yw hlen
  refine hK.out _ _ ⟨M5.out.box,R5.out.at_ 2 (by simp),trivial⟩ (fun hHeld=>?_)
  clear hK K hx5 hns hlen hone hth
  try simp only [Act.put,Zv,Zu,Zt]
  refine Xw [9,10,11,12,13,14] 4 (by rfl) (by kernel_rfl) (by kernel_rfl) (fun _ _ d _ _ h=>by cases d<;>exact h) hHeld ?_
  simp only [Z1,Z2,Z3,Zw,Zx]
  repeat (refine Xu (v:=?_) (by kernel_rfl) ?_ ?_;rotate_left;(focus ((intro wT hST;obtain ⟨hS0,hS1,hS2⟩:=hST;go_simp);(first|done|(with_reducible rfl))));(try simp only [Act.put,Zv,Zu,Zt]))
  refine Xt ?_
  clear hHeld
  have c17:w5.cell? ⟨mb,17,none⟩=some m.lv:=M5.out.c 17 rfl
  have fz:=M5.out.cells.fz
  refine wpAnyH_ready (rs:=[15]) (by kernel_rfl) (by simp) ?_;refine Ys (o:=_) rfl (fun K hK=>?_) Yr;go_simp
  have M6:=Yw (M5.out.nmv Hm.out N5.out)
  have R6:=Yw (R5.out.far HMR.out (j:=17) (.slice An ns.length Cn))
  have C6:=Yw ((Y5.out.chg (· = mb)).setCell (p:=⟨mb,17,none⟩) (.inl rfl) (.slice An ns.length Cn))
  refine hK.out _ _ ⟨M6.out.box,R6.out.at_ 2 (by simp),trivial⟩ (fun hHeld=>?_)
  clear hK K M5 R5 N5 c17 fz
  try simp only [Act.put,Zv,Zu,Zt]
  obtain ⟨W6,hW6⟩:∃ W,w5.setCell ⟨mb,17,none⟩ (.slice An ns.length Cn)=W:=⟨_,rfl⟩
  rw [hW6] at M6 R6 C6 hHeld
  rw [hW6]
  clear hW6
  refine Xw [16,17] 1 (by rfl) (by kernel_rfl) (by kernel_rfl) (fun _ _ d _ _ h=>by cases d<;>exact h) hHeld ?_
  simp only [Z1,Z2,Z3,Zw,Zx]
  repeat (refine Xu (v:=?_) (by kernel_rfl) ?_ ?_;rotate_left;(focus ((intro wT hST;obtain ⟨hS0,hS1,hS2⟩:=hST;go_simp);(first|done|(with_reducible rfl))));(try simp only [Act.put,Zv,Zu,Zt]))
  refine Xt ?_
  clear hHeld
  have hth:=M6.out.cells.there (o:=19) (n:=8) (by show 19+8≤28;omega)
  refine wpAnyH_ready (rs:=[18]) (by kernel_rfl) (by simp) ?_;refine Ys (o:=_) rfl (fun K hK=>?_) Yr
  refine Ug rfl _ _ _ rfl mb 19 (Wk r).toArray rfl rfl hth (by rw [Ji];rfl) (Gg _) ?_
  have M7:=Yw (M6.out.ans Hm.out r)
  have C7:=Yw (Xl (S:=(· = mb)) (b:=mb) (.inl rfl) (vs:=Wk r) (o:=19) C6.out)
  have R7:=Yw (R6.out.chg (Xl (S:=(· = mb)) (b:=mb) (.inl rfl) (vs:=Wk r) (o:=19) (Chg.refl _ W6)) HMR.out)
  refine hK.out _ _ ⟨M7.out.box,R7.out.at_ 2 (by simp),trivial⟩ (fun hHeld=>?_)
  refine wpAnyH_done (by kernel_rfl) ?_ _
  rename_i J1 K1 hJ hM h9
  clear hK K
  go_simp
  refine hM _ _ (hJ _ _ ?_)
  (repeat apply Exists.intro)
  exact ⟨⟨_,M7.out,C7.out,rfl,rfl,rfl,Hlen.out⟩,rfl⟩
 obtain ⟨m1,hM,hC,e1,e2,e3,e4⟩:=hcut
 rename World=>w4
 have M4:=Yw hM
 have C4:=Yw ((Y3.out.chg (· = mb)).trans hC)
 have R4:=Yw (HR.out.chg hC HMR.out)
 have c19:w4.cell? ⟨mb,19,none⟩=some (.int .i64 m1.ans.e):=hM.c 19 rfl
 have c17:w4.cell? ⟨mb,17,none⟩=some m1.lv:=hM.c 17 rfl
 have c13:w4.cell? ⟨mb,13,none⟩=some (.int .i64 m1.st):=hM.c 13 rfl
 have fz:=hM.cells.fz
 have E1:=Yw e1
 have E2:=Yw e2
 have E3:=Yw e3
 have E4:=Yw e4
 clear hM hC e1 e2 e3 e4 HR Y3 L3
 cases q:(m1.ans.e == 0)
 ·go_wp2_with fail
  go_ret
  refine ⟨3,{m1 with lv:=.slice none 0 0,ns:=[],st:=7},rfl,?_,?_,E1.out,E2.out,E3.out,.inl ⟨rfl,rfl⟩⟩
  ·exact (M4.out.nmv Hm.out (v:=.slice none 0 0) (l:=[]) (Rd.nil _ _ _)).put (m':={m1 with lv:=.slice none 0 0,ns:=[],st:=7}) Hm.out (by omega) rfl rfl rfl rfl rfl
  exact (C4.out.setCell (p:=⟨mb,17,none⟩) (.inl rfl) _).setCell (p:=⟨mb,13,none⟩) (.inl rfl) _
 have hth:=M4.out.cells.there (o:=19) (n:=8) (by show 19+8≤28;omega)
 have hz:m1.ans.e=0:=by simpa using q
 have Hz:=Yw hz
 clear hz
 go_upto_region 9 with (refine wpList_store_mid rfl _ _ _ rfl mb 19 (Wk ⟨0,0,⟨#[]⟩,⟨0,0,⟨#[]⟩,0⟩,0⟩).toArray rfl rfl hth (by rw [Ji];rfl) (Gg _) ?_)
 have M5:=Yw (M4.out.ans Hm.out ⟨0,0,⟨#[]⟩,⟨0,0,⟨#[]⟩,0⟩,0⟩)
 have C5:=Yw (Xl (S:=(· = mb)) (b:=mb) (.inl rfl) (vs:=Wk ⟨0,0,⟨#[]⟩,⟨0,0,⟨#[]⟩,0⟩,0⟩) (o:=19) C4.out)
 have R5:=Yw (R4.out.chg (Xl (S:=(· = mb)) (b:=mb) (.inl rfl) (vs:=Wk ⟨0,0,⟨#[]⟩,⟨0,0,⟨#[]⟩,0⟩,0⟩) (o:=19) (Chg.refl _ w4)) HMR.out)
 obtain ⟨W5,hW5⟩:∃ W,w4.setCells mb 19 (Wk ⟨0,0,⟨#[]⟩,⟨0,0,⟨#[]⟩,0⟩,0⟩)=W:=⟨_,rfl⟩
 rw [hW5] at M5 C5 R5
 rw [show w4.setCells mb 19 (Wk ⟨0,0,⟨#[]⟩,⟨0,0,⟨#[]⟩,0⟩,0⟩).toArray.toList=W5 from hW5]
 clear hW5 hth c19 c17 c13 fz M4 C4 R4 q
 refine wp_region_held_drew (S:=fun w'=>w'.cell? ⟨rb,0,none⟩=some (.int .i64 op)∧w'.cell? ⟨rb,1,none⟩=some (.int .i64 ttl)∧True) (by kernel_rfl) ?_ (fun hHeld=>?_)
 ·exact ⟨R5.out.drew.at_ 0 (by simp),R5.out.drew.at_ 1 (by simp),trivial⟩
 have M5:=Yw (M5.out.ext (Yl W5).drew)
 have C5:=Yw C5.out.drew
 have R5:=Yw R5.out.drew
 obtain ⟨Wd,hWd⟩:∃ W,W5.drew=W:=⟨_,rfl⟩
 rw [hWd] at M5 C5 R5 hHeld
 rw [hWd]
 clear hWd
 refine Xw [0,1,2,3,4,5,6,7,8] 7 (by rfl) (by kernel_rfl) (by kernel_rfl) (fun _ _ d _ _ h=>by cases d<;>exact h) hHeld ?_
 simp only [Z1,Z2,Z3,Zw,Zx]
 repeat (refine Xu (v:=?_) (by kernel_rfl) ?_ ?_;rotate_left;(focus ((intro wT hST;obtain ⟨hS0,hS1,hS2⟩:=hST;go_simp);(first|done|(with_reducible rfl))));(try simp only [Act.put,Zv,Zu,Zt]))
 refine Xt ?_
 clear hHeld
 have c15:Wd.cell? ⟨mb,15,none⟩=some (.int .i64 m1.op):=M5.out.c 15 rfl
 have fz:=M5.out.cells.fz
 refine wpAnyH_ready (rs:=[9]) (by kernel_rfl) (by simp) ?_;refine Ys (o:=_) rfl (fun K hK=>?_) Yr;go_simp
 have M6:=Yw (M5.out.put (m':={m1 with ans:=⟨0,0,⟨#[]⟩,⟨0,0,⟨#[]⟩,0⟩,0⟩,op:=op}) Hm.out (j:=15) (by omega) (v:=.int .i64 op) rfl rfl rfl rfl rfl)
 have C6:=Yw (C5.out.setCell (p:=⟨mb,15,none⟩) (.inl rfl) (.int .i64 op))
 have R6:=Yw (R5.out.far HMR.out (j:=15) (.int .i64 op))
 refine hK.out _ _ ⟨R6.out.at_ 0 (by simp),R6.out.at_ 1 (by simp),trivial⟩ (fun hHeld=>?_)
 clear hK K c15 fz M5 C5 R5
 try simp only [Act.put,Zv,Zu,Zt]
 obtain ⟨W6,hPW⟩:∃ W,Wd.setCell ⟨mb,15,none⟩ (.int .i64 op)=W:=⟨_,rfl⟩
 rw [hPW] at M6 C6 R6 hHeld
 rw [hPW]
 clear hPW
 refine Xw [10,11] 4 (by rfl) (by kernel_rfl) (by kernel_rfl) (fun _ _ d _ _ h=>by cases d<;>exact h) hHeld ?_
 simp only [Z1,Z2,Z3,Zw,Zx]
 repeat (refine Xu (v:=?_) (by kernel_rfl) ?_ ?_;rotate_left;(focus ((intro wT hST;obtain ⟨hS0,hS1,hS2⟩:=hST;go_simp);(first|done|(with_reducible rfl))));(try simp only [Act.put,Zv,Zu,Zt]))
 refine Xt ?_
 clear hHeld
 have c16:W6.cell? ⟨mb,16,none⟩=some (.int .i64 m1.ttl):=M6.out.c 16 rfl
 have fz:=M6.out.cells.fz
 refine wpAnyH_ready (rs:=[12]) (by kernel_rfl) (by simp) ?_;refine Ys (o:=_) rfl (fun K hK=>?_) Yr;go_simp
 have M7:=Yw (M6.out.put (m':={m1 with ans:=⟨0,0,⟨#[]⟩,⟨0,0,⟨#[]⟩,0⟩,0⟩,op:=op,ttl:=ttl}) Hm.out (j:=16) (by omega) (v:=.int .i64 ttl) rfl rfl rfl rfl rfl)
 have C7:=Yw (C6.out.setCell (p:=⟨mb,16,none⟩) (.inl rfl) (.int .i64 ttl))
 have R7:=Yw (R6.out.far HMR.out (j:=16) (.int .i64 ttl))
 refine hK.out _ _ ⟨R7.out.at_ 0 (by simp),R7.out.at_ 1 (by simp),trivial⟩ (fun hHeld=>?_)
 clear hK K c16 fz M6 C6 R6
 try simp only [Act.put,Zv,Zu,Zt]
 obtain ⟨W7,hPW⟩:∃ W,W6.setCell ⟨mb,16,none⟩ (.int .i64 ttl)=W:=⟨_,rfl⟩
 rw [hPW] at M7 C7 R7 hHeld
 rw [hPW]
 clear hPW
 refine Xw [13,14] 1 (by rfl) (by kernel_rfl) (by kernel_rfl) (fun _ _ d _ _ h=>by cases d<;>exact h) hHeld ?_
 simp only [Z1,Z2,Z3,Zw,Zx]
 repeat (refine Xu (v:=?_) (by kernel_rfl) ?_ ?_;rotate_left;(focus ((intro wT hST;obtain ⟨hS0,hS1,hS2⟩:=hST;go_simp);(first|done|(with_reducible rfl))));(try simp only [Act.put,Zv,Zu,Zt]))
 refine Xt ?_
 clear hHeld
 have c13:W7.cell? ⟨mb,13,none⟩=some (.int .i64 m1.st):=M7.out.c 13 rfl
 have fz:=M7.out.cells.fz
 refine wpAnyH_ready (rs:=[15]) (by kernel_rfl) (by simp) ?_;refine Ys (o:=_) rfl (fun K hK=>?_) Yr;go_simp
 have M8:=Yw (M7.out.put (m':={m1 with ans:=⟨0,0,⟨#[]⟩,⟨0,0,⟨#[]⟩,0⟩,0⟩,op:=op,ttl:=ttl,st:=2}) Hm.out (j:=13) (by omega) (v:=.int .i64 2) rfl rfl rfl rfl rfl)
 have C8:=Yw (C7.out.setCell (p:=⟨mb,13,none⟩) (.inl rfl) (.int .i64 2))
 have R8:=Yw (R7.out.far HMR.out (j:=13) (.int .i64 2))
 refine hK.out _ _ ⟨R8.out.at_ 0 (by simp),R8.out.at_ 1 (by simp),trivial⟩ (fun hHeld=>?_)
 clear hHeld hK K c13 fz M7 C7 R7
 try simp only [Act.put,Zv,Zu,Zt]
 refine wpAnyH_done (by kernel_rfl) ?_ _
 go_simp
 go_wp2_with fail
 go_ret
 exact ⟨1,{m1 with ans:=⟨0,0,⟨#[]⟩,⟨0,0,⟨#[]⟩,0⟩,0⟩,op:=op,ttl:=ttl,st:=2},rfl,M8.out,C8.out,E1.out,E2.out,E3.out,.inr ⟨rfl,rfl,E4.out Hz.out⟩⟩
theorem Zzb {S:Nat→Prop} (T:Tbl) (hf:Few T) (hu:Uq T) (mb xb:Nat) (m:Qq) (x:Shr) (w:World) (h:Kx S T mb xb m x w) (hs:m.st=1):Calls Tryz.prog 115 #[.pointer (some ⟨mb,0,none⟩),.pointer (some ⟨xb,0,none⟩)] w (Qc S T mb xb m x w):=by
 have z13:w.cell? ⟨mb,13,none⟩=some (.int .i64 m.st):=h.mach.c 13 rfl
 have H:=Yw h
 have Hs:=Yw hs
 have Hf:=Yw hf
 have Hu:=Yw hu
 rw [hs] at z13
 clear h hs hf hu
 go_enter Tryz.func115,Tryz.ntmps115
 go_wp2_with fail
 refine (Zz0 T Hf.out Hu.out mb m _ H.out.mach H.out.sm H.out.tbl H.out.new).mono ?_
 rintro e w2 ⟨s,m',rfl,hM,hC,e1,e2,e3,hend⟩
 have HE:=Yw (show Zuo S T mb xb m x w s m' x w2 from by
  have k0:=H.out.mok
  obtain ⟨r1,r2⟩:=k0.e2 (by rw [Hs.out];omega) (by rw [Hs.out];omega)
  have r2:=r2 Hs.out
  refine ⟨hM,?_,H.out.shr.chg hC H.out.ne.symm (fun _ hk e=>H.out.sm (e ▸ hk)),hC.mono fun _ _ e=>.inl e,fun _ h=>h.up,fun _=>by rw [Hs.out];omega,fun _=>?_⟩
  ·have c0:=k0.c0
   have c1:=k0.c1
   rcases hend with ⟨_,h7⟩ | ⟨_,h2,l1,l2⟩
   ·exact ⟨by omega,by omega,by omega,by omega,fun _ h=>by omega,fun h=>by omega,fun h=>by omega,fun _ h=>by omega,fun _ h=>by omega⟩
   exact ⟨by omega,by omega,by omega,by omega,fun _ _=>by omega,fun h=>by omega,fun h=>by omega,fun h=>by omega,fun _ _=>⟨by rw [e3];exact r1,fun h=>by omega⟩⟩
  rcases hend with ⟨h3,_⟩ | ⟨_,h2,_⟩
  ·exact .inl h3
  exact .inr h2)
 clear hM hC e1 e2 e3 hend z13
 go_wp2_with fail
 go_ret
 exact ⟨s,m',x,rfl,HE.out⟩
theorem Zt0 {S:Nat→Prop} (T:Tbl) (hf:Few T) (hu:Uq T) (mb xb:Nat) (m:Qq) (x:Shr) (w:World) (t:Nat) (hx:XOk t x) (ht:t≤100000) (h:Kx S T mb xb m x w):Calls Tryz.prog 115 #[.pointer (some ⟨mb,0,none⟩),.pointer (some ⟨xb,0,none⟩)] w (Qc S T mb xb m x w):=by
 have h0:=h.mok.s0
 have h7:=h.mok.s1
 rcases (show m.st=0∨m.st=1∨m.st=2∨m.st=3∨m.st=4∨m.st=5∨m.st=6∨m.st=7 by omega) with e|e|e|e|e|e|e|e
 ·exact Zv4 T mb xb m x w h e
 ·exact Zzb T hf hu mb xb m x w h e
 ·exact Zwk T mb xb m x w t hx ht h e
 ·exact Zu7 T mb xb m x w t hx ht h e
 ·exact Tu T mb xb m x w t hx (by omega) h e
 ·exact Zzq T mb xb m x w t hx ht h e
 ·exact Zwi T mb xb m x w t hx ht h e
 exact Zzj T mb xb m x w h e
def Ox (d:Dk):Prop:=∀ (j:Nat) (p:Nat×Qq) (z:Int),d.ms[j]?=some p→d.last[j]?=some z→p.2.st≠0→0≤z∧z < d.ops.length
def N7 (T:Tbl) (b B:Nat) (d:Dk) (w:World) (e:Ending) (w':World):Prop :=
 ∃ (r:Bool) (d':Dk) (U':Nat→Prop),e=.returned (.bool r)∧Wt w' U' T b B d'∧Ox d'∧Chg (fun k=>B≤k) w w'∧d'.ms.length=d.ms.length∧d'.t=d.t∧d'.n≤d.n+1
theorem Wt.c {w:World} {U:Nat→Prop} {T:Tbl} {b B:Nat} {d:Dk} (h:Wt w U T b B d) (j:Nat) {v:Value} (hv:(Zyp d)[j]?=some v):w.cell? ⟨b,j,none⟩=some v:=by
 rw [h.cells.at_ j (Zr.1 hv).1,hv]
theorem Wt.big {w:World} {U:Nat→Prop} {T:Tbl} {b B:Nat} {d:Dk} (h:Wt w U T b B d):B≤w.heap.size:=by
 have:=h.hU b h.ub;omega
theorem Ni {w:World} {S:Nat→Prop} {v:Value} {l:List Nat} {k x:Nat} (h:RdE Zt7 w S v l) (hk:l[k]?=some x):∃ g o c,v=.slice (some ⟨g,o,none⟩) l.length c∧w.cell? ⟨g,o+k,none⟩=some (Zqx x):=by
 obtain ⟨g,o,c,hv,_,_,_,_,hc⟩:=Rd.at_ h (Zr.1 hk).1
 exact ⟨g,o,c,hv,hc k _ (Zqg hk)⟩
def Zww (k t:Int):OpS:=⟨⟨k,0,0,.slice none 0 0,[],⟨0,0,⟨#[]⟩,⟨0,0,⟨#[]⟩,0⟩,0⟩,t,-1,-1,⟨0,0,⟨#[]⟩,⟨0,0,⟨#[]⟩,0⟩,0⟩⟩,rfl⟩
theorem Zpc (w:World) (k t:Int) (ty:TypeId) (g:Nat) (hg:w.heap.size=g):RdE opE (w.alloc (.cells (opC (Zww k t).1).toArray ty)) (fun _=>True) (.slice (some ⟨g,0,none⟩) 1 1) [Zww k t]:=by
 subst hg
 exact Qo w (opC (Zww k t).1).toArray ty 23 rfl
theorem Zw2 {U:Nat→Prop} (T:Tbl) (b B k mb:Nat) (m:Qq) (d:Dk) (w:World) (h:Wt w U T b B d) (hl:Ox d) (hk:d.ms[k]?=some (mb,m)) (hs:m.st=0):Calls Tryz.prog 78 #[.pointer (some ⟨b,0,none⟩),.int .i64 (k:Int)] w (N7 T b B d w):=by
 have hkl:=(Zr.1 hk).1
 obtain ⟨nn,hnn⟩:∃ n,d.ms.length=n:=⟨_,rfl⟩
 rw [hnn] at hkl
 have hn64:nn≤64:=by have:=h.lm;omega
 obtain ⟨gm,om,cm,hmv,cmk⟩:=Ni h.ptr (k:=k) (x:=mb) (by rw [Zn,hk];rfl)
 rw [Zq,hnn] at hmv
 have c1:w.cell? ⟨b,1,none⟩=some d.mv:=h.c 1 rfl
 rw [hmv] at c1
 have hM:=(h.mach _ (Zy hk)).1
 have z13:w.cell? ⟨mb,13,none⟩=some (.int .i64 m.st):=hM.c 13 rfl
 rw [hs] at z13
 have k0:(0:Int)≤(k:Int):=by omega
 have k1:(k:Int) < (nn:Int):=by omega
 obtain ⟨s,hsx⟩:∃ s,d.bx[k]?=some s:=⟨d.bx[k]'(by rw [h.lb,hnn];exact hkl),Zz _⟩
 obtain ⟨l,hlx⟩:∃ l,d.bs_[k]?=some l:=⟨d.bs_[k]'(by rw [h.lbs,hnn];exact hkl),Zz _⟩
 obtain ⟨hbr,hb8⟩:=h.boxes k s l hsx hlx
 obtain ⟨sa,sn,sc⟩:=s
 obtain ⟨_,_,hse,hsc,hscm⟩:=hbr.shape
 simp only [Sl.v,Ye] at hse
 obtain ⟨rfl,hsn,rfl⟩:=hse
 have hbx:d.bx.length=nn:=by rw [h.lb];exact hnn
 have c2:w.cell? ⟨b,2,none⟩=some (.slice (some ⟨d.gb,0,none⟩) nn d.cb):=by rw [← hbx];exact h.c 2 rfl
 have ck:w.cell? ⟨d.gb,k,none⟩=some (.slice sa sn sc):=Own.at_ (E:=ssE) h.box (Rx hsx)
 have c3:w.cell? ⟨b,3,none⟩=some d.ov:=h.c 3 rfl
 obtain ⟨Ao,Co,hov,_,_⟩:=h.own.shape
 obtain ⟨no,hno⟩:∃ n,d.ops.length=n:=⟨_,rfl⟩
 rw [hno] at hov
 rw [hov] at c3
 have H:=Yw h
 have Hl:=Yw hl
 have Hk:=Yw hk
 have Hs:=Yw hs
 have Hnn:=Yw hnn
 have Hno:=Yw hno
 have Hov:=Yw hov
 have Hsx:=Yw hsx
 have Hlx:=Yw hlx
 have Hbr:=Yw hbr
 have Hb8:=Yw hb8
 have Hmv:=Yw hmv
 have Hbx:=Yw hbx
 have Hsn:=Yw hsn
 have HMm:=Yw hM
 clear h hl hk hs hnn hmv hM hsx hlx hbr hb8 hov hno hbx hsn
 unfold Zqx at cmk
 by_cases hs0:sn=0
 ·have d1:((sn:Int) == 0)=true:=by simp [hs0]
  go_enter Tryz.func78,Tryz.ntmps78
  go_wp2_with fail
  go_ret
  exact ⟨false,d,U,rfl,H.out,Hl.out,Chg.refl _ _,rfl,rfl,by omega⟩
 have d1:((sn:Int) == 0)=false:=by simp;omega
 have d1b:(sn == 0)=false:=by simp;omega
 by_cases ho:4096≤no
 ·have d2:decide ((4096:Int)≤(no:Int))=true:=Yf (by omega)
  go_enter Tryz.func78,Tryz.ntmps78
  go_wp2_with fail
  go_ret
  exact ⟨false,d,U,rfl,H.out,Hl.out,Chg.refl _ _,rfl,rfl,by omega⟩
 have d2:decide ((4096:Int)≤(no:Int))=false:=Yg (by omega)
 obtain ⟨x,hx⟩:∃ x,l[0]?=some x:=⟨l[0]'(by rw [← Hsn.out];omega),Zz _⟩
 obtain ⟨ga,oa,ca,hse,_,_,hgS,hga,hcc⟩:=Rd.at_ Hbr.out (k:=0) (by rw [← Hsn.out];omega)
 simp only [Sl.v,Ye] at hse
 obtain ⟨rfl,-,rfl⟩:=hse
 have cx:w.cell? ⟨ga,oa,none⟩=some (.string x):=hcc 0 _ (by show (l.map Value.string)[0]?=_;rw [Zn,hx];rfl)
 have sn0:(0:Int) < (sn:Int):=by omega
 have sn1:0 < sn:=by omega
 go_enter Tryz.func78,Tryz.ntmps78
 go_wp2_with fail
 refine (Zv9 T mb m x w HMm.out.cells H.out.tbl Hs.out).mono ?_
 rintro e w2 ⟨rfl,hB2,hC2⟩
 have hmu:=H.out.um _ (Zy Hk.out)
 have D2:=Yw (show Wt w2 U T b B {d with x:=d.x,ms:=d.ms.set k (mb,Qg m.cl x),n:=d.n+1} from
  H.out.step Hk.out (hC2.mono fun _ _ e=>.inl e) ⟨hB2,Rd.nil _ _ _,Rd.nil _ _ _⟩
   (by have k0:=(H.out.mach _ (Zy Hk.out)).2
       exact ⟨by simp [Qg],by simp [Qg],k0.c0,k0.c1,fun h=>by simp [Qg] at h,fun h=>by simp [Qg] at h,fun h=>by simp [Qg] at h,fun h=>by simp [Qg] at h,fun _ _=>⟨rfl,fun _=>rfl⟩⟩)
   (H.out.shr.chg hC2 (H.out.ne.2.2.2.2.2.2 _ (Zy Hk.out)).2.1.symm (fun _ hj e=>hj (e ▸ hmu))) H.out.xok.up)
 have C2:=Yw (show Chg (fun j=>B≤j) w w2 from hC2.mono fun _ _ e=>by rw [e];exact (H.out.hU _ hmu).1)
 clear hB2 hC2 c1 cmk z13 c2 ck c3 cx
 go_upto_region 6 with fail
 have m2:=lat (show w2.cell? ⟨b,2,none⟩=some (.slice (some ⟨d.gb,0,none⟩) nn d.cb) from by rw [← Hbx.out];exact D2.out.c 2 rfl)
 have mk:=lat (show w2.cell? ⟨d.gb,k,none⟩=some (.slice (some ⟨ga,oa,none⟩) sn sc) from Own.at_ (E:=ssE) D2.out.box (Rx Hsx.out))
 have q1:(1:Int)≤(sn:Int):=by omega
 have q0:sn≤sc:=by have:=Hsn.out;omega
 have q2:(1:Int)≤(sc:Int):=by omega
 have q3:1≤sn:=by omega
 have q4:1≤sc:=by omega
 refine Xd 13 15 (by kernel_rfl) (by omega) (by kernel_rfl) (by kernel_rfl) (by kernel_rfl) ?_
 simp only [Z4,Z5,Z6,Z7]
 repeat ((with_reducible refine Yv ?_);intro K hK;go_simp;(with_reducible refine hK _ ?_);clear hK K)
 (with_reducible refine Yu ?_)
 intro w3 hy3
 obtain ⟨A2,hA2⟩:∃ A,(if sc=1 then some (⟨ga,oa,none⟩:Addr) else some ⟨ga,oa+1,none⟩)=A:=⟨_,rfl⟩
 rw [hA2]
 have D3:=Yw (D2.out.ext hy3)
 have r3:RdE Wr w3 (fun j=>¬ U j) (.slice (some ⟨ga,oa,none⟩) sn sc) l:=(D3.out.boxes k _ l Hsx.out Hlx.out).1
 have r4:RdE Wr w3 (fun j=>¬ U j) (.slice A2 (sn - 1) (sc - 1)) (l.drop 1):=RdE.drop r3 rfl (by have:=Hsn.out;omega) (by have:=Hsn.out;omega) (fun hp=>by rw [← hA2,if_neg (by omega)]) (by omega) (by unfold maxLen at hscm ⊢;omega)
 have hk':k < (d.ms.set k (mb,Qg m.cl x)).length:=by rw [Zf,Hnn.out];exact hkl
 have D4:=Yw (D3.out.setBox hk' ⟨A2,sn - 1,sc - 1⟩ (l.drop 1) r4 (by rw [Z8];have:=Hb8.out;omega))
 have C4:=Yw ((C2.out.trans (hy3.chg _)).setCell (p:=⟨d.gb,k,none⟩) (.inl (H.out.hU _ H.out.ugb).1) (Sl.v ⟨A2,sn - 1,sc - 1⟩))
 have ck:w3.cell? ⟨d.gb,k,none⟩=some (.slice (some ⟨ga,oa,none⟩) sn sc):=Own.at_ (E:=ssE) D3.out.box (Rx Hsx.out)
 have fz:w3.frozen? ⟨d.gb,k,none⟩=false:=Own.thaw (E:=ssE) D3.out.box k
 clear r3 r4 hy3 m2 mk D2 C2 hA2 hscm hsc
 go_upto_region 7 with fail
 obtain ⟨W4,hW4⟩:∃ W,w3.setCell ⟨d.gb,k,none⟩ (.slice A2 (sn - 1) (sc - 1))=W:=⟨_,rfl⟩
 rw [show w3.setCell ⟨d.gb,k,none⟩ (Sl.v ⟨A2,sn - 1,sc - 1⟩)=W4 from hW4] at D4 C4
 rw [hW4]
 clear hW4 ck fz D3
 obtain ⟨z0,hz0⟩:∃ z,d.last[k]?=some z:=⟨d.last[k]'(by rw [H.out.ll,Hnn.out];exact hkl),Zz _⟩
 have hll:d.last.length=nn:=by rw [H.out.ll];exact Hnn.out
 have m4:=lat (show W4.cell? ⟨b,4,none⟩=some (.slice (some ⟨d.gl,0,none⟩) nn d.cl) from by rw [← hll];exact D4.out.c 4 rfl)
 have m3:=lat (show W4.cell? ⟨b,3,none⟩=some (.slice Ao no Co) from by rw [← Hov.out];exact D4.out.c 3 rfl)
 refine Xd 10 12 (by kernel_rfl) (by omega) (by kernel_rfl) (by kernel_rfl) (by kernel_rfl) ?_
 simp only [Z4,Z5,Z6,Z7]
 repeat ((with_reducible refine Yv ?_);intro K hK;go_simp;(with_reducible refine hK _ ?_);clear hK K)
 (with_reducible refine Yu ?_)
 intro w5 hy5
 have D5a:=Yw (D4.out.ext hy5)
 have cl:w5.cell? ⟨d.gl,k,none⟩=some (.int .i64 z0):=Own.at_ (E:=Xe) D5a.out.lown (ints_at hz0)
 have fz:w5.frozen? ⟨d.gl,k,none⟩=false:=Own.thaw (E:=Xe) D5a.out.lown k
 have D5:=Yw (D5a.out.setLast hk' (no:Int))
 have C5:=Yw ((C4.out.trans (hy5.chg _)).setCell (p:=⟨d.gl,k,none⟩) (.inl (H.out.hU _ H.out.ugl).1) (.int .i64 (no:Int)))
 clear hy5 m4 m3 D4 C4 D5a hz0
 go_upto_region 8 with fail
 obtain ⟨W5,hW5⟩:∃ W,w5.setCell ⟨d.gl,k,none⟩ (.int .i64 (no:Int))=W:=⟨_,rfl⟩
 rw [hW5] at D5 C5
 rw [hW5]
 clear hW5 cl fz
 have c3:W5.cell? ⟨b,3,none⟩=some (.slice Ao no Co):=by rw [← Hov.out];exact D5.out.c 3 rfl
 have c5:W5.cell? ⟨b,5,none⟩=some (.int .i64 (d.t:Int)):=D5.out.c 5 rfl
 refine Vv (S:=fun w'=>w'.cell? ⟨b,3,none⟩=some (.slice Ao no Co)∧w'.cell? ⟨b,5,none⟩=some (.int .i64 (d.t:Int))∧True) 13 16 (by kernel_rfl) (by omega) (by kernel_rfl) (by kernel_rfl) ?_
 refine J3 11 2 (by rfl) (by decide) (by kernel_rfl) (by kernel_rfl) (fun _ _ d _ _ h=>by cases d<;>exact h) ⟨c3,c5,trivial⟩ ?_
 simp only [Z6,Z7]
 repeat (refine Xu (v:=?_) (by kernel_rfl) ?_ ?_;rotate_left;(focus ((intro wT hST;obtain ⟨hS0,hS1,hS2⟩:=hST;go_simp);(first|done|(with_reducible rfl))));(try simp only [Act.put,Zv,Zu,Zt]))
 refine Xt ?_
 have x6:Ext W5 (W5.alloc (.cells #[.int .i64 (k:Int),.int .i64 0,.int .i64 0,.slice none 0 0,.int .i64 0,.int .i64 0,.string ⟨#[]⟩,.int .i64 0,.int .i64 0,.string ⟨#[]⟩,.int .i64 0,.int .i64 0,.int .i64 (d.t:Int),.int .i64 (-1),.int .i64 (-1),.int .i64 0,.int .i64 0,.string ⟨#[]⟩,.int .i64 0,.int .i64 0,.string ⟨#[]⟩,.int .i64 0,.int .i64 0] 55)).drew:=((Yl W5).alloc _).drew
 have D6:=Yw (D5.out.ext x6)
 have H6:=Yw (RdE.ext (Zpc W5 (k:Int) (d.t:Int) 55 _ rfl) (Yl _).drew)
 have C6:=Yw (C5.out.trans (x6.chg _))
 refine wpAnyH_ready (rs:=[11]) (by kernel_rfl) (by simp) ?_;refine Ys (o:=_) rfl (fun K hK=>?_) Yr;go_simp
 obtain ⟨W6,hW6⟩:∃ W,(W5.alloc (.cells #[.int .i64 (k:Int),.int .i64 0,.int .i64 0,.slice none 0 0,.int .i64 0,.int .i64 0,.string ⟨#[]⟩,.int .i64 0,.int .i64 0,.string ⟨#[]⟩,.int .i64 0,.int .i64 0,.int .i64 (d.t:Int),.int .i64 (-1),.int .i64 (-1),.int .i64 0,.int .i64 0,.string ⟨#[]⟩,.int .i64 0,.int .i64 0,.string ⟨#[]⟩,.int .i64 0,.int .i64 0] 55)).drew=W:=⟨_,rfl⟩
 replace H6:Hid (RdE opE W6 (fun _=>True) (.slice (some ⟨W5.heap.size,0,none⟩) 1 1) [Zww (k:Int) (d.t:Int)]):=hW6 ▸ H6
 rw [hW6] at D6 C6
 rw [hW6]
 clear hW6 x6
 have c3':W6.cell? ⟨b,3,none⟩=some (.slice Ao no Co):=by rw [← Hov.out];exact D6.out.c 3 rfl
 have c5':W6.cell? ⟨b,5,none⟩=some (.int .i64 (d.t:Int)):=D6.out.c 5 rfl
 refine hK.out _ _ ⟨c3',c5',trivial⟩ (fun hHeld=>?_)
 clear hHeld hK K
 try simp only [Act.put,Zv,Zu,Zt]
 have O6:Own opE W6 B (.slice Ao no Co) d.ops:=by rw [← Hov.out];exact D6.out.own
 refine wpAnyH_ready (rs:=[12]) (by kernel_rfl) (by simp) ?_;refine Ys (o:=_) rfl (fun K hK=>?_) Yr
 refine Xa opE (.tmp 78) (.tmp 85) 23 (by rfl) (by rfl) (by rfl) (by rfl) O6 (by rfl) H6.out (by rw [Hno.out];show no+1≤_;omega) (by show 232≤1000;omega) D6.out.big ?_
 intro A7 n7 c7 w7 hg7
 have G7:=Yw (show Grew opE W6 B d.ov (d.ops++[Zww (k:Int) (d.t:Int)]) A7 n7 c7 w7 by rw [Hov.out];exact hg7)
 have nb:¬ d.ov.ownBlock=some b:=fun e=>(H.out.nov e).1 rfl
 have hlb:=D6.out.cells.lt
 have c3:w7.cell? ⟨b,3,none⟩=some (.slice Ao no Co):=(G7.out.chg.cell (p:=⟨b,3,none⟩) hlb nb).trans c3'
 have c5:w7.cell? ⟨b,5,none⟩=some (.int .i64 (d.t:Int)):=(G7.out.chg.cell (p:=⟨b,5,none⟩) hlb nb).trans c5'
 have fz:w7.frozen? ⟨b,3,none⟩=false:=(G7.out.chg.frozen (p:=⟨b,3,none⟩) hlb nb).trans (D6.out.cells.fz 3)
 have D8:=Yw (D6.out.addOp G7.out (by show d.ops.length < 4096;rw [Hno.out];omega) rfl rfl)
 have C8:=Yw ((C6.out.trans (G7.out.chg.mono fun _ _ e=>(H.out.own.lt _ e).1)).setCell (p:=⟨b,3,none⟩) (.inl (H.out.hU _ H.out.ub).1) (.slice A7 n7 c7))
 refine hK.out _ _ ⟨c3,c5,trivial⟩ (fun hHeld=>?_)
 clear hHeld hK K hg7 c3' c5' O6
 refine wpAnyH_done (by kernel_rfl) ?_ _
 simp only [Vq,Z4,Z5]
 try simp only [Act.put,Zv,Zu,Zt]
 go_wp2_with fail
 go_ret
 refine ⟨true,_,_,rfl,D8.out,?_,C8.out,?_,rfl,Yo _⟩
 ·intro j p z h1 h2 h3
  simp only [Zs,Zl,Zk,Nat.zero_add]
  by_cases e:k=j
  ·subst e
   rw [Zc (by rw [hll];exact hkl)] at h2
   obtain rfl:=Option.some.inj h2
   rw [Hno.out];omega
  rw [Zb e] at h1 h2
  have:=Hl.out j p z h1 h2 h3
  omega
 show (d.ms.set k _).length=_
 rw [Zf]
end Go.Proofs.YtnbclgbicnpmnaaGreat
