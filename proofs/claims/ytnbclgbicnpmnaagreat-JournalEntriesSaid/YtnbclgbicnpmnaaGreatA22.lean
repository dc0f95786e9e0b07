/- Lemmas of this claim: Dr, Dt. Conditions: as named. -/
import Derived.Test.YtnbclgbicnpmnaaGreatA21
namespace Go.Proofs.YtnbclgbicnpmnaaGreat
open Go.RowKit Go.Sort
open List renaming getElem?_eq_getElem → Zz, mem_of_getElem? → Zy, getElem?_cons_zero → Zx, getElem?_cons_succ → Zw, setIfInBounds_toArray → Zv, set_cons_zero → Zu, set_cons_succ → Zt, length_append → Zs, getElem?_eq_some_iff → Zr, length_map → Zq, nil_append → Zo, getElem?_map → Zn, length_set → Zf, getElem?_set_self → Zc, getElem?_set_ne → Zb, filterMap_cons → Z1, filterMap_nil → Z2, getElem?_toArray → Z3, drop_succ_cons → Z4, drop_zero → Z5, take_succ_cons → Z6, take_zero → Z7
open Lib renaming hid → Yw
open Go renaming wpQuiet_step → Yv, wpQuiet_nil → Yu
open AllReadyH renaming cons → Ys, nil → Yr
open IntWalk renaming i64_in → Yq
open Nat renaming le_refl → Yo
open Ext renaming refl → Yl
set_option maxHeartbeats 40000000
set_option maxRecDepth 100000
set_option linter.all false
theorem Zz3 {w:World} {b:Nat} {T:Tbl} {m:Qq} (h:Xs w b (machC T m)):w.cell? ⟨b,15,none⟩=some (.int .i64 m.op)∧w.cell? ⟨b,16,none⟩=some (.int .i64 m.ttl)∧w.cell? ⟨b,17,none⟩=some m.lv∧w.cell? ⟨b,19,none⟩=some (.int .i64 m.ans.e)∧w.cell? ⟨b,20,none⟩=some (.int .i64 m.ans.at_)∧w.cell? ⟨b,21,none⟩=some (.string m.ans.nm)∧w.cell? ⟨b,22,none⟩=some (.int .i64 m.ans.rc.st)∧w.cell? ⟨b,23,none⟩=some (.int .i64 m.ans.rc.ow)∧w.cell? ⟨b,24,none⟩=some (.string m.ans.rc.nm)∧w.cell? ⟨b,25,none⟩=some (.int .i64 m.ans.rc.dl)∧w.cell? ⟨b,26,none⟩=some (.int .i64 m.ans.tick) :=
 ⟨h.at_ 15 (by show 15 < 28;omega),h.at_ 16 (by show 16 < 28;omega),h.at_ 17 (by show 17 < 28;omega),h.at_ 19 (by show 19 < 28;omega),h.at_ 20 (by show 20 < 28;omega),h.at_ 21 (by show 21 < 28;omega),h.at_ 22 (by show 22 < 28;omega),h.at_ 23 (by show 23 < 28;omega),h.at_ 24 (by show 24 < 28;omega),h.at_ 25 (by show 25 < 28;omega),h.at_ 26 (by show 26 < 28;omega)⟩
theorem Zv1 {U:Nat→Prop} (T:Tbl) (hf:Few T) (hu:Uq T) (b B k mb:Nat) (m:Qq) (d:Dk) (w:World) (h:Wt w U T b B d) (hn:d.n≤99999) (hl:Ox d) (hk:d.ms[k]?=some (mb,m)) (hs:m.st≠0):Calls Tryz.prog 78 #[.pointer (some ⟨b,0,none⟩),.int .i64 (k:Int)] w (N7 T b B d w):=by
 have hkl:=(Zr.1 hk).1
 obtain ⟨nn,hnn⟩:∃ n,d.ms.length=n:=⟨_,rfl⟩
 rw [hnn] at hkl
 have hn64:nn≤64:=by have:=h.lm;omega
 obtain ⟨gm,om,cm,hmv,cmk⟩:=Ni h.ptr (k:=k) (x:=mb) (by rw [Zn,hk];rfl)
 rw [Zq,hnn] at hmv
 have c1:w.cell? ⟨b,1,none⟩=some d.mv:=h.c 1 rfl
 rw [hmv] at c1
 have c0:w.cell? ⟨b,0,none⟩=some (.pointer (some ⟨d.xb,0,none⟩)):=h.c 0 rfl
 have hM:=(h.mach _ (Zy hk)).1
 have z13:w.cell? ⟨mb,13,none⟩=some (.int .i64 m.st):=hM.c 13 rfl
 have k0:(0:Int)≤(k:Int):=by omega
 have k1:(k:Int) < (nn:Int):=by omega
 have d1:(m.st == 0)=false:=by simp [hs]
 have hmu:=h.um _ (Zy hk)
 have HI:=Yw (show Kx (fun j=>¬ U j) T mb d.xb m d.x w from ⟨hM,(h.mach _ (Zy hk)).2,h.shr,(h.ne.2.2.2.2.2.2 _ (Zy hk)).2.1,fun q=>q hmu,fun q=>q h.ux,fun j hj hu=>by have:=(h.hU j hu).2;omega,h.tbl⟩)
 obtain ⟨z,hz⟩:∃ z,d.last[k]?=some z:=⟨d.last[k]'(by rw [h.ll,hnn];exact hkl),Zz _⟩
 obtain ⟨z0,z1⟩:=hl k _ z hk hz hs
 obtain ⟨zn,rfl⟩:∃ q:Nat,z=q:=⟨z.toNat,by omega⟩
 have hll:d.last.length=nn:=by rw [h.ll];exact hnn
 obtain ⟨no,hno⟩:∃ n,d.ops.length=n:=⟨_,rfl⟩
 obtain ⟨o,ho⟩:∃ o,d.ops[zn]?=some o:=⟨d.ops[zn]'(by omega),Zz _⟩
 obtain ⟨go,Co,hov,_,_,_,_⟩:=h.own.some_ (by omega)
 rw [hno] at hov z1
 have z2:zn < no:=by omega
 have H:=Yw h
 have Hl:=Yw hl
 have Hk:=Yw hk
 have Hs:=Yw hs
 have Hnn:=Yw hnn
 have Hno:=Yw hno
 have Hov:=Yw hov
 have Hz:=Yw hz
 have Ho:=Yw ho
 have Hf:=Yw hf
 have Hu:=Yw hu
 have Hn:=Yw hn
 have Hll:=Yw hll
 clear h hl hk hs hnn hmv hM hno hov hz ho hf hu hn hll
 unfold Zqx at cmk
 go_enter Tryz.func78,Tryz.ntmps78
 go_wp2_with fail
 refine (Zt0 T Hf.out Hu.out mb d.xb m d.x _ d.n H.out.xok (by have:=Hn.out;omega) HI.out).mono ?_
 rintro e w2 ⟨s,m',x',rfl,hok⟩
 have D2:=Yw (H.out.step Hk.out hok.chg hok.mach hok.mok hok.shr (hok.xok _ H.out.xok))
 have C2:=Yw (show Chg (fun j=>B≤j) w w2 from hok.chg.mono fun _ _ e=>by rcases e with e|e;exact e ▸ (H.out.hU _ hmu).1;exact e ▸ (H.out.hU _ H.out.ux).1)
 have Hpar:=Yw hok.par
 have Hmok:=Yw hok.mok
 clear hok c1 c0 cmk z13 HI
 go_upto_region 12 with fail
 have m3:=lat (show w2.cell? ⟨b,3,none⟩=some (.slice (some ⟨go,0,none⟩) no Co) from by rw [← Hov.out];exact D2.out.c 3 rfl)
 have m4:=lat (show w2.cell? ⟨b,4,none⟩=some (.slice (some ⟨d.gl,0,none⟩) nn d.cl) from by rw [← Hll.out];exact D2.out.c 4 rfl)
 have mk:=lat (show w2.cell? ⟨d.gl,k,none⟩=some (.int .i64 (zn:Int)) from Own.at_ (E:=Xe) D2.out.lown (ints_at Hz.out))
 refine Xd 12 13 (by kernel_rfl) (by omega) (by kernel_rfl) (by kernel_rfl) (by kernel_rfl) ?_
 simp only [Z4,Z5,Z6,Z7]
 repeat ((with_reducible refine Yv ?_);intro K hK;go_simp;(with_reducible refine hK _ ?_);clear hK K)
 (with_reducible refine Yu ?_)
 intro w3 hy3
 have D3:=Yw (D2.out.ext hy3)
 have C3:=Yw (C2.out.trans (hy3.chg _))
 clear hy3 m3 m4 mk D2 C2
 obtain ⟨nb,nx,ngb,ngl,nms⟩:=H.out.nov (g:=go) (by rw [Hov.out];rfl)
 have nmo:mb≠go:=nms _ (Zy Hk.out)
 have hgo:=(H.out.hU go (H.out.uo go (by rw [Hov.out];rfl))).1
 have M3:=Yw (show Xs w3 mb (machC T m') from (D3.out.mach (mb,m') (by apply Zy (i:=k);show (d.ms.set k (mb,m'))[k]?=_;rw [Zc (by rw [Hnn.out];exact hkl)])).1.cells)
 have N3:=Yw (show Wq w3 (fun j=>¬ U j) m'.lv m'.ns from (D3.out.mach (mb,m') (by apply Zy (i:=k);show (d.ms.set k (mb,m'))[k]?=_;rw [Zc (by rw [Hnn.out];exact hkl)])).1.ns)
 have B3:=Yw (show Xs w3 go (Zrc d.ops) from ⟨(D3.out.hU go (H.out.uo go (by rw [Hov.out];rfl))).2,fun j=>by
  have:=D3.out.own
  rw [show ({d with x:=x',ms:=d.ms.set k (mb,m'),n:=d.n+1}:Dk).ov=.slice (some ⟨go,0,none⟩) no Co from Hov.out] at this
  exact Own.thaw (E:=opE) this j,fun j hj=>by
  have:=D3.out.own
  rw [show ({d with x:=x',ms:=d.ms.set k (mb,m'),n:=d.n+1}:Dk).ov=.slice (some ⟨go,0,none⟩) no Co from Hov.out] at this
  rw [Zz hj]
  exact Own.at_ (E:=opE) this (Zz hj)⟩)
 have c5:w3.cell? ⟨b,5,none⟩=some (.int .i64 (d.t:Int)):=D3.out.c 5 rfl
 have hOc:∀ f v,(opC o.1)[f]?=some v→w3.cell? ⟨go,zn * 23+f,none⟩=some v:=fun f v hv=>by
  have h23:f < 23:=by have:=(Zr.1 hv).1;rw [Qh] at this;exact this
  have e:(Zrc d.ops)[zn * 23+f]?=some v:=by
   show (Gh (d.ops.map Subtype.val))[zn * 23+f]?=_
   rw [Rg (o:=o.1) (by rw [Zn,Ho.out];rfl) f h23,hv]
  rw [B3.out.at_ _ (Zr.1 e).1,e]
 have hth:∀ f n,f+n≤23→w3.there go (zn * 23+f) n:=fun f n hf=>B3.out.there (by
  show zn * 23+f+n≤(Gh (d.ops.map Subtype.val)).length
  rw [Bt,Zq,Hno.out];omega)
 have fzo:=B3.out.fz
 cases e3:(s == 3)
 ·cases e4:(s == 4)
  ·cases e1:(m.st == 1)
   ·go_wp2_with fail
    go_wp2_with fail
    go_ret
    refine ⟨_,_,_,rfl,D3.out,?_,C3.out,?_,rfl,Yo _⟩
    ·intro j p z h1 h2 h3
     simp only [Zf] at h1 ⊢
     by_cases e:k=j
     ·subst e
      rw [Hz.out] at h2
      obtain rfl:=Option.some.inj h2
      have hq:=Hno.out
      omega
     rw [Zb e] at h1
     exact Hl.out j p z h1 h2 h3
    show (d.ms.set k _).length=_
    rw [Zf]
   have hs1:m.st=1:=by simpa using e1
   have hs3:s≠3:=by simpa using e3
   have h2:m'.st=2:=(Hpar.out hs1).resolve_left hs3
   obtain ⟨_,h16,_,_⟩:=Hmok.out.n0 (by omega) (by omega)
   obtain ⟨Al,Cl,hlv⟩:=N3.out.shape
   have one:m'.lv.oneCell'=true:=by rw [hlv];rfl
   have Hlv:=Yw hlv
   have H16:=Yw h16
   clear hs1 hs3 h2 hlv h16
   go_upto_region 20 with fail
   refine wp_region_held_drew (S:=fun w'=>True∧Xs w' mb (machC T m')∧True) (by kernel_rfl) ?_ (fun hHeld=>?_)
   ·exact ⟨trivial,M3.out.drew,trivial⟩
   obtain ⟨Wd,hWd⟩:∃ W,w3.drew=W:=⟨_,rfl⟩
   have D3:=Yw (D3.out.ext (Yl w3).drew)
   have C3:=Yw (C3.out.drew)
   have M3:=Yw M3.out.drew
   have N3:=Yw (Rd.ext N3.out (Yl w3).drew)
   have c1:w3.drew.cell? ⟨go,zn * 23+1,none⟩=some (.int .i64 o.1.op):=hOc 1 _ rfl
   have c2:w3.drew.cell? ⟨go,zn * 23+2,none⟩=some (.int .i64 o.1.ttl):=hOc 2 _ rfl
   have c3:w3.drew.cell? ⟨go,zn * 23+3,none⟩=some o.1.nv:=hOc 3 _ rfl
   have fzo:∀ j,w3.drew.frozen? ⟨go,j,none⟩=false:=fzo
   rw [hWd] at D3 C3 M3 N3 c1 c2 c3 fzo hHeld
   rw [hWd]
   clear hWd hOc hth
   refine Xw [0,1,2,3,4,5,6,7,8,9,10,11,12,13,14,15,16] 7 (by rfl) (by kernel_rfl) (by kernel_rfl) (fun _ _ d _ _ h=>by cases d<;>exact h) hHeld ?_
   simp only [Z1,Z2,Z3,Zw,Zx]
   repeat (refine Xu (v:=?_) (by kernel_rfl) ?_ ?_;rotate_left;(focus ((intro wT hST;obtain ⟨hS0,hS1,hS2⟩:=hST;obtain ⟨h15,h16,h17,h19,h20,h21,h22,h23,h24,h25,h26⟩:=Zz3 hS1;go_simp);(first|done|(with_reducible rfl))));(try simp only [Act.put,Zv,Zu,Zt]))
   refine Xt ?_
   clear hHeld
   rw [Hlv.out]
   refine wpAnyH_ready (rs:=[17]) (by kernel_rfl) (by simp) ?_;refine Ys (o:=_) rfl (fun K hK=>?_) Yr;go_simp
   have D4:=Yw (D3.out.setOp (z:=zn) (f:=1) (o:=o) (o':=⟨{o.1 with op:=m'.op},o.2⟩) (vs:=[.int .i64 m'.op]) Hov.out Ho.out (by show 1+1≤23;omega) rfl (D3.out.nms o (Zy Ho.out)) (D3.out.n16 o (Zy Ho.out)))
   have c2:(Wd.setCell ⟨go,zn * 23+1,none⟩ (.int .i64 m'.op)).cell? ⟨go,zn * 23+2,none⟩=some (.int .i64 o.1.ttl):=by go_simp
   have c3:(Wd.setCell ⟨go,zn * 23+1,none⟩ (.int .i64 m'.op)).cell? ⟨go,zn * 23+3,none⟩=some o.1.nv:=by go_simp
   have C4:=Yw (C3.out.setCell (p:=⟨go,zn * 23+1,none⟩) (.inl hgo) (.int .i64 m'.op))
   have M4:=Yw (M3.out.far nmo (j:=zn * 23+1) (.int .i64 m'.op))
   have N4:=Yw (Rd.chg N3.out ((Chg.refl (· = go) Wd).setCell (p:=⟨go,zn * 23+1,none⟩) (.inl rfl) (.int .i64 m'.op)) (fun _ hj e=>hj (e ▸ H.out.uo go (by rw [Hov.out];rfl))))
   have hF:∀ j,(Wd.setCell ⟨go,zn * 23+1,none⟩ (.int .i64 m'.op)).frozen? ⟨go,j,none⟩=false:=fun j=>by rw [World.frozen?_setCell];exact fzo j
   refine hK.out _ _ ⟨trivial,M4.out,trivial⟩ (fun hHeld=>?_)
   clear hK K
   try simp only [Act.put,Zv,Zu,Zt]
   obtain ⟨W4,hPW⟩:∃ W,Wd.setCell ⟨go,zn * 23+1,none⟩ (.int .i64 m'.op)=W:=⟨_,rfl⟩
   rw [show Wd.setCells go (zn * 23+1) [.int .i64 m'.op]=W4 from hPW] at D4
   rw [hPW] at C4 M4 N4 hF hHeld
   rw [hPW]
   clear fzo
   have fzo:=hF
   clear hF
   clear c1
   rw [hPW] at c2 c3
   clear hPW
   refine Xw [18,19] 4 (by rfl) (by kernel_rfl) (by kernel_rfl) (fun _ _ d _ _ h=>by cases d<;>exact h) hHeld ?_
   simp only [Z1,Z2,Z3,Zw,Zx]
   repeat (refine Xu (v:=?_) (by kernel_rfl) ?_ ?_;rotate_left;(focus ((intro wT hST;obtain ⟨hS0,hS1,hS2⟩:=hST;obtain ⟨h15,h16,h17,h19,h20,h21,h22,h23,h24,h25,h26⟩:=Zz3 hS1;go_simp);(first|done|(with_reducible rfl))));(try simp only [Act.put,Zv,Zu,Zt]))
   refine Xt ?_
   clear hHeld
   refine wpAnyH_ready (rs:=[20]) (by kernel_rfl) (by simp) ?_;refine Ys (o:=_) rfl (fun K hK=>?_) Yr;go_simp
   have D5:=Yw (D4.out.setOp (z:=zn) (f:=2) (o:=⟨{o.1 with op:=m'.op},o.2⟩) (o':=⟨{o.1 with op:=m'.op,ttl:=m'.ttl},o.2⟩) (vs:=[.int .i64 m'.ttl]) Hov.out (Zc (by rw [Hno.out];exact z2)) (by show 2+1≤23;omega) rfl (D4.out.nms ⟨{o.1 with op:=m'.op},o.2⟩ (Zy (i:=zn) (Zc (by rw [Hno.out];exact z2)))) (H.out.n16 o (Zy Ho.out)))
   have c3:(W4.setCell ⟨go,zn * 23+2,none⟩ (.int .i64 m'.ttl)).cell? ⟨go,zn * 23+3,none⟩=some o.1.nv:=by go_simp
   have C5:=Yw (C4.out.setCell (p:=⟨go,zn * 23+2,none⟩) (.inl hgo) (.int .i64 m'.ttl))
   have M5:=Yw (M4.out.far nmo (j:=zn * 23+2) (.int .i64 m'.ttl))
   have N5:=Yw (Rd.chg N4.out ((Chg.refl (· = go) W4).setCell (p:=⟨go,zn * 23+2,none⟩) (.inl rfl) (.int .i64 m'.ttl)) (fun _ hj e=>hj (e ▸ H.out.uo go (by rw [Hov.out];rfl))))
   have hF:∀ j,(W4.setCell ⟨go,zn * 23+2,none⟩ (.int .i64 m'.ttl)).frozen? ⟨go,j,none⟩=false:=fun j=>by rw [World.frozen?_setCell];exact fzo j
   refine hK.out _ _ ⟨trivial,M5.out,trivial⟩ (fun hHeld=>?_)
   clear hK K
   try simp only [Act.put,Zv,Zu,Zt]
   obtain ⟨W5,hPW⟩:∃ W,W4.setCell ⟨go,zn * 23+2,none⟩ (.int .i64 m'.ttl)=W:=⟨_,rfl⟩
   rw [show W4.setCells go (zn * 23+2) [.int .i64 m'.ttl]=W5 from hPW] at D5
   rw [hPW] at C5 M5 N5 hF hHeld
   rw [hPW]
   clear fzo
   have fzo:=hF
   clear hF
   clear c2
   rw [hPW] at c3
   clear hPW
   refine Xw [21,22] 1 (by rfl) (by kernel_rfl) (by kernel_rfl) (fun _ _ d _ _ h=>by cases d<;>exact h) hHeld ?_
   simp only [Z1,Z2,Z3,Zw,Zx]
   repeat (refine Xu (v:=?_) (by kernel_rfl) ?_ ?_;rotate_left;(focus ((intro wT hST;obtain ⟨hS0,hS1,hS2⟩:=hST;obtain ⟨h15,h16,h17,h19,h20,h21,h22,h23,h24,h25,h26⟩:=Zz3 hS1;go_simp);(first|done|(with_reducible rfl))));(try simp only [Act.put,Zv,Zu,Zt]))
   refine Xt ?_
   clear hHeld
   refine wpAnyH_ready (rs:=[23]) (by kernel_rfl) (by simp) ?_;refine Ys (o:=_) rfl (fun K hK=>?_) Yr;go_simp
   have D6:=Yw (D5.out.setOp (z:=zn) (f:=3) (o:=⟨{o.1 with op:=m'.op,ttl:=m'.ttl},o.2⟩) (o':=⟨{o.1 with op:=m'.op,ttl:=m'.ttl,nv:=.slice Al m'.ns.length Cl,ns:=m'.ns},rfl⟩) (vs:=[.slice Al m'.ns.length Cl]) Hov.out (Zc (by rw [Zf,Hno.out];exact z2)) (by show 3+1≤23;omega) rfl (by show Wq W5 _ (.slice Al m'.ns.length Cl) m'.ns;rw [← Hlv.out];exact N5.out) H16.out)
   have C6:=Yw (C5.out.setCell (p:=⟨go,zn * 23+3,none⟩) (.inl hgo) (.slice Al m'.ns.length Cl))
   have M6:=Yw (M5.out.far nmo (j:=zn * 23+3) (.slice Al m'.ns.length Cl))
   have N6:=Yw (Rd.chg N5.out ((Chg.refl (· = go) W5).setCell (p:=⟨go,zn * 23+3,none⟩) (.inl rfl) (.slice Al m'.ns.length Cl)) (fun _ hj e=>hj (e ▸ H.out.uo go (by rw [Hov.out];rfl))))
   have hF:∀ j,(W5.setCell ⟨go,zn * 23+3,none⟩ (.slice Al m'.ns.length Cl)).frozen? ⟨go,j,none⟩=false:=fun j=>by rw [World.frozen?_setCell];exact fzo j
   refine hK.out _ _ ⟨trivial,M6.out,trivial⟩ (fun hHeld=>?_)
   clear hK K
   try simp only [Act.put,Zv,Zu,Zt]
   obtain ⟨W6,hPW⟩:∃ W,W5.setCell ⟨go,zn * 23+3,none⟩ (.slice Al m'.ns.length Cl)=W:=⟨_,rfl⟩
   rw [show W5.setCells go (zn * 23+3) [.slice Al m'.ns.length Cl]=W6 from hPW] at D6
   rw [hPW] at C6 M6 N6 hF hHeld
   rw [hPW]
   clear fzo
   have fzo:=hF
   clear hF
   clear c3 hPW hHeld
   refine wpAnyH_done (by kernel_rfl) ?_ _
   go_simp
   go_wp2_with fail
   go_ret
   refine ⟨_,_,_,rfl,D6.out,?_,C6.out,?_,rfl,Yo _⟩
   ·intro j p z h1 h2 h3
    simp only [Zf] at h1 ⊢
    by_cases e:k=j
    ·subst e
     rw [Hz.out] at h2
     obtain rfl:=Option.some.inj h2
     have hq:=Hno.out
     omega
    rw [Zb e] at h1
    exact Hl.out j p z h1 h2 h3
   show (d.ms.set k _).length=_
   rw [Zf]
  have c14:=hOc 14 _ rfl
  go_upto_region 21 with fail
  have D4:=Yw (D3.out.setOp (z:=zn) (f:=14) (o:=o) (o':=⟨{o.1 with ans:=(d.t:Int)},o.2⟩) (vs:=[.int .i64 (d.t:Int)]) Hov.out Ho.out (by show 14+1≤23;omega) rfl (D3.out.nms o (Zy Ho.out)) (D3.out.n16 o (Zy Ho.out)))
  have C4:=Yw (C3.out.setCell (p:=⟨go,zn * 23+14,none⟩) (.inl hgo) (.int .i64 (d.t:Int)))
  obtain ⟨W4,hW4⟩:∃ W,w3.setCell ⟨go,zn * 23+14,none⟩ (.int .i64 (d.t:Int))=W:=⟨_,rfl⟩
  rw [show w3.setCells go (zn * 23+14) [.int .i64 (d.t:Int)]=W4 from hW4] at D4
  rw [hW4] at C4
  rw [hW4]
  clear hW4 D3 C3 M3 N3 B3 hOc hth fzo c14
  go_wp2_with fail
  go_ret
  refine ⟨_,_,_,rfl,D4.out,?_,C4.out,?_,rfl,Yo _⟩
  ·intro j p z h1 h2 h3
   simp only [Zf] at h1 ⊢
   by_cases e:k=j
   ·subst e
    rw [Hz.out] at h2
    obtain rfl:=Option.some.inj h2
    have hq:=Hno.out
    omega
   rw [Zb e] at h1
   exact Hl.out j p z h1 h2 h3
  show (d.ms.set k _).length=_
  rw [Zf]
 go_upto_region 14 with fail
 refine wp_region_held_drew (S:=fun w'=>w'.cell? ⟨b,5,none⟩=some (.int .i64 (d.t:Int))∧Xs w' mb (machC T m')∧True) (by kernel_rfl) ?_ (fun hHeld=>?_)
 ·exact ⟨c5,M3.out.drew,trivial⟩
 obtain ⟨Wd,hWd⟩:∃ W,w3.drew=W:=⟨_,rfl⟩
 have D3:=Yw (D3.out.ext (Yl w3).drew)
 have C3:=Yw (C3.out.drew)
 have M3:=Yw M3.out.drew
 have N3:=Yw (Rd.ext N3.out (Yl w3).drew)
 have c13:w3.drew.cell? ⟨go,zn * 23+13,none⟩=some (.int .i64 o.1.dec):=hOc 13 _ rfl
 have c5:w3.drew.cell? ⟨b,5,none⟩=some (.int .i64 (d.t:Int)):=c5
 have fzo:∀ j,w3.drew.frozen? ⟨go,j,none⟩=false:=fzo
 have hth:∀ f n,f+n≤23→w3.drew.there go (zn * 23+f) n:=hth
 rw [hWd] at D3 C3 M3 N3 c13 c5 fzo hth hHeld
 rw [hWd]
 clear hWd hOc
 refine Xw [0,1,2,3,4,5,6,7,8,9,10,11] 4 (by rfl) (by kernel_rfl) (by kernel_rfl) (fun _ _ d _ _ h=>by cases d<;>exact h) hHeld ?_
 simp only [Z1,Z2,Z3,Zw,Zx]
 repeat (refine Xu (v:=?_) (by kernel_rfl) ?_ ?_;rotate_left;(focus ((intro wT hST;obtain ⟨hS0,hS1,hS2⟩:=hST;obtain ⟨h15,h16,h17,h19,h20,h21,h22,h23,h24,h25,h26⟩:=Zz3 hS1;go_simp);(first|done|(with_reducible rfl))));(try simp only [Act.put,Zv,Zu,Zt]))
 refine Xt ?_
 clear hHeld
 refine wpAnyH_ready (rs:=[12]) (by kernel_rfl) (by simp) ?_;refine Ys (o:=_) rfl (fun K hK=>?_) Yr;go_simp
 have D4:=Yw (D3.out.setOp (z:=zn) (f:=13) (o:=o) (o':=⟨{o.1 with dec:=(d.t:Int)},o.2⟩) (vs:=[.int .i64 (d.t:Int)]) Hov.out Ho.out (by show 13+1≤23;omega) rfl (D3.out.nms o (Zy Ho.out)) (D3.out.n16 o (Zy Ho.out)))
 have c5':(Wd.setCell ⟨go,zn * 23+13,none⟩ (.int .i64 (d.t:Int))).cell? ⟨b,5,none⟩=some (.int .i64 (d.t:Int)):=(Tv _ nb).trans c5
 have hth:∀ f n,f+n≤23→(Wd.setCell ⟨go,zn * 23+13,none⟩ (.int .i64 (d.t:Int))).there go (zn * 23+f) n:=fun f n hf=>World.there_setCells (hth f n hf) go (zn * 23+13) [.int .i64 (d.t:Int)]
 have C4:=Yw (C3.out.setCell (p:=⟨go,zn * 23+13,none⟩) (.inl hgo) (.int .i64 (d.t:Int)))
 have M4:=Yw (M3.out.far nmo (j:=zn * 23+13) (.int .i64 (d.t:Int)))
 have N4:=Yw (Rd.chg N3.out ((Chg.refl (· = go) Wd).setCell (p:=⟨go,zn * 23+13,none⟩) (.inl rfl) (.int .i64 (d.t:Int))) (fun _ hj e=>hj (e ▸ H.out.uo go (by rw [Hov.out];rfl))))
 have hF:∀ j,(Wd.setCell ⟨go,zn * 23+13,none⟩ (.int .i64 (d.t:Int))).frozen? ⟨go,j,none⟩=false:=fun j=>by rw [World.frozen?_setCell];exact fzo j
 refine hK.out _ _ ⟨c5',M4.out,trivial⟩ (fun hHeld=>?_)
 clear hK K
 try simp only [Act.put,Zv,Zu,Zt]
 obtain ⟨W4,hPW⟩:∃ W,Wd.setCell ⟨go,zn * 23+13,none⟩ (.int .i64 (d.t:Int))=W:=⟨_,rfl⟩
 rw [show Wd.setCells go (zn * 23+13) [.int .i64 (d.t:Int)]=W4 from hPW] at D4
 rw [hPW] at C4 M4 N4 hF hHeld
 rw [hPW]
 clear fzo
 have fzo:=hF
 clear hF
 rw [hPW] at c5' hth
 clear hPW c13 c5
 refine Xw [13,14] 1 (by rfl) (by kernel_rfl) (by kernel_rfl) (fun _ _ d _ _ h=>by cases d<;>exact h) hHeld ?_
 simp only [Z1,Z2,Z3,Zw,Zx]
 repeat (refine Xu (v:=?_) (by kernel_rfl) ?_ ?_;rotate_left;(focus ((intro wT hST;obtain ⟨hS0,hS1,hS2⟩:=hST;obtain ⟨h15,h16,h17,h19,h20,h21,h22,h23,h24,h25,h26⟩:=Zz3 hS1;go_simp);(first|done|(with_reducible rfl))));(try simp only [Act.put,Zv,Zu,Zt]))
 refine Xt ?_
 clear hHeld
 refine wpAnyH_ready (rs:=[15]) (by kernel_rfl) (by simp) ?_;refine Ys (o:=_) rfl (fun K hK=>?_) Yr
 refine Ug rfl _ _ _ rfl go (zn * 23+15) (Wk m'.ans).toArray rfl rfl (hth 15 8 (by omega)) (by rw [Ji];rfl) (Gg _) ?_
 have D5:=Yw (D4.out.setOp (z:=zn) (f:=15) (o:=⟨{o.1 with dec:=(d.t:Int)},o.2⟩) (o':=⟨{o.1 with dec:=(d.t:Int),res:=m'.ans},o.2⟩) (vs:=Wk m'.ans) Hov.out (Zc (by rw [Hno.out];exact z2)) (by show 15+8≤23;omega) rfl (D4.out.nms ⟨{o.1 with dec:=(d.t:Int)},o.2⟩ (Zy (i:=zn) (Zc (by rw [Hno.out];exact z2)))) (H.out.n16 o (Zy Ho.out)))
 have cc:Chg (· = go) W4 (W4.setCells go (zn * 23+15) (Wk m'.ans)):=Xl (S:=(· = go)) (.inl rfl) (Chg.refl _ _)
 have C5:=Yw (Xl (S:=fun j=>B≤j) (b:=go) (.inl hgo) (vs:=Wk m'.ans) (o:=zn * 23+15) C4.out)
 have M5:=Yw (M4.out.chg cc nmo)
 have c5:(W4.setCells go (zn * 23+15) (Wk m'.ans)).cell? ⟨b,5,none⟩=some (.int .i64 (d.t:Int)):=(cc.cell (p:=⟨b,5,none⟩) D4.out.cells.lt nb).trans c5'
 have hth:∀ f n,f+n≤23→(W4.setCells go (zn * 23+15) (Wk m'.ans)).there go (zn * 23+f) n:=fun f n hf=>World.there_setCells (hth f n hf) go (zn * 23+15) (Wk m'.ans)
 refine hK.out _ _ ⟨c5,M5.out,trivial⟩ (fun hHeld=>?_)
 clear hHeld hK K cc
 refine wpAnyH_done (by kernel_rfl) ?_ _
 obtain ⟨W5,hW5⟩:∃ W,W4.setCells go (zn * 23+15) (Wk m'.ans)=W:=⟨_,rfl⟩
 rw [hW5] at D5 C5 M5 c5 hth
 rw [show W4.setCells go (zn * 23+15) (Wk m'.ans).toArray.toList=W5 from hW5]
 clear hW5 c5'
 go_simp
 cases e1:(m.st == 1)
 ·go_wp2_with fail
  go_wp2_with fail
  go_ret
  refine ⟨_,_,_,rfl,D5.out,?_,C5.out,?_,rfl,Yo _⟩
  ·intro j p z h1 h2 h3
   simp only [Zf] at h1 ⊢
   by_cases e:k=j
   ·subst e
    rw [Hz.out] at h2
    obtain rfl:=Option.some.inj h2
    have hq:=Hno.out
    omega
   rw [Zb e] at h1
   exact Hl.out j p z h1 h2 h3
  show (d.ms.set k _).length=_
  rw [Zf]
 obtain ⟨h15,h16,h17,h19,h20,h21,h22,h23,h24,h25,h26⟩:=Zz3 M5.out
 have D6:=Yw (D5.out.setOp (z:=zn) (f:=4) (o:=⟨{o.1 with dec:=(d.t:Int),res:=m'.ans},o.2⟩) (o':=⟨{o.1 with dec:=(d.t:Int),res:=m'.ans,bad:=m'.ans},o.2⟩) (vs:=Wk m'.ans) Hov.out (Zc (by rw [Zf,Hno.out];exact z2)) (by show 4+8≤23;omega) rfl (D5.out.nms ⟨{o.1 with dec:=(d.t:Int),res:=m'.ans},o.2⟩ (Zy (i:=zn) (Zc (by rw [Zf,Hno.out];exact z2)))) (H.out.n16 o (Zy Ho.out)))
 have C6:=Yw (Xl (S:=fun j=>B≤j) (b:=go) (.inl hgo) (vs:=Wk m'.ans) (o:=zn * 23+4) C5.out)
 go_upto_region 21 with (refine wpList_store_mid rfl _ _ _ rfl go (zn * 23+4) (Wk m'.ans).toArray rfl rfl (hth 4 8 (by omega)) (by rw [Ji];rfl) (Gg _) ?_)
 obtain ⟨W6,hW6⟩:∃ W,W5.setCells go (zn * 23+4) (Wk m'.ans)=W:=⟨_,rfl⟩
 rw [hW6] at D6 C6
 rw [show W5.setCells go (zn * 23+4) (Wk m'.ans).toArray.toList=W6 from hW6]
 clear hW6 h15 h16 h17 h19 h20 h21 h22 h23 h24 h25 h26 hth c5
 go_wp2_with fail
 go_ret
 refine ⟨_,_,_,rfl,D6.out,?_,C6.out,?_,rfl,Yo _⟩
 ·intro j p z h1 h2 h3
  simp only [Zf] at h1 ⊢
  by_cases e:k=j
  ·subst e
   rw [Hz.out] at h2
   obtain rfl:=Option.some.inj h2
   have hq:=Hno.out
   omega
  rw [Zb e] at h1
  exact Hl.out j p z h1 h2 h3
 show (d.ms.set k _).length=_
 rw [Zf]
theorem Zw7 {U:Nat→Prop} (T:Tbl) (hf:Few T) (hu:Uq T) (b B k:Nat) (d:Dk) (w:World) (h:Wt w U T b B d) (hn:d.n≤99999) (hl:Ox d) (hk:k < d.ms.length):Calls Tryz.prog 78 #[.pointer (some ⟨b,0,none⟩),.int .i64 (k:Int)] w (N7 T b B d w):=by
 obtain ⟨mb,m,hm⟩:∃ mb m,d.ms[k]?=some (mb,m):=⟨_,_,Zz hk⟩
 by_cases hs:m.st=0
 ·exact Zw2 T b B k mb m d w h hl hm hs
 exact Zv1 T hf hu b B k mb m d w h hn hl hm hs
theorem Zps {now n:Int} (h0:0≤now) (h1:now≤1073741824):0≤Ns now n∧Ns now n≤1073741824:=by
 have ht:=L9 ⟨h0,h1⟩
 by_cases hn:n < 0
 ·rw [Ie ht hn];exact ⟨h0,h1⟩
 by_cases hf:1073741824 - now < n
 ·rw [Ny ht (by omega) hf];omega
 rw [Io ht (by omega) (by omega)];omega
theorem Zs5 {S:Nat→Prop} (xb:Nat) (x:Shr) (n:Int) (w:World) (h:V3 w S xb x) (hb:¬ S xb):Calls Tryz.prog 79 #[.pointer (some ⟨xb,0,none⟩),.int .i64 n] w fun e w'=>e=.returned (.tuple #[])∧V3 w' S xb {x with clock:=Ns x.clock n}∧Chg (· = xb) w w':=by
 have x2:w.cell? ⟨xb,2,none⟩=some (.int .i64 x.clock):=h.c 2 rfl
 have fz:=h.cells.fz
 have H:=Yw h
 clear h
 go_enter Tryz.func79,Tryz.ntmps79
 go_wp2_with (go_at_call 116;refine (Ou _ _ _).mono ?_;rintro e w' ⟨rfl,rfl⟩)
 have c:Chg (· = xb) w (w.setCell ⟨xb,2,none⟩ (.int .i64 (Ns x.clock n))):=(Chg.refl (· = xb) w).setCell (p:=⟨xb,2,none⟩) (.inl rfl) _
 refine bodyPost_end (v:=.tuple #[]) (by simp [results,Tryz.results79,go_sem]) rfl ⟨rfl,⟨H.out.cells.set (j:=2) (by show 2 < 6;omega) _,Rd.chg H.out.ks c (fun _ hk e=>hb (e ▸ hk)),Rd.chg H.out.rs c (fun _ hk e=>hb (e ▸ hk))⟩,c⟩
def Zpn (T:Tbl) (b B:Nat) (d:Dk) (w:World) (e:Ending) (w':World):Prop :=
 ∃ (r:Int) (d':Dk) (U':Nat→Prop),e=.returned (.int .i64 r)∧Wt w' U' T b B d'∧Ox d'∧Chg (fun k=>B≤k) w w'∧d'.ms.length=d.ms.length∧d'.t=d.t+1∧d'.n≤d.n+1
theorem Zqd {U:Nat→Prop} (T:Tbl) (hf:Few T) (hu:Uq T) (b B:Nat) (d:Dk) (K C n:Int) (x:ByteArray) (w:World) (h:Wt w U T b B d) (hn:d.n≤99999) (ht:d.t≤1000000) (hl:Ox d) (hm:0 < d.ms.length):Calls Tryz.prog 32 #[.pointer (some ⟨b,0,none⟩),.agg #[.int .i64 K,.int .i64 C,.int .i64 n,.string x]] w (Zpn T b B d w):=by
 obtain ⟨nn,hnn⟩:∃ n,d.ms.length=n:=⟨_,rfl⟩
 rw [hnn] at hm
 have hn64:nn≤64:=by have:=h.lm;omega
 obtain ⟨gm,om,cm,hmv,hpm⟩:=Ni h.ptr (k:=0) (x:=(d.ms[0]'(by omega)).1) (by rw [Zn,Zz (by omega)];rfl)
 rw [Zq,hnn] at hmv
 clear hpm
 have hx0:=(Yl w).alloc (.cells #[.int .i64 K,.int .i64 C,.int .i64 n,.string x] 78)
 have hA:=Xs.new w #[.int .i64 K,.int .i64 C,.int .i64 n,.string x] 78
 obtain ⟨W0,hW0⟩:∃ W,w.alloc (.cells #[.int .i64 K,.int .i64 C,.int .i64 n,.string x] 78)=W:=⟨_,rfl⟩
 obtain ⟨ab,hab⟩:∃ x,w.heap.size=x:=⟨_,rfl⟩
 rw [hW0] at hx0 hA
 rw [hab] at hA
 have hBa:B≤ab:=by have:=h.big;omega
 have H:=Yw h
 have D0:=Yw (h.ext hx0)
 have A0:=Yw hA
 have X0:=Yw hx0
 have Hl:=Yw hl
 have Hnn:=Yw hnn
 have Hmv:=Yw hmv
 have Hf:=Yw hf
 have Hu:=Yw hu
 have Hn:=Yw hn
 have Ht:=Yw ht
 have Hab:=Yw hab
 clear h hl hnn hmv hx0 hA hf hu hn ht
 go_enter Tryz.func32,Tryz.ntmps32
 go_upto_region 2 with fail
 try rw [hW0]
 try rw [hab]
 clear hW0 hab
 have a0:W0.cell? ⟨ab,0,none⟩=some (.int .i64 K):=(A0.out.ext (Yl W0)).at_ 0 (by simp)
 have a1:W0.cell? ⟨ab,1,none⟩=some (.int .i64 C):=(A0.out.ext (Yl W0)).at_ 1 (by simp)
 have a2:W0.cell? ⟨ab,2,none⟩=some (.int .i64 n):=(A0.out.ext (Yl W0)).at_ 2 (by simp)
 have a3:W0.cell? ⟨ab,3,none⟩=some (.string x):=(A0.out.ext (Yl W0)).at_ 3 (by simp)
 have b1:W0.cell? ⟨b,1,none⟩=some (.slice (some ⟨gm,om,none⟩) nn cm):=by rw [← Hmv.out];exact (D0.out.ext (Yl W0)).c 1 rfl
 have l0:=lat a0
 have l1:=lat a1
 have l2:=lat a2
 have l3:=lat a3
 have e1:=lat b1
 obtain ⟨kn,hkn⟩:∃ q:Bool,(decide (0≤C) && decide (C < (nn:Int)))=q:=⟨_,rfl⟩
 have Hkn:=Yw hkn
 clear hkn
 go_cut [6] (fun o wq=>o=.bool kn∧Ext W0 wq)
 case first =>
  rename_i J1 K1 hJ hM
  cases q0:decide (0≤C)
  ·have hk:=Hkn.out
   rw [q0] at hk
   obtain rfl:kn=false:=by rw [← hk];rfl
   clear hk
   have hun:=Yb
   refine Y0 (by kernel_rfl) (by kernel_rfl) ?_
   repeat ((with_reducible refine Yv ?_);intro K hK;go_simp;(with_reducible refine hK _ ?_);clear hK K)
   (with_reducible refine Yu ?_)
   intro w1 hy1
   clear hun
   try simp only [Yc]
   refine hM _ _ (hJ _ _ ?_)
   (repeat apply Exists.intro)
   exact ⟨⟨rfl,hy1⟩,rfl⟩
  cases q1:decide (C < (nn:Int))
  ·have hk:=Hkn.out
   rw [q0,q1] at hk
   obtain rfl:kn=false:=by rw [← hk];rfl
   clear hk
   have hun:=Yb
   refine Y0 (by kernel_rfl) (by kernel_rfl) ?_
   repeat ((with_reducible refine Yv ?_);intro K hK;go_simp;(with_reducible refine hK _ ?_);clear hK K)
   (with_reducible refine Yu ?_)
   intro w1 hy1
   clear hun
   try simp only [Yc]
   refine hM _ _ (hJ _ _ ?_)
   (repeat apply Exists.intro)
   exact ⟨⟨rfl,hy1⟩,rfl⟩
  have hk:=Hkn.out
  rw [q0,q1] at hk
  obtain rfl:kn=true:=by rw [← hk];rfl
  clear hk
  have hun:=Yb
  refine Y0 (by kernel_rfl) (by kernel_rfl) ?_
  repeat ((with_reducible refine Yv ?_);intro K hK;go_simp;(with_reducible refine hK _ ?_);clear hK K)
  (with_reducible refine Yu ?_)
  intro w1 hy1
  clear hun
  try simp only [Yc]
  refine hM _ _ (hJ _ _ ?_)
  (repeat apply Exists.intro)
  exact ⟨⟨rfl,hy1⟩,rfl⟩
 obtain ⟨rfl,hy1⟩:=hcut
 rename World=>w1
 have D1:=Yw (D0.out.ext hy1)
 have C1:=Yw (show Chg (fun j=>B≤j) w w1 from (X0.out.trans hy1).chg _)
 clear a0 a1 a2 a3 b1 l0 l1 l2 l3 e1
 have a0:w1.cell? ⟨ab,0,none⟩=some (.int .i64 K):=(A0.out.ext hy1).at_ 0 (by simp)
 have a1:w1.cell? ⟨ab,1,none⟩=some (.int .i64 C):=(A0.out.ext hy1).at_ 1 (by simp)
 have a2:w1.cell? ⟨ab,2,none⟩=some (.int .i64 n):=(A0.out.ext hy1).at_ 2 (by simp)
 have a3:w1.cell? ⟨ab,3,none⟩=some (.string x):=(A0.out.ext hy1).at_ 3 (by simp)
 have b1:w1.cell? ⟨b,1,none⟩=some (.slice (some ⟨gm,om,none⟩) nn cm):=by rw [← Hmv.out];exact (D0.out.ext hy1).c 1 rfl
 by_cases hK1:K=1
 ·subst hK1
  cases kn with
  | false =>
   go_upto_region 15 with fail
   have c5:w1.cell? ⟨b,5,none⟩=some (.int .i64 ((d).t:Int)):=D1.out.c 5 rfl
   have fz:=D1.out.cells.fz
   obtain ⟨t1,ht1⟩:∃ q:Nat,(d).t+1=q:=⟨_,rfl⟩
   have r1:IntKind.i64.wrap (((d).t:Int)+1)=(t1:Int):=by rw [Yq _ (by have:=Ht.out;have:=trivial;omega)];omega
   go_wp2_with fail
   go_ret
   refine ⟨_,{d with t:=t1},_,rfl,D1.out.setT t1,Hl.out,(C1.out).setCell (p:=⟨b,5,none⟩) (.inl (H.out.hU _ H.out.ub).1) _,?_,?_,?_⟩
   ·rfl
   ·exact ht1.symm
   exact Nat.le_succ _
  | true =>
   have hq:=Hkn.out
   rw [Bool.and_eq_true,decide_eq_true_eq,decide_eq_true_eq] at hq
   obtain ⟨q0,q1⟩:=hq
   obtain ⟨c,rfl⟩:∃ q:Nat,C=q:=⟨C.toNat,by omega⟩
   have q2:c < nn:=by omega
   obtain ⟨s,hsx⟩:∃ s,d.bx[c]?=some s:=⟨d.bx[c]'(by rw [H.out.lb,Hnn.out];exact q2),Zz _⟩
   obtain ⟨l,hlx⟩:∃ l,d.bs_[c]?=some l:=⟨d.bs_[c]'(by rw [H.out.lbs,Hnn.out];exact q2),Zz _⟩
   obtain ⟨hbr,hb8⟩:=D1.out.boxes c s l hsx hlx
   obtain ⟨sa,sn,sc⟩:=s
   obtain ⟨_,_,hse,hsc,hscm⟩:=hbr.shape
   simp only [Sl.v,Ye] at hse
   obtain ⟨rfl,hsn,rfl⟩:=hse
   have hbx:d.bx.length=nn:=by rw [H.out.lb];exact Hnn.out
   have b2:w1.cell? ⟨b,2,none⟩=some (.slice (some ⟨d.gb,0,none⟩) nn d.cb):=by rw [← hbx];exact D1.out.c 2 rfl
   have bk:w1.cell? ⟨d.gb,c,none⟩=some (.slice sa sn sc):=Own.at_ (E:=ssE) D1.out.box (Rx hsx)
   have e2:=lat b2
   have ek:=lat bk
   have l0:=lat a0
   have l1:=lat a1
   have l2:=lat a2
   have l3:=lat a3
   have e1:=lat b1
   have Hsx:=Yw hsx
   have Hlx:=Yw hlx
   have Hsn:=Yw hsn
   clear hsx hlx hbr hsc hscm hsn hbx
   go_upto_region 5 with fail
   cases p0:decide ((4096:Int) < (x.size:Int))
   ·cases p1:decide ((8:Int)≤(sn:Int))
    ·have hun:=Yb
     refine Y0 (by kernel_rfl) (by kernel_rfl) ?_
     repeat ((with_reducible refine Yv ?_);intro K hK;go_simp;(with_reducible refine hK _ ?_);clear hK K)
     (with_reducible refine Yu ?_)
     intro w2 hy2
     clear hun
     try simp only [Yc]
     have D2:=Yw (D1.out.ext hy2)
     have C2:=Yw (C1.out.trans (hy2.chg _))
     have Y2:=Yw (hy1.trans hy2)
     have hs8:sn < 8:=by have:=of_decide_eq_false p1;omega
     have Hr2:=Yw (show RdE Wr w2 (fun j=>¬ U j) (.slice sa sn sc) l from (D2.out.boxes c _ l Hsx.out Hlx.out).1)
     clear a0 a1 a2 a3 b1 b2 bk l0 l1 l2 l3 e1 e2 ek hy1 hy2 D1 C1
     have a0:w2.cell? ⟨ab,0,none⟩=some (.int .i64 1):=(A0.out.ext Y2.out).at_ 0 (by simp)
     have a1:w2.cell? ⟨ab,1,none⟩=some (.int .i64 (c:Int)):=(A0.out.ext Y2.out).at_ 1 (by simp)
     have a3:w2.cell? ⟨ab,3,none⟩=some (.string x):=(A0.out.ext Y2.out).at_ 3 (by simp)
     have b2:w2.cell? ⟨b,2,none⟩=some (.slice (some ⟨d.gb,0,none⟩) nn d.cb):=by rw [show nn=d.bx.length from by rw [H.out.lb];exact Hnn.out.symm];exact D2.out.c 2 rfl
     have bk:w2.cell? ⟨d.gb,c,none⟩=some (.slice sa sn sc):=Own.at_ (E:=ssE) D2.out.box (Rx Hsx.out)
     go_upto_region 8 with fail
     have e2:=lat b2
     have ek:=lat bk
     have l1:=lat a1
     have l3:=lat a3
     refine Vv (S:=Lat w2) 19 21 (by kernel_rfl) (by omega) (by kernel_rfl) (by kernel_rfl) ?_
     refine Xw [0,1,2,3,4,5,6,7,8,9,10,11,12,13,15,16] 3 (by rfl) (by kernel_rfl) (by kernel_rfl) (fun _ _ d _ _ h=>by cases d<;>exact h) Lat.drew ?_
     simp only [Z1,Z2,Z3,Zw,Zx]
     repeat (refine Xu (v:=?_) (by kernel_rfl) ?_ ?_;rotate_left;(focus ((rintro wT ⟨pT,rfl⟩;go_simp);(first|done|(with_reducible rfl))));(try simp only [Act.put,Zv,Zu,Zt]))
     refine Xt ?_
     clear e2 ek l1 l3
     refine wpAnyH_ready (rs:=[14,17]) (by kernel_rfl) (by simp) ?_
     refine Ys (o:=_) rfl (fun K hK=>?_) (Ys (o:=_) rfl (fun K hK=>?_) Yr)
     ·refine Xa Wr (Operand.const (Value.slice none 0 0)) (.tmp 67) 24 (by rfl) (by rfl) (by rfl) (by rfl) (Own.nil Wr _ w2.heap.size) (by rfl) (Rd.ext Hr2.out (Yl w2).drew) (by rw [← Hsn.out];show 0+sn≤_;omega) (by show 16≤1000;omega) (Yo _) ?_
      intro A5 n5 c5 w5 hg5
      have G5:=Yw hg5
      have Y5:=Yw (hg5.ext w2 (Yl w2).drew (Yo _))
      refine hK.out _ _ (Lat.of Y5.out) (fun hHeld=>?_)
      clear hHeld hK K hg5
      try simp only [Act.put,Zv,Zu,Zt]
      refine wpAnyH_ready (rs:=[17]) (by kernel_rfl) (by simp) ?_;refine Ys (o:=_) rfl (fun K hK=>?_) Yr;go_simp
      have Y6:=Yw (Y5.out.alloc (.cells #[.string x] 9))
      have O6:=Yw (G5.out.own.ext ((Yl w5).alloc (.cells #[.string x] 9)))
      have R6:=Yw (K3 w5 x 9 _ rfl)
      have B6:=Yw (show w2.heap.size≤(w5.alloc (.cells #[.string x] 9)).heap.size from Y6.out.size)
      obtain ⟨W6,hW6⟩:∃ W,w5.alloc (.cells #[.string x] 9)=W:=⟨_,rfl⟩
      rw [hW6] at Y6 O6 R6 B6
      try rw [hW6]
      clear hW6
      obtain ⟨gt,hgt⟩:∃ q,w5.heap.size=q:=⟨_,rfl⟩
      try rw [hgt] at R6
      try rw [hgt]
      clear hgt
      refine hK.out _ _ (Lat.of Y6.out) (fun hHeld=>?_)
      clear hHeld hK K
      try simp only [Act.put,Zv,Zu,Zt]
      refine wpAnyH_ready (rs:=[18]) (by kernel_rfl) (by simp) ?_;refine Ys (o:=_) rfl (fun K hK=>?_) Yr
      refine Xa Wr (.tmp 68) (.tmp 71) 24 (by rfl) (by rfl) (by rfl) (by rfl) O6.out (by rfl) R6.out (by rw [Zo,← Hsn.out];show sn+1≤_;omega) (by show 16≤1000;omega) B6.out ?_
      intro A7 n7 c7 w7 hg7
      have G7:=Yw hg7
      have Y7:=Yw (hg7.ext w2 Y6.out (Yo _))
      refine hK.out _ _ (Lat.of Y7.out) (fun hHeld=>?_)
      clear hHeld hK K hg7
      refine wpAnyH_done (by kernel_rfl) ?_ _
      simp only [Vq,Z4,Z5]
      try simp only [Act.put,Zv,Zu,Zt]
      have D7:=Yw (D2.out.ext Y7.out)
      have hlen7:n7=l.length+1:=by rw [G7.out.len,Zo,Zs];rfl
      have r7:RdE Wr w7 (fun j=>¬ U j) (Sl.v ⟨A7,n7,c7⟩) (l++[x]):=by
       have h7:=G7.out.own.rd
       rw [Zo] at h7
       exact Rd.mono h7 fun j hj _ hu=>by have:=(D2.out.hU j hu).2;omega
      have D8:=Yw (D7.out.setBox (k:=c) (by rw [Hnn.out];exact q2) ⟨A7,n7,c7⟩ (l++[x]) r7 (by rw [Zs,← Hsn.out];show sn+1≤8;omega))
      have C8:=Yw ((C2.out.trans (Y7.out.chg _)).setCell (p:=⟨d.gb,c,none⟩) (.inl (H.out.hU _ H.out.ugb).1) (Sl.v ⟨A7,n7,c7⟩))
      have ck:w7.cell? ⟨d.gb,c,none⟩=some (.slice sa sn sc):=Own.at_ (E:=ssE) D7.out.box (Rx Hsx.out)
      have fz:w7.frozen? ⟨d.gb,c,none⟩=false:=Own.thaw (E:=ssE) D7.out.box c
      clear r7 hlen7 a0 a1 a3 b2 bk
      go_upto_region 15 with fail
      obtain ⟨W8,hW8⟩:∃ W,w7.setCell ⟨d.gb,c,none⟩ (.slice A7 n7 c7)=W:=⟨_,rfl⟩
      rw [show w7.setCell ⟨d.gb,c,none⟩ (Sl.v ⟨A7,n7,c7⟩)=W8 from hW8] at D8 C8
      rw [hW8]
      clear hW8 ck fz D7
      have c5:W8.cell? ⟨b,5,none⟩=some (.int .i64 (({d with bx:=d.bx.set c ⟨A7,n7,c7⟩,bs_:=d.bs_.set c (l++[x])}).t:Int)):=D8.out.c 5 rfl
      have fz:=D8.out.cells.fz
      obtain ⟨t1,ht1⟩:∃ q:Nat,({d with bx:=d.bx.set c ⟨A7,n7,c7⟩,bs_:=d.bs_.set c (l++[x])}).t+1=q:=⟨_,rfl⟩
      have r1:IntKind.i64.wrap ((({d with bx:=d.bx.set c ⟨A7,n7,c7⟩,bs_:=d.bs_.set c (l++[x])}).t:Int)+1)=(t1:Int):=by rw [Yq _ (by have:=Ht.out;have:=(show ({d with bx:=d.bx.set c ⟨A7,n7,c7⟩,bs_:=d.bs_.set c (l++[x])}:Dk).t=d.t from rfl);omega)];omega
      go_wp2_with fail
      go_ret
      refine ⟨_,{ {d with bx:=d.bx.set c ⟨A7,n7,c7⟩,bs_:=d.bs_.set c (l++[x])} with t:=t1},_,rfl,D8.out.setT t1,Hl.out,(C8.out).setCell (p:=⟨b,5,none⟩) (.inl (H.out.hU _ H.out.ub).1) _,?_,?_,?_⟩
      ·rfl
      ·exact ht1.symm
      exact Nat.le_succ _
     go_simp
     have Y5:=Yw ((Yl w2).alloc (.cells #[.string x] 9)).drew
     have R5:=Yw (RdE.ext (K3 w2 x 9 w2.heap.size rfl) (Yl _).drew)
     have B5:=Yw (show w2.heap.size≤(w2.alloc (.cells #[.string x] 9)).drew.heap.size from Y5.out.size)
     obtain ⟨W5,hW5⟩:∃ W,(w2.alloc (.cells #[.string x] 9)).drew=W:=⟨_,rfl⟩
     rw [hW5] at Y5 R5 B5
     try rw [hW5]
     clear hW5
     obtain ⟨gt,hgt⟩:∃ q,w2.heap.size=q:=⟨_,rfl⟩
     rw [hgt] at R5
     try rw [hgt]
     refine hK.out _ _ (Lat.of Y5.out) (fun hHeld=>?_)
     clear hHeld hK K
     try simp only [Act.put,Zv,Zu,Zt]
     refine wpAnyH_ready (rs:=[14]) (by kernel_rfl) (by simp) ?_;refine Ys (o:=_) rfl (fun K hK=>?_) Yr
     refine Xa Wr (Operand.const (Value.slice none 0 0)) (.tmp 67) 24 (by rfl) (by rfl) (by rfl) (by rfl) (Own.nil Wr _ w2.heap.size) (by rfl) (Rd.ext Hr2.out Y5.out) (by rw [← Hsn.out];show 0+sn≤_;omega) (by show 16≤1000;omega) B5.out ?_
     intro A5 n5 c5 w6 hg5
     have G5:=Yw hg5
     have Y6:=Yw (hg5.ext w2 Y5.out (Yo _))
     have O6:=Yw hg5.own
     have R6:=Yw (Rd.chg R5.out hg5.chg (fun k _ e=>by cases e))
     have B6:=Yw (show w2.heap.size≤w6.heap.size from Y6.out.size)
     clear hgt
     refine hK.out _ _ (Lat.of Y6.out) (fun hHeld=>?_)
     clear hHeld hK K hg5
     try simp only [Act.put,Zv,Zu,Zt]
     refine wpAnyH_ready (rs:=[18]) (by kernel_rfl) (by simp) ?_;refine Ys (o:=_) rfl (fun K hK=>?_) Yr
     refine Xa Wr (.tmp 68) (.tmp 71) 24 (by rfl) (by rfl) (by rfl) (by rfl) O6.out (by rfl) R6.out (by rw [Zo,← Hsn.out];show sn+1≤_;omega) (by show 16≤1000;omega) B6.out ?_
     intro A7 n7 c7 w7 hg7
     have G7:=Yw hg7
     have Y7:=Yw (hg7.ext w2 Y6.out (Yo _))
     refine hK.out _ _ (Lat.of Y7.out) (fun hHeld=>?_)
     clear hHeld hK K hg7
     refine wpAnyH_done (by kernel_rfl) ?_ _
     simp only [Vq,Z4,Z5]
     try simp only [Act.put,Zv,Zu,Zt]
     have D7:=Yw (D2.out.ext Y7.out)
     have hlen7:n7=l.length+1:=by rw [G7.out.len,Zo,Zs];rfl
     have r7:RdE Wr w7 (fun j=>¬ U j) (Sl.v ⟨A7,n7,c7⟩) (l++[x]):=by
      have h7:=G7.out.own.rd
      rw [Zo] at h7
      exact Rd.mono h7 fun j hj _ hu=>by have:=(D2.out.hU j hu).2;omega
     have D8:=Yw (D7.out.setBox (k:=c) (by rw [Hnn.out];exact q2) ⟨A7,n7,c7⟩ (l++[x]) r7 (by rw [Zs,← Hsn.out];show sn+1≤8;omega))
     have C8:=Yw ((C2.out.trans (Y7.out.chg _)).setCell (p:=⟨d.gb,c,none⟩) (.inl (H.out.hU _ H.out.ugb).1) (Sl.v ⟨A7,n7,c7⟩))
     have ck:w7.cell? ⟨d.gb,c,none⟩=some (.slice sa sn sc):=Own.at_ (E:=ssE) D7.out.box (Rx Hsx.out)
     have fz:w7.frozen? ⟨d.gb,c,none⟩=false:=Own.thaw (E:=ssE) D7.out.box c
     clear r7 hlen7 a0 a1 a3 b2 bk
     go_upto_region 15 with fail
     obtain ⟨W8,hW8⟩:∃ W,w7.setCell ⟨d.gb,c,none⟩ (.slice A7 n7 c7)=W:=⟨_,rfl⟩
     rw [show w7.setCell ⟨d.gb,c,none⟩ (Sl.v ⟨A7,n7,c7⟩)=W8 from hW8] at D8 C8
     rw [hW8]
     clear hW8 ck fz D7
     have c5:W8.cell? ⟨b,5,none⟩=some (.int .i64 (({d with bx:=d.bx.set c ⟨A7,n7,c7⟩,bs_:=d.bs_.set c (l++[x])}).t:Int)):=D8.out.c 5 rfl
     have fz:=D8.out.cells.fz
     obtain ⟨t1,ht1⟩:∃ q:Nat,({d with bx:=d.bx.set c ⟨A7,n7,c7⟩,bs_:=d.bs_.set c (l++[x])}).t+1=q:=⟨_,rfl⟩
     have r1:IntKind.i64.wrap ((({d with bx:=d.bx.set c ⟨A7,n7,c7⟩,bs_:=d.bs_.set c (l++[x])}).t:Int)+1)=(t1:Int):=by rw [Yq _ (by have:=Ht.out;have:=(show ({d with bx:=d.bx.set c ⟨A7,n7,c7⟩,bs_:=d.bs_.set c (l++[x])}:Dk).t=d.t from rfl);omega)];omega
     go_wp2_with fail
     go_ret
     refine ⟨_,{ {d with bx:=d.bx.set c ⟨A7,n7,c7⟩,bs_:=d.bs_.set c (l++[x])} with t:=t1},_,rfl,D8.out.setT t1,Hl.out,(C8.out).setCell (p:=⟨b,5,none⟩) (.inl (H.out.hU _ H.out.ub).1) _,?_,?_,?_⟩
     ·rfl
     ·exact ht1.symm
     exact Nat.le_succ _
    have hun:=Yb
    refine Y0 (by kernel_rfl) (by kernel_rfl) ?_
    repeat ((with_reducible refine Yv ?_);intro K hK;go_simp;(with_reducible refine hK _ ?_);clear hK K)
    (with_reducible refine Yu ?_)
    intro w2 hy2
    clear hun
    try simp only [Yc]
    have D2:=Yw (D1.out.ext hy2)
    have C2:=Yw (C1.out.trans (hy2.chg _))
    go_upto_region 15 with fail
    have c5:w2.cell? ⟨b,5,none⟩=some (.int .i64 ((d).t:Int)):=D2.out.c 5 rfl
    have fz:=D2.out.cells.fz
    obtain ⟨t1,ht1⟩:∃ q:Nat,(d).t+1=q:=⟨_,rfl⟩
    have r1:IntKind.i64.wrap (((d).t:Int)+1)=(t1:Int):=by rw [Yq _ (by have:=Ht.out;have:=trivial;omega)];omega
    go_wp2_with fail
    go_ret
    refine ⟨_,{d with t:=t1},_,rfl,D2.out.setT t1,Hl.out,(C2.out).setCell (p:=⟨b,5,none⟩) (.inl (H.out.hU _ H.out.ub).1) _,?_,?_,?_⟩
    ·rfl
    ·exact ht1.symm
    exact Nat.le_succ _
   have hun:=Yb
   refine Y0 (by kernel_rfl) (by kernel_rfl) ?_
   repeat ((with_reducible refine Yv ?_);intro K hK;go_simp;(with_reducible refine hK _ ?_);clear hK K)
   (with_reducible refine Yu ?_)
   intro w2 hy2
   clear hun
   try simp only [Yc]
   have D2:=Yw (D1.out.ext hy2)
   have C2:=Yw (C1.out.trans (hy2.chg _))
   go_upto_region 15 with fail
   have c5:w2.cell? ⟨b,5,none⟩=some (.int .i64 ((d).t:Int)):=D2.out.c 5 rfl
   have fz:=D2.out.cells.fz
   obtain ⟨t1,ht1⟩:∃ q:Nat,(d).t+1=q:=⟨_,rfl⟩
   have r1:IntKind.i64.wrap (((d).t:Int)+1)=(t1:Int):=by rw [Yq _ (by have:=Ht.out;have:=trivial;omega)];omega
   go_wp2_with fail
   go_ret
   refine ⟨_,{d with t:=t1},_,rfl,D2.out.setT t1,Hl.out,(C2.out).setCell (p:=⟨b,5,none⟩) (.inl (H.out.hU _ H.out.ub).1) _,?_,?_,?_⟩
   ·rfl
   ·exact ht1.symm
   exact Nat.le_succ _
 have f1:(K == 1)=false:=by simp [hK1]
 have l0:=lat a0
 have l1:=lat a1
 have l2:=lat a2
 have l3:=lat a3
 have e1:=lat b1
 go_upto_region 5 with fail
 have hun:=Yb
 refine Y0 (by kernel_rfl) (by kernel_rfl) ?_
 repeat ((with_reducible refine Yv ?_);intro K hK;go_simp;(with_reducible refine hK _ ?_);clear hK K)
 (with_reducible refine Yu ?_)
 intro w2 hy2
 clear hun
 try simp only [Yc]
 have D2:=Yw (D1.out.ext hy2)
 have C2:=Yw (C1.out.trans (hy2.chg _))
 have Y2:=Yw (hy1.trans hy2)
 clear a0 a1 a2 a3 b1 l0 l1 l2 l3 e1 hy1 hy2 D1 C1
 have a0:w2.cell? ⟨ab,0,none⟩=some (.int .i64 K):=(A0.out.ext Y2.out).at_ 0 (by simp)
 have a1:w2.cell? ⟨ab,1,none⟩=some (.int .i64 C):=(A0.out.ext Y2.out).at_ 1 (by simp)
 have a2:w2.cell? ⟨ab,2,none⟩=some (.int .i64 n):=(A0.out.ext Y2.out).at_ 2 (by simp)
 have a3:w2.cell? ⟨ab,3,none⟩=some (.string x):=(A0.out.ext Y2.out).at_ 3 (by simp)
 have b1:w2.cell? ⟨b,1,none⟩=some (.slice (some ⟨gm,om,none⟩) nn cm):=by rw [← Hmv.out];exact (D0.out.ext Y2.out).c 1 rfl
 by_cases hK2:K=2
 ·subst hK2
  cases kn with
  | false =>
   go_upto_region 15 with fail
   have c5:w2.cell? ⟨b,5,none⟩=some (.int .i64 ((d).t:Int)):=D2.out.c 5 rfl
   have fz:=D2.out.cells.fz
   obtain ⟨t1,ht1⟩:∃ q:Nat,(d).t+1=q:=⟨_,rfl⟩
   have r1:IntKind.i64.wrap (((d).t:Int)+1)=(t1:Int):=by rw [Yq _ (by have:=Ht.out;have:=trivial;omega)];omega
   go_wp2_with fail
   go_ret
   refine ⟨_,{d with t:=t1},_,rfl,D2.out.setT t1,Hl.out,(C2.out).setCell (p:=⟨b,5,none⟩) (.inl (H.out.hU _ H.out.ub).1) _,?_,?_,?_⟩
   ·rfl
   ·exact ht1.symm
   exact Nat.le_succ _
  | true =>
   have hq:=Hkn.out
   rw [Bool.and_eq_true,decide_eq_true_eq,decide_eq_true_eq] at hq
   obtain ⟨q0,q1⟩:=hq
   obtain ⟨c,rfl⟩:∃ q:Nat,C=q:=⟨C.toNat,by omega⟩
   have q2:c < nn:=by omega
   go_wp2_with fail
   refine (Zw7 T Hf.out Hu.out b B c d _ D2.out Hn.out Hl.out (by rw [Hnn.out];exact q2)).mono ?_
   rintro e w3 ⟨r,d',U',rfl,hD,hL,hC,hm',ht',hn'⟩
   have D3:=Yw hD
   have L3:=Yw hL
   have C3:=Yw (C2.out.trans hC)
   have Ht':=Yw ht'
   have Hm':=Yw hm'
   clear hD hL hC ht' hm'
   go_upto_region 15 with fail
   have c5:w3.cell? ⟨b,5,none⟩=some (.int .i64 ((d').t:Int)):=D3.out.c 5 rfl
   have fz:=D3.out.cells.fz
   obtain ⟨t1,ht1⟩:∃ q:Nat,(d').t+1=q:=⟨_,rfl⟩
   have r1:IntKind.i64.wrap (((d').t:Int)+1)=(t1:Int):=by rw [Yq _ (by have:=Ht.out;have:=Ht'.out;omega)];omega
   go_wp2_with fail
   go_ret
   refine ⟨_,{d' with t:=t1},_,rfl,D3.out.setT t1,L3.out,(C3.out).setCell (p:=⟨b,5,none⟩) (.inl (H.out.hU _ H.out.ub).1) _,?_,?_,?_⟩
   ·exact Hm'.out
   ·show t1=d.t+1
    rw [← Ht'.out];exact ht1.symm
   exact hn'
 have f2:(K == 2)=false:=by simp [hK2]
 have f2b:(K != 2)=true:=by simp [hK2]
 by_cases hK3:K=3
 ·subst hK3
  have c0:w2.cell? ⟨b,0,none⟩=some (.pointer (some ⟨d.xb,0,none⟩)):=D2.out.c 0 rfl
  go_upto_region 12 with fail
  refine wp_region_held_drew (S:=fun w'=>w'.cell? ⟨b,0,none⟩=some (.pointer (some ⟨d.xb,0,none⟩))∧w'.cell? ⟨ab,2,none⟩=some (.int .i64 n)∧True) (by kernel_rfl) ?_ (fun hHeld=>?_)
  ·exact ⟨c0,a2,trivial⟩
  refine Xw [0,1,2,3,4,5] 1 (by rfl) (by kernel_rfl) (by kernel_rfl) (fun _ _ d _ _ h=>by cases d<;>exact h) hHeld ?_
  simp only [Z1,Z2,Z3,Zw,Zx]
  repeat (refine Xu (v:=?_) (by kernel_rfl) ?_ ?_;rotate_left;(focus ((intro wT hST;obtain ⟨hS0,hS1,hS2⟩:=hST;go_simp);(first|done|(with_reducible rfl))));(try simp only [Act.put,Zv,Zu,Zt]))
  refine Xt ?_
  clear hHeld
  have D2d:=Yw (D2.out.ext (Yl w2).drew)
  have A2:=Yw ((A0.out.ext Y2.out).ext (Yl w2).drew)
  refine wpAnyH_ready (rs:=[6]) (by kernel_rfl) (by simp) ?_;refine Ys (o:=_) rfl (fun K hK=>?_) Yr;go_simp
  refine (Zs5 d.xb d.x n _ D2d.out.shr (fun q=>q H.out.ux)).mono ?_
  rintro e w3 ⟨rfl,hX,hC⟩
  obtain ⟨mb,m,hm0⟩:∃ mb m,d.ms[0]?=some (mb,m):=⟨_,_,Zz (by rw [Hnn.out];exact hm)⟩
  have hmm:=D2d.out.mach _ (Zy hm0)
  have hne:=(H.out.ne.2.2.2.2.2.2 _ (Zy hm0)).2.1
  have D3:=Yw (D2d.out.step hm0 (hC.mono fun _ _ e=>.inr e) (hmm.1.chg hC hne (fun j hj e=>hj (e ▸ H.out.ux))) hmm.2 hX (by
   have k:=H.out.xok.up
   have hb:=Zps (n:=n) H.out.xok.c0 H.out.xok.c1
   exact ⟨hb.1,hb.2,k.m0,k.m1,k.k,k.r⟩))
  have C3:=Yw (C2.out.trans ((Yl w2).drew.chg _ |>.trans (hC.mono fun _ _ e=>e ▸ (H.out.hU _ H.out.ux).1)))
  have hms:d.ms.set 0 (mb,m)=d.ms:=by
   apply List.ext_getElem?
   intro j
   by_cases e:0=j
   ·subst e;rw [Zc (by rw [Hnn.out];exact hm)];exact hm0.symm
   rw [Zb e]
  have L3:=Yw (show Ox {d with x:={d.x with clock:=Ns d.x.clock n},ms:=d.ms.set 0 (mb,m),n:=d.n+1} from fun j p z h1 h2 h3=>Hl.out j p z (by rw [← hms];exact h1) h2 h3)
  have s0:w3.cell? ⟨b,0,none⟩=some (.pointer (some ⟨d.xb,0,none⟩)):=D3.out.c 0 rfl
  have s2:w3.cell? ⟨ab,2,none⟩=some (.int .i64 n):=(A2.out.chg hC (by have:=(H.out.hU _ H.out.ux).2;have:=Hab.out;omega)).at_ 2 (by simp)
  refine hK.out _ _ ⟨s0,s2,trivial⟩ (fun hHeld=>?_)
  clear hHeld hK K hX hC hmm hne hms hm0 s0 s2 D2d A2 c0
  refine wpAnyH_done (by kernel_rfl) ?_ _
  go_simp
  clear a0
  go_upto_region 15 with fail
  have c5:w3.cell? ⟨b,5,none⟩=some (.int .i64 (({d with x:={d.x with clock:=Ns d.x.clock n},ms:=d.ms.set 0 (mb,m),n:=d.n+1}).t:Int)):=D3.out.c 5 rfl
  have fz:=D3.out.cells.fz
  obtain ⟨t1,ht1⟩:∃ q:Nat,({d with x:={d.x with clock:=Ns d.x.clock n},ms:=d.ms.set 0 (mb,m),n:=d.n+1}).t+1=q:=⟨_,rfl⟩
  have r1:IntKind.i64.wrap ((({d with x:={d.x with clock:=Ns d.x.clock n},ms:=d.ms.set 0 (mb,m),n:=d.n+1}).t:Int)+1)=(t1:Int):=by rw [Yq _ (by have:=Ht.out;have:=(show ({d with x:={d.x with clock:=Ns d.x.clock n},ms:=d.ms.set 0 (mb,m),n:=d.n+1}:Dk).t=d.t from rfl);omega)];omega
  go_wp2_with fail
  go_ret
  refine ⟨_,{ {d with x:={d.x with clock:=Ns d.x.clock n},ms:=d.ms.set 0 (mb,m),n:=d.n+1} with t:=t1},_,rfl,D3.out.setT t1,L3.out,(C3.out).setCell (p:=⟨b,5,none⟩) (.inl (H.out.hU _ H.out.ub).1) _,?_,?_,?_⟩
  ·show (d.ms.set 0 (mb,m)).length=d.ms.length
   rw [Zf]
  ·exact ht1.symm
  exact Yo _
 have f3:(K == 3)=false:=by simp [hK3]
 go_upto_region 15 with fail
 have c5:w2.cell? ⟨b,5,none⟩=some (.int .i64 ((d).t:Int)):=D2.out.c 5 rfl
 have fz:=D2.out.cells.fz
 obtain ⟨t1,ht1⟩:∃ q:Nat,(d).t+1=q:=⟨_,rfl⟩
 have r1:IntKind.i64.wrap (((d).t:Int)+1)=(t1:Int):=by rw [Yq _ (by have:=Ht.out;have:=trivial;omega)];omega
 go_wp2_with fail
 go_ret
 refine ⟨_,{d with t:=t1},_,rfl,D2.out.setT t1,Hl.out,(C2.out).setCell (p:=⟨b,5,none⟩) (.inl (H.out.hU _ H.out.ub).1) _,?_,?_,?_⟩
 ·rfl
 ·exact ht1.symm
 exact Nat.le_succ _
end Go.Proofs.YtnbclgbicnpmnaaGreat
