/- Lemmas of this claim: Dr, Bus. Conditions: as named. -/
import Derived.Test.YtnbclgbicnpmnaaGreatA37
namespace Go.Proofs.YtnbclgbicnpmnaaGreat
open Go.RowKit Go.Sort Tryz
set_option maxHeartbeats 0
set_option maxRecDepth 100000
set_option linter.all false
section
variable {cc:Int×Int}
theorem Zwg{w:World}{b:Nat}{T:Tbl}{m:Wc}(h:Xp w b (machC T m)):w.cell? ⟨b,15,none⟩=some (.int .i64 m.op)∧w.cell? ⟨b,16,none⟩=some (.int .i64 m.ttl)∧w.cell? ⟨b,17,none⟩=some m.lv∧w.cell? ⟨b,19,none⟩=some (.int .i64 m.ans.e)∧w.cell? ⟨b,20,none⟩=some (.int .i64 m.ans.at_)∧w.cell? ⟨b,21,none⟩=some (.string m.ans.nm)∧w.cell? ⟨b,22,none⟩=some (.int .i64 m.ans.rc.st)∧w.cell? ⟨b,23,none⟩=some (.int .i64 m.ans.rc.ow)∧w.cell? ⟨b,24,none⟩=some (.string m.ans.rc.nm)∧w.cell? ⟨b,25,none⟩=some (.int .i64 m.ans.rc.dl)∧w.cell? ⟨b,26,none⟩=some (.int .i64 m.ans.tick) :=
 ⟨h.at_ 15 (by show 15<28;omega),h.at_ 16 (by show 16<28;omega),h.at_ 17 (by show 17<28;omega),h.at_ 19 (by show 19<28;omega),h.at_ 20 (by show 20<28;omega),h.at_ 21 (by show 21<28;omega),h.at_ 22 (by show 22<28;omega),h.at_ 23 (by show 23<28;omega),h.at_ 24 (by show 24<28;omega),h.at_ 25 (by show 25<28;omega),h.at_ 26 (by show 26<28;omega)⟩
theorem Ki{d d':Dk}{k zn mb:Nat}{s:Int}{m m':Wc}{x':Shr}{o o':OpS}{r:Bool}(h:V9 cc d)(hk:d.ms[k]?=some (mb,m))(hs:m.st≠0)(rel:Kc m d.x s m' x')(k0:MOk m)(ok:MOk m')(hz:d.last[k]?=some (zn:Int))(ho:d.ops[zn]?=some o)(hop:OpR d.t m s m' o.1 o'.1)
 (e1:d'.x=x') (e2:d'.ms=d.ms.set k (mb,m')) (e3:d'.ops=d.ops.set zn o') (e4:d'.last=d.last) (e5:d'.bs_=d.bs_) (hr:r=(s !=2)):Zuz cc d k r d':=by
 have hkm:(d.ms.map Prod.snd)[k]?=some m:=by rw[Zn,hk];rfl
 refine⟨⟨?_,?_⟩,fun e=>?_,fun e=>?_,?_⟩
 ·rw[e1,e2,e3,e4,Zi4,Zi4];exact Lin.step h.1 (by omega) hkm hs rel ok hz (by rw[Zn,ho];rfl) hop
 ·rw[e1,e2,Zi4];exact h.2.step hkm k0 rel
 ·have h2:s≠2:=by rw[hr]at e;simpa using e
  have hsr:=Az rank (b:=m') hkm;have:=Zsb k0 hs rel h2;unfold wrk work;rw[show d'.ms.map Prod.snd=(d.ms.map Prod.snd).set k m' by rw[e2,Zi4],e5];omega
 ·have h2:s=2:=by rw[hr]at e;simpa using e
  have key:x'=d.x∧m'=m∧∃ n,Gg d.x m n:=by
   subst h2;cases rel with
   | block n c q1 q2 q3 q4=>exact⟨rfl,rfl,n,q1,c,q2,q3,q4⟩
  obtain⟨a1,a2,a3⟩:=key;refine⟨by rw[e1,a1],?_,e5,by rw[e3,Zf],m,hkm,.inr a3⟩;rw[e2,Zi4,a2,set_self hkm]
 unfold load;rw[e3,e5,Zf];exact Yn _
theorem Zsk{U:Nat→Prop}(T:Tbl)(hf:Few T)(hu:Uq T)(b B k mb:Nat)(m:Wc)(d:Dk)(w:World)(h:Wt w U T b B d)(hn:d.n≤99999)(ht:d.t≤2000000)(hl:V9 cc d)(hk:d.ms[k]?=some (mb,m))(hs:m.st≠0):Calls prog 78 #[.pointer (some ⟨b,0,none⟩),.int .i64 (k:Int)] w (Pj cc U T b B d k w):=by
 have hkl:=(Zr.1 hk).1;obtain⟨nn,hnn⟩:=gnX (d.ms.length);rw[hnn]at hkl;have hn64:nn≤64:=by have:=h.lm;omega
 obtain⟨gm,om,cm,hmv,cmk⟩:=Rn h.ptr (k:=k) (x:=mb) (by rw[Zn,hk];rfl);rw[Zq,hnn]at hmv;have c1:w.cell? ⟨b,1,none⟩=some d.mv:=h.c 1 rfl;rw[hmv]at c1;have c0:w.cell? ⟨b,0,none⟩=some (.pointer (some ⟨d.xb,0,none⟩)):=h.c 0 rfl;have hM:=(h.mach _ (Zy hk)).1;have z13:w.cell? ⟨mb,13,none⟩=some (.int .i64 m.st):=hM.c 13 rfl;have k0:(0:Int)≤(k:Int):=by omega
 have k1:(k:Int)<(nn:Int):=by omega
 have d1:(m.st==0)=false:=by simp[hs]
 have hmu:=h.um _ (Zy hk);have HI:=Y4 (show Ur (fun j=>¬ U j) T mb d.xb m d.x w from⟨hM,(h.mach _ (Zy hk)).2,h.shr,(h.ne.2.2.2.2.2.2 _ (Zy hk)).2.1,fun q=>q hmu,fun q=>q h.ux,fun j hj hu=>by have:=(h.hU j hu).2;omega,h.tbl⟩);obtain⟨z,hz⟩:∃ z,d.last[k]?=some z:=⟨d.last[k]'(by rw[h.ll,hnn];exact hkl),Zz _⟩;obtain⟨z0,z1⟩:=hl.at_ hk hz hs;obtain⟨zn,rfl⟩:∃ q:Nat,z=q:=⟨z.toNat,by omega⟩;have hll:d.last.length=nn:=by rw[h.ll];exact hnn
 obtain⟨no,hno⟩:=gnX (d.ops.length);obtain⟨o,ho⟩:∃ o,d.ops[zn]?=some o:=⟨d.ops[zn]'(by omega),Zz _⟩;obtain⟨go,Co,hov,_,_,_,_⟩:=h.own.some_ (by omega);rw[hno]at hov z1;have z2:zn<no:=by omega
 have H:=Y4 h;have Hl:=Y4 hl;have Hk:=Y4 hk;have Hs:=Y4 hs;have Hnn:=Y4 hnn;have Hno:=Y4 hno;have Hov:=Y4 hov;have Hz:=Y4 hz;have Ho:=Y4 ho;have Hf:=Y4 hf;have Hu:=Y4 hu;have Hn:=Y4 hn;have Hll:=Y4 hll;clear h hl hk hs hnn hmv hM hno hov hz ho hf hu hn hll;unfold Zm2 at cmk;go_enter func78,ntmps78;go_wp2_with fail;refine(Zp9 T Hf.o Hu.o mb d.xb m d.x _ d.n H.o.xok (by have:=Hn.o;omega) HI.o).mono ?_;rintro e w2 ⟨s,m',x',rfl,hok⟩;have D2:=Y4 (H.o.step Hk.o hok.chg hok.mach hok.mok hok.shr (hok.xok _ H.o.xok));have C2:=Y4 (show Chg U w w2 from hok.chg.mono fun _ _ e=>by rcases e with e|e;exact e▸hmu;exact e▸H.o.ux);have Hpar:=Y4 hok.par;have Hrel:=Y4 hok.rel;have Hmok:=Y4 hok.mok;clear hok c1 c0 cmk z13 HI;go_upto_region 12 with fail;have m3:=lat (show w2.cell? ⟨b,3,none⟩=some (.slice (some ⟨go,0,none⟩) no Co) from by rw[← Hov.o];exact D2.o.c 3 rfl);have m4:=lat (show w2.cell? ⟨b,4,none⟩=some (.slice (some ⟨d.gl,0,none⟩) nn d.cl) from by rw[← Hll.o];exact D2.o.c 4 rfl);have mk:=lat (show w2.cell? ⟨d.gl,k,none⟩=some (.int .i64 (zn:Int)) from Own.at_ (E:=Wb) D2.o.lown (ints_at Hz.o));refine Wy 12 13 (by kernel_rfl) (by omega) (by kernel_rfl) (by kernel_rfl) (by kernel_rfl) ?_;simp only[Z6,Z7,Z8,Z9];repeat((with_reducible refine Yu ?_);intro K hK;go_simp;(with_reducible refine hK _ ?_);clear hK K)
 (with_reducible refine Yt ?_)
 intro w3 hy3;have D3:=Y4 (D2.o.ext hy3);have C3:=Y4 (C2.o.trans (hy3.chg _));clear hy3 m3 m4 mk D2 C2;obtain⟨nb,nx,ngb,ngl,nms⟩:=H.o.nov (g:=go) (by rw[Hov.o];rfl);have nmo:mb≠go:=nms _ (Zy Hk.o);have hgo:=H.o.uo go (by rw[Hov.o];rfl);have M3:=Y4 (show Xp w3 mb (machC T m') from(D3.o.mach (mb,m') (by apply Zy (i:=k);show(d.ms.set k (mb,m'))[k]?=_;rw[Zc (by rw[Hnn.o];exact hkl)])).1.cells);have N3:=Y4 (show Vw w3 (fun j=>¬ U j) m'.lv m'.ns from(D3.o.mach (mb,m') (by apply Zy (i:=k);show(d.ms.set k (mb,m'))[k]?=_;rw[Zc (by rw[Hnn.o];exact hkl)])).1.ns);have B3:=Y4 (show Xp w3 go (Zpg d.ops) from⟨(D3.o.hU go (H.o.uo go (by rw[Hov.o];rfl))).2,fun j=>by
  have:=D3.o.own;rw[show({d with x:=x',ms:=d.ms.set k (mb,m'),n:=d.n+1}:Dk).ov=.slice (some ⟨go,0,none⟩) no Co from Hov.o]at this;exact Own.thaw (E:=opE) this j,fun j hj=>by
  have:=D3.o.own;rw[show({d with x:=x',ms:=d.ms.set k (mb,m'),n:=d.n+1}:Dk).ov=.slice (some ⟨go,0,none⟩) no Co from Hov.o]at this;rw[Zz hj];exact Own.at_ (E:=opE) this (Zz hj)⟩)
 have c5:w3.cell? ⟨b,5,none⟩=some (.int .i64 (d.t:Int)):=D3.o.c 5 rfl;have hOc:∀ f v,(opC o.1)[f]?=some v→w3.cell? ⟨go,zn*23+f,none⟩=some v:=fun f v hv=>by
  have h23:f<23:=by have:=(Zr.1 hv).1;rw[Kv]at this;exact this
  have e:(Zpg d.ops)[zn*23+f]?=some v:=by
   show(Gj (d.ops.map Subtype.val))[zn*23+f]?=_;rw[Rr (o:=o.1) (by rw[Zn,Ho.o];rfl) f h23,hv]
  rw[B3.o.at_ _ (Zr.1 e).1,e]
 have hth:∀ f n,f+n≤23→w3.there go (zn*23+f) n:=fun f n hf=>B3.o.there (by
  show zn*23+f+n≤(Gj (d.ops.map Subtype.val)).length;rw[En,Zq,Hno.o];omega)
 have fzo:=B3.o.fz;cases e3:(s==3)
 ·cases e4:(s==4)
  ·cases e1:(m.st==1)
   ·go_wp2_with fail;go_wp2_with fail;go_ret;refine⟨_,_,_,rfl,D3.o,(Ki Hl.o Hk.o Hs.o Hrel.o (H.o.mach _ (Zy Hk.o)).2 Hmok.o Hz.o Ho.o (o':=o) (by unfold OpR;rw[Zk9 (by simpa using e3),Zk9 (by simpa using e4),Zk9 (by simpa using e1)]) rfl rfl (set_self Ho.o).symm rfl rfl (by first|rfl|(have e3:=e3;simp_all))),C3.o,?_,rfl,Yn _,fun _=>.inl⟩;show(d.ms.set k _).length=_;rw[Zf]
   have hs1:m.st=1:=by simpa using e1
   have hs3:s≠3:=by simpa using e3
   have h2:m'.st=2:=(Hpar.o hs1).resolve_left hs3;obtain⟨_,h16,_,_⟩:=Hmok.o.n0 (by omega) (by omega);obtain⟨Al,Cl,hlv⟩:=N3.o.shape;have one:m'.lv.oneCell'=true:=by rw[hlv];rfl
   have Hlv:=Y4 hlv;have H16:=Y4 h16;clear hs1 hs3 h2 hlv h16;go_upto_region 20 with fail;refine Zjo (S:=fun w'=>True∧Xp w' mb (machC T m')∧True) (by kernel_rfl) ?_ (fun hHeld=>?_)
   ·exact⟨trivial,M3.o.drew,trivial⟩
   obtain⟨Wd,hWd⟩:=gnX (w3.drew);have D3:=Y4 (D3.o.ext (Yl w3).drew);have C3:=Y4 (C3.o.drew);have M3:=Y4 M3.o.drew;have N3:=Y4 (Rd.ext N3.o (Yl w3).drew);have c1:w3.drew.cell? ⟨go,zn*23+1,none⟩=some (.int .i64 o.1.op):=hOc 1 _ rfl;have c2:w3.drew.cell? ⟨go,zn*23+2,none⟩=some (.int .i64 o.1.ttl):=hOc 2 _ rfl;have c3:w3.drew.cell? ⟨go,zn*23+3,none⟩=some o.1.nv:=hOc 3 _ rfl;have fzo:∀ j,w3.drew.frozen? ⟨go,j,none⟩=false:=fzo;rw[hWd]at D3 C3 M3 N3 c1 c2 c3 fzo hHeld;rw[hWd];clear hWd hOc hth;refine Xv [0,1,2,3,4,5,6,7,8,9,10,11,12,13,14,15,16] 7 (by rfl) (by kernel_rfl) (by kernel_rfl) (fun _ _ d _ _ h=>by cases d<;>exact h) hHeld ?_;simp only[Z3,Z4,Z5,Zw,Zx];repeat(refine Xu (v:=?_) (by kernel_rfl) ?_ ?_;rotate_left;(focus((intro wT hST;obtain⟨hS0,hS1,hS2⟩:=hST;obtain⟨h15,h16,h17,h19,h20,h21,h22,h23,h24,h25,h26⟩:=Zwg hS1;go_simp);(first|done|(with_reducible rfl))));(try simp only[Act.put,Zv,Zu,Zt]))
   refine Xs ?_;clear hHeld;rw[Hlv.o];refine Zjv (rs:=[17]) (by kernel_rfl) (by simp) ?_;refine Yr (o:=_) rfl (fun K hK=>?_) Yq;go_simp;have D4:=Y4 (D3.o.setOp (z:=zn) (f:=1) (o:=o) (o':=⟨{o.1 with op:=m'.op},o.2⟩) (vs:=[.int .i64 m'.op]) Hov.o Ho.o (by show 1+1≤23;omega) rfl (D3.o.nms o (Zy Ho.o)) (D3.o.n16 o (Zy Ho.o)));have c2:(Wd.setCell ⟨go,zn*23+1,none⟩ (.int .i64 m'.op)).cell? ⟨go,zn*23+2,none⟩=some (.int .i64 o.1.ttl):=by go_simp
   have c3:(Wd.setCell ⟨go,zn*23+1,none⟩ (.int .i64 m'.op)).cell? ⟨go,zn*23+3,none⟩=some o.1.nv:=by go_simp
   have C4:=Y4 (C3.o.setCell (p:=⟨go,zn*23+1,none⟩) (.inl hgo) (.int .i64 m'.op));have M4:=Y4 (M3.o.far nmo (j:=zn*23+1) (.int .i64 m'.op));have N4:=Y4 (Rd.chg N3.o ((Chg.refl (· = go) Wd).setCell (p:=⟨go,zn*23+1,none⟩) (.inl rfl) (.int .i64 m'.op)) (fun _ hj e=>hj (e▸H.o.uo go (by rw[Hov.o];rfl))));have hF:∀ j,(Wd.setCell ⟨go,zn*23+1,none⟩ (.int .i64 m'.op)).frozen? ⟨go,j,none⟩=false:=fun j=>by rw[Zj2];exact fzo j
   refine hK.out _ _ ⟨trivial,M4.o,trivial⟩ (fun hHeld=>?_);clear hK K;try simp only[Act.put,Zv,Zu,Zt]
   obtain⟨W4,hPW⟩:=gnX (Wd.setCell ⟨go,zn*23+1,none⟩ (.int .i64 m'.op));rw[show Wd.setCells go (zn*23+1) [.int .i64 m'.op]=W4 from hPW]at D4;rw[hPW]at C4 M4 N4 hF hHeld;rw[hPW];clear fzo;have fzo:=hF;clear hF;clear c1;rw[hPW]at c2 c3;clear hPW;refine Xv [18,19] 4 (by rfl) (by kernel_rfl) (by kernel_rfl) (fun _ _ d _ _ h=>by cases d<;>exact h) hHeld ?_;simp only[Z3,Z4,Z5,Zw,Zx];repeat(refine Xu (v:=?_) (by kernel_rfl) ?_ ?_;rotate_left;(focus((intro wT hST;obtain⟨hS0,hS1,hS2⟩:=hST;obtain⟨h15,h16,h17,h19,h20,h21,h22,h23,h24,h25,h26⟩:=Zwg hS1;go_simp);(first|done|(with_reducible rfl))));(try simp only[Act.put,Zv,Zu,Zt]))
   refine Xs ?_;clear hHeld;refine Zjv (rs:=[20]) (by kernel_rfl) (by simp) ?_;refine Yr (o:=_) rfl (fun K hK=>?_) Yq;go_simp;have D5:=Y4 (D4.o.setOp (z:=zn) (f:=2) (o:=⟨{o.1 with op:=m'.op},o.2⟩) (o':=⟨{o.1 with op:=m'.op,ttl:=m'.ttl},o.2⟩) (vs:=[.int .i64 m'.ttl]) Hov.o (Zc (by rw[Hno.o];exact z2)) (by show 2+1≤23;omega) rfl (D4.o.nms ⟨{o.1 with op:=m'.op},o.2⟩ (Zy (i:=zn) (Zc (by rw[Hno.o];exact z2)))) (H.o.n16 o (Zy Ho.o)));have c3:(W4.setCell ⟨go,zn*23+2,none⟩ (.int .i64 m'.ttl)).cell? ⟨go,zn*23+3,none⟩=some o.1.nv:=by go_simp
   have C5:=Y4 (C4.o.setCell (p:=⟨go,zn*23+2,none⟩) (.inl hgo) (.int .i64 m'.ttl));have M5:=Y4 (M4.o.far nmo (j:=zn*23+2) (.int .i64 m'.ttl));have N5:=Y4 (Rd.chg N4.o ((Chg.refl (· = go) W4).setCell (p:=⟨go,zn*23+2,none⟩) (.inl rfl) (.int .i64 m'.ttl)) (fun _ hj e=>hj (e▸H.o.uo go (by rw[Hov.o];rfl))));have hF:∀ j,(W4.setCell ⟨go,zn*23+2,none⟩ (.int .i64 m'.ttl)).frozen? ⟨go,j,none⟩=false:=fun j=>by rw[Zj2];exact fzo j
   refine hK.out _ _ ⟨trivial,M5.o,trivial⟩ (fun hHeld=>?_);clear hK K;try simp only[Act.put,Zv,Zu,Zt]
   obtain⟨W5,hPW⟩:=gnX (W4.setCell ⟨go,zn*23+2,none⟩ (.int .i64 m'.ttl));rw[show W4.setCells go (zn*23+2) [.int .i64 m'.ttl]=W5 from hPW]at D5;rw[hPW]at C5 M5 N5 hF hHeld;rw[hPW];clear fzo;have fzo:=hF;clear hF;clear c2;rw[hPW]at c3;clear hPW;refine Xv [21,22] 1 (by rfl) (by kernel_rfl) (by kernel_rfl) (fun _ _ d _ _ h=>by cases d<;>exact h) hHeld ?_;simp only[Z3,Z4,Z5,Zw,Zx];repeat(refine Xu (v:=?_) (by kernel_rfl) ?_ ?_;rotate_left;(focus((intro wT hST;obtain⟨hS0,hS1,hS2⟩:=hST;obtain⟨h15,h16,h17,h19,h20,h21,h22,h23,h24,h25,h26⟩:=Zwg hS1;go_simp);(first|done|(with_reducible rfl))));(try simp only[Act.put,Zv,Zu,Zt]))
   refine Xs ?_;clear hHeld;refine Zjv (rs:=[23]) (by kernel_rfl) (by simp) ?_;refine Yr (o:=_) rfl (fun K hK=>?_) Yq;go_simp;have D6:=Y4 (D5.o.setOp (z:=zn) (f:=3) (o:=⟨{o.1 with op:=m'.op,ttl:=m'.ttl},o.2⟩) (o':=⟨{o.1 with op:=m'.op,ttl:=m'.ttl,nv:=.slice Al m'.ns.length Cl,ns:=m'.ns},rfl⟩) (vs:=[.slice Al m'.ns.length Cl]) Hov.o (Zc (by rw[Zf,Hno.o];exact z2)) (by show 3+1≤23;omega) rfl (by show Vw W5 _ (.slice Al m'.ns.length Cl) m'.ns;rw[← Hlv.o];exact N5.o) ⟨H16.o,(H.o.n16 o (Zy Ho.o)).2.1,(H.o.n16 o (Zy Ho.o)).2.2.1,(H.o.n16 o (Zy Ho.o)).2.2.2.1,(H.o.n16 o (Zy Ho.o)).2.2.2.2.1,Hmok.o.c1.2.1,(H.o.n16 o (Zy Ho.o)).2.2.2.2.2.2⟩);have C6:=Y4 (C5.o.setCell (p:=⟨go,zn*23+3,none⟩) (.inl hgo) (.slice Al m'.ns.length Cl));have M6:=Y4 (M5.o.far nmo (j:=zn*23+3) (.slice Al m'.ns.length Cl));have N6:=Y4 (Rd.chg N5.o ((Chg.refl (· = go) W5).setCell (p:=⟨go,zn*23+3,none⟩) (.inl rfl) (.slice Al m'.ns.length Cl)) (fun _ hj e=>hj (e▸H.o.uo go (by rw[Hov.o];rfl))));have hF:∀ j,(W5.setCell ⟨go,zn*23+3,none⟩ (.slice Al m'.ns.length Cl)).frozen? ⟨go,j,none⟩=false:=fun j=>by rw[Zj2];exact fzo j
   refine hK.out _ _ ⟨trivial,M6.o,trivial⟩ (fun hHeld=>?_);clear hK K;try simp only[Act.put,Zv,Zu,Zt]
   obtain⟨W6,hPW⟩:=gnX (W5.setCell ⟨go,zn*23+3,none⟩ (.slice Al m'.ns.length Cl));rw[show W5.setCells go (zn*23+3) [.slice Al m'.ns.length Cl]=W6 from hPW]at D6;rw[hPW]at C6 M6 N6 hF hHeld;rw[hPW];clear fzo;have fzo:=hF;clear hF;clear c3 hPW hHeld;refine Zjf (by kernel_rfl) ?_ _;go_simp;go_wp2_with fail;go_ret;refine⟨_,_,_,rfl,D6.o,(Ki Hl.o Hk.o Hs.o Hrel.o (H.o.mach _ (Zy Hk.o)).2 Hmok.o Hz.o Ho.o (o':=⟨{o.1 with op:=m'.op,ttl:=m'.ttl,nv:=.slice Al m'.ns.length Cl,ns:=m'.ns},rfl⟩) (by unfold OpR;rw[Zk9 (by simpa using e3),Zk9 (by simpa using e4),Zjx (by simpa using e1)];exact⟨_,rfl⟩) rfl rfl (by simp only[Zh5]) rfl rfl (by first|rfl|(have e3:=e3;simp_all))),C6.o,?_,rfl,Yn _,fun _=>.inl⟩;show(d.ms.set k _).length=_;rw[Zf]
  have c14:=hOc 14 _ rfl;go_upto_region 21 with fail;have D4:=Y4 (D3.o.setOp (z:=zn) (f:=14) (o:=o) (o':=⟨{o.1 with ans:=(d.t:Int)},o.2⟩) (vs:=[.int .i64 (d.t:Int)]) Hov.o Ho.o (by show 14+1≤23;omega) rfl (D3.o.nms o (Zy Ho.o)) (D3.o.n16 o (Zy Ho.o)));have C4:=Y4 (C3.o.setCell (p:=⟨go,zn*23+14,none⟩) (.inl hgo) (.int .i64 (d.t:Int)));obtain⟨W4,hW4⟩:=gnX (w3.setCell ⟨go,zn*23+14,none⟩ (.int .i64 (d.t:Int)));rw[show w3.setCells go (zn*23+14) [.int .i64 (d.t:Int)]=W4 from hW4]at D4;rw[hW4]at C4;rw[hW4];clear hW4 D3 C3 M3 N3 B3 hOc hth fzo c14;go_wp2_with fail;go_ret;refine⟨_,_,_,rfl,D4.o,(Ki Hl.o Hk.o Hs.o Hrel.o (H.o.mach _ (Zy Hk.o)).2 Hmok.o Hz.o Ho.o (o':=⟨{o.1 with ans:=(d.t:Int)},o.2⟩) (by unfold OpR;rw[Zk9 (by simpa using e3),Zjx (by simpa using e4)]) rfl rfl rfl rfl rfl (by first|rfl|(have e3:=e3;simp_all))),C4.o,?_,rfl,Yn _,fun _=>.inl⟩;show(d.ms.set k _).length=_;rw[Zf]
 go_upto_region 14 with fail;refine Zjo (S:=fun w'=>w'.cell? ⟨b,5,none⟩=some (.int .i64 (d.t:Int))∧Xp w' mb (machC T m')∧True) (by kernel_rfl) ?_ (fun hHeld=>?_)
 ·exact⟨c5,M3.o.drew,trivial⟩
 obtain⟨Wd,hWd⟩:=gnX (w3.drew);have D3:=Y4 (D3.o.ext (Yl w3).drew);have C3:=Y4 (C3.o.drew);have M3:=Y4 M3.o.drew;have N3:=Y4 (Rd.ext N3.o (Yl w3).drew);have c13:w3.drew.cell? ⟨go,zn*23+13,none⟩=some (.int .i64 o.1.dec):=hOc 13 _ rfl;have c5:w3.drew.cell? ⟨b,5,none⟩=some (.int .i64 (d.t:Int)):=c5;have fzo:∀ j,w3.drew.frozen? ⟨go,j,none⟩=false:=fzo;have hth:∀ f n,f+n≤23→w3.drew.there go (zn*23+f) n:=hth;rw[hWd]at D3 C3 M3 N3 c13 c5 fzo hth hHeld;rw[hWd];clear hWd hOc;refine Xv [0,1,2,3,4,5,6,7,8,9,10,11] 4 (by rfl) (by kernel_rfl) (by kernel_rfl) (fun _ _ d _ _ h=>by cases d<;>exact h) hHeld ?_;simp only[Z3,Z4,Z5,Zw,Zx];repeat(refine Xu (v:=?_) (by kernel_rfl) ?_ ?_;rotate_left;(focus((intro wT hST;obtain⟨hS0,hS1,hS2⟩:=hST;obtain⟨h15,h16,h17,h19,h20,h21,h22,h23,h24,h25,h26⟩:=Zwg hS1;go_simp);(first|done|(with_reducible rfl))));(try simp only[Act.put,Zv,Zu,Zt]))
 refine Xs ?_;clear hHeld;refine Zjv (rs:=[12]) (by kernel_rfl) (by simp) ?_;refine Yr (o:=_) rfl (fun K hK=>?_) Yq;go_simp;have F4:o.1.ns.length≤16∧I5 {o.1 with dec:=(d.t:Int)}:=by
  obtain⟨f0,f1,f2,f3,f4,f5⟩:=H.o.n16 o (Zy Ho.o);exact⟨f0,f1,f2,by show(-1:Int)≤(d.t:Int);omega,by show(d.t:Int)≤2000000;omega,f5⟩
 have F5:=Y4 (show o.1.ns.length≤16∧I5 {o.1 with dec:=(d.t:Int),res:=m'.ans} from⟨F4.1,F4.2.1,F4.2.2.1,F4.2.2.2.1,F4.2.2.2.2.1,F4.2.2.2.2.2.1,Hmok.o.c1.2.2⟩);have F4:=Y4 F4;have D4:=Y4 (D3.o.setOp (z:=zn) (f:=13) (o:=o) (o':=⟨{o.1 with dec:=(d.t:Int)},o.2⟩) (vs:=[.int .i64 (d.t:Int)]) Hov.o Ho.o (by show 13+1≤23;omega) rfl (D3.o.nms o (Zy Ho.o)) F4.o);have c5':(Wd.setCell ⟨go,zn*23+13,none⟩ (.int .i64 (d.t:Int))).cell? ⟨b,5,none⟩=some (.int .i64 (d.t:Int)):=(Zz1 _ nb).trans c5;have hth:∀ f n,f+n≤23→(Wd.setCell ⟨go,zn*23+13,none⟩ (.int .i64 (d.t:Int))).there go (zn*23+f) n:=fun f n hf=>World.there_setCells (hth f n hf) go (zn*23+13) [.int .i64 (d.t:Int)]
 have C4:=Y4 (C3.o.setCell (p:=⟨go,zn*23+13,none⟩) (.inl hgo) (.int .i64 (d.t:Int)));have M4:=Y4 (M3.o.far nmo (j:=zn*23+13) (.int .i64 (d.t:Int)));have N4:=Y4 (Rd.chg N3.o ((Chg.refl (· = go) Wd).setCell (p:=⟨go,zn*23+13,none⟩) (.inl rfl) (.int .i64 (d.t:Int))) (fun _ hj e=>hj (e▸H.o.uo go (by rw[Hov.o];rfl))));have hF:∀ j,(Wd.setCell ⟨go,zn*23+13,none⟩ (.int .i64 (d.t:Int))).frozen? ⟨go,j,none⟩=false:=fun j=>by rw[Zj2];exact fzo j
 refine hK.out _ _ ⟨c5',M4.o,trivial⟩ (fun hHeld=>?_);clear hK K;try simp only[Act.put,Zv,Zu,Zt]
 obtain⟨W4,hPW⟩:=gnX (Wd.setCell ⟨go,zn*23+13,none⟩ (.int .i64 (d.t:Int)));rw[show Wd.setCells go (zn*23+13) [.int .i64 (d.t:Int)]=W4 from hPW]at D4;rw[hPW]at C4 M4 N4 hF hHeld;rw[hPW];clear fzo;have fzo:=hF;clear hF;rw[hPW]at c5' hth;clear hPW c13 c5;refine Xv [13,14] 1 (by rfl) (by kernel_rfl) (by kernel_rfl) (fun _ _ d _ _ h=>by cases d<;>exact h) hHeld ?_;simp only[Z3,Z4,Z5,Zw,Zx];repeat(refine Xu (v:=?_) (by kernel_rfl) ?_ ?_;rotate_left;(focus((intro wT hST;obtain⟨hS0,hS1,hS2⟩:=hST;obtain⟨h15,h16,h17,h19,h20,h21,h22,h23,h24,h25,h26⟩:=Zwg hS1;go_simp);(first|done|(with_reducible rfl))));(try simp only[Act.put,Zv,Zu,Zt]))
 refine Xs ?_;clear hHeld;refine Zjv (rs:=[15]) (by kernel_rfl) (by simp) ?_;refine Yr (o:=_) rfl (fun K hK=>?_) Yq;refine Ks rfl _ _ _ rfl go (zn*23+15) (Vu m'.ans).toArray rfl rfl (hth 15 8 (by omega)) (by rw[Kk];rfl) (Ei _) ?_;have D5:=Y4 (D4.o.setOp (z:=zn) (f:=15) (o:=⟨{o.1 with dec:=(d.t:Int)},o.2⟩) (o':=⟨{o.1 with dec:=(d.t:Int),res:=m'.ans},o.2⟩) (vs:=Vu m'.ans) Hov.o (Zc (by rw[Hno.o];exact z2)) (by show 15+8≤23;omega) rfl (D4.o.nms ⟨{o.1 with dec:=(d.t:Int)},o.2⟩ (Zy (i:=zn) (Zc (by rw[Hno.o];exact z2)))) F5.o);have cc:Chg (· = go) W4 (W4.setCells go (zn*23+15) (Vu m'.ans)):=Xl (S:=(· = go)) (.inl rfl) (Chg.refl _ _);have C5:=Y4 (Xl (S:=U) (b:=go) (.inl hgo) (vs:=Vu m'.ans) (o:=zn*23+15) C4.o);have M5:=Y4 (M4.o.chg cc nmo);have c5:(W4.setCells go (zn*23+15) (Vu m'.ans)).cell? ⟨b,5,none⟩=some (.int .i64 (d.t:Int)):=(cc.cell (p:=⟨b,5,none⟩) D4.o.cells.lt nb).trans c5';have hth:∀ f n,f+n≤23→(W4.setCells go (zn*23+15) (Vu m'.ans)).there go (zn*23+f) n:=fun f n hf=>World.there_setCells (hth f n hf) go (zn*23+15) (Vu m'.ans)
 refine hK.out _ _ ⟨c5,M5.o,trivial⟩ (fun hHeld=>?_);clear hHeld hK K cc;refine Zjf (by kernel_rfl) ?_ _;obtain⟨W5,hW5⟩:=gnX (W4.setCells go (zn*23+15) (Vu m'.ans));rw[hW5]at D5 C5 M5 c5 hth;rw[show W4.setCells go (zn*23+15) (Vu m'.ans).toArray.toList=W5 from hW5];clear hW5 c5';go_simp;cases e1:(m.st==1)
 ·go_wp2_with fail;go_wp2_with fail;go_ret;refine⟨_,_,_,rfl,D5.o,(Ki Hl.o Hk.o Hs.o Hrel.o (H.o.mach _ (Zy Hk.o)).2 Hmok.o Hz.o Ho.o (o':=⟨{o.1 with dec:=(d.t:Int),res:=m'.ans},o.2⟩) (by unfold OpR;rw[Zjx (by simpa using e3),Zk9 (by simpa using e1)]) rfl rfl (by simp only[Zh5]) rfl rfl (by first|rfl|(have e3:=e3;simp_all))),C5.o,?_,rfl,Yn _,fun _=>.inl⟩;show(d.ms.set k _).length=_;rw[Zf]
 obtain⟨h15,h16,h17,h19,h20,h21,h22,h23,h24,h25,h26⟩:=Zwg M5.o;have D6:=Y4 (D5.o.setOp (z:=zn) (f:=4) (o:=⟨{o.1 with dec:=(d.t:Int),res:=m'.ans},o.2⟩) (o':=⟨{o.1 with dec:=(d.t:Int),res:=m'.ans,bad:=m'.ans},o.2⟩) (vs:=Vu m'.ans) Hov.o (Zc (by rw[Zf,Hno.o];exact z2)) (by show 4+8≤23;omega) rfl (D5.o.nms ⟨{o.1 with dec:=(d.t:Int),res:=m'.ans},o.2⟩ (Zy (i:=zn) (Zc (by rw[Zf,Hno.o];exact z2)))) F5.o);have C6:=Y4 (Xl (S:=U) (b:=go) (.inl hgo) (vs:=Vu m'.ans) (o:=zn*23+4) C5.o);go_upto_region 21 with(refine Zhk rfl _ _ _ rfl go (zn*23+4) (Vu m'.ans).toArray rfl rfl (hth 4 8 (by omega)) (by rw[Kk];rfl) (Ei _) ?_);obtain⟨W6,hW6⟩:=gnX (W5.setCells go (zn*23+4) (Vu m'.ans));rw[hW6]at D6 C6;rw[show W5.setCells go (zn*23+4) (Vu m'.ans).toArray.toList=W6 from hW6];clear hW6 h15 h16 h17 h19 h20 h21 h22 h23 h24 h25 h26 hth c5;go_wp2_with fail;go_ret;refine⟨_,_,_,rfl,D6.o,(Ki Hl.o Hk.o Hs.o Hrel.o (H.o.mach _ (Zy Hk.o)).2 Hmok.o Hz.o Ho.o (o':=⟨{o.1 with dec:=(d.t:Int),res:=m'.ans,bad:=m'.ans},o.2⟩) (by unfold OpR;rw[Zjx (by simpa using e3),Zjx (by simpa using e1)]) rfl rfl (by simp only[Zh5]) rfl rfl (by first|rfl|(have e3:=e3;simp_all))),C6.o,?_,rfl,Yn _,fun _=>.inl⟩;show(d.ms.set k _).length=_;rw[Zf]
theorem Sd{U:Nat→Prop}(T:Tbl)(hf:Few T)(hu:Uq T)(b B k:Nat)(d:Dk)(w:World)(h:Wt w U T b B d)(hn:d.n≤99999)(ht:d.t≤2000000)(hl:V9 cc d)(hk:k<d.ms.length):Calls prog 78 #[.pointer (some ⟨b,0,none⟩),.int .i64 (k:Int)] w (Pj cc U T b B d k w):=by
 obtain⟨mb,m,hm⟩:∃ mb m,d.ms[k]?=some (mb,m):=⟨_,_,Zz hk⟩;by_cases hs:m.st=0
 ·exact Zsl T b B k mb m d w h hl hm hs
 exact Zsk T hf hu b B k mb m d w h hn ht hl hm hs
end
section
variable {cc:Int×Int}
def So(d:Dk)(k:Nat):Bool:=(match d.ms[k]? with|some p=>p.2.st !=0|none=>false)||(match d.bs_[k]? with|some l=>decide (0<l.length)|none=>false)
def Uy(d:Dk)(i:Nat):List Int:=((List.range i).filter (So d)).map fun(k:Nat)=>(k:Int)
theorem Sm{d:Dk}{i:Nat}(h:So d i=true):Uy d (i+1)=Uy d i++[(i:Int)]:=by
 simp[Uy,Zh9,Zhi,h]
theorem Zqh{d:Dk}{i:Nat}(h:So d i=false):Uy d (i+1)=Uy d i:=by
 simp[Uy,Zh9,Zhi,h]
theorem Sn(d:Dk)(i:Nat):(Uy d i).length≤i:=by
 unfold Uy;rw[Zq];exact Zjw (List.length_filter_le _ _) (by rw[Zi3];exact Yn _)
theorem Zue{d:Dk}{i:Nat}{x:Int}(h:x∈Uy d i):∃ k:Nat,k<i∧x=k:=by
 obtain⟨k,hk,rfl⟩:=Zjs.1 h;exact⟨k,Zj9.1 (Zhh.1 hk).1,rfl⟩
def Zr4(d:Dk)(w:World)(e:Ending)(w':World):Prop:=∃ v,e=.returned v∧RdE Wb w' (fun k=>w.heap.size≤k) v (Uy d d.ms.length)∧Ext w w'
theorem Zqg{U:Nat→Prop}{T:Tbl}{b B:Nat}{d:Dk}(w:World)(h:Wt w U T b B d):Calls prog 80 #[.pointer (some ⟨b,0,none⟩)] w (Zr4 d w):=by
 obtain⟨nn,hnn⟩:=gnX (d.ms.length);have hn64:nn≤64:=by have:=h.lm;omega
 obtain⟨Am,Cm,hmv,_,_⟩:=RdE.shape h.ptr;rw[Zq,hnn]at hmv;have c1:w.cell? ⟨b,1,none⟩=some d.mv:=h.c 1 rfl;rw[hmv]at c1;have H:=Y4 h;have Hnn:=Y4 hnn;have Hmv:=Y4 hmv;have hbl:=h.cells.lt;clear h hnn hmv;go_enter func80,ntmps80;go_wp2_with fail;go_loopw [11,3] (fun o y wr=>∃ i:Nat,i≤nn∧o=.int .i64 (i:Int)∧Own Wb wr w.heap.size y (Uy d i)∧Ext w wr) (fun o _ _=>nn-(intOf o).toNat);case atStart=>exact⟨0,by omega,rfl,Own.nil Wb w _,Yl _⟩
 obtain⟨i,hi,rfl,ho,hx⟩:=hrel;rename World=>wr
 have X1:=Y4 hx;have O1:=Y4 ho;clear hx ho c1;have D1:=Y4 (H.o.ext X1.o);obtain⟨Al,Cl,rfl,_,_⟩:=O1.o.shape;obtain⟨lb,hlb⟩:=gnX ((Uy d i).length);have hlb64:lb≤64:=by have:=Sn d i;omega
 rw[hlb]at O1⊢;have Hlb:=Y4 hlb;clear hlb;by_cases hlt:i<nn
 ·obtain⟨hd_i,i0_i,i1_i⟩:=LTl i nn;obtain⟨⟨mb,m⟩,hm⟩:∃ p,d.ms[i]?=some p:=⟨d.ms[i]'(by rw[Hnn.o];exact hlt),Zz _⟩;obtain⟨gm,om,cm,hmv2,cm1⟩:=Rn D1.o.ptr (k:=i) (x:=mb) (by rw[Zn,hm];rfl);rw[Zq,Hnn.o,Hmv.o]at hmv2;simp only[Ye]at hmv2;obtain⟨rfl,-,rfl⟩:=hmv2;have z13:wr.cell? ⟨mb,13,none⟩=some (.int .i64 m.st):=((D1.o.mach _ (Zy hm)).1).c 13 rfl;obtain⟨s,hsx⟩:∃ s,d.bx[i]?=some s:=⟨d.bx[i]'(by rw[D1.o.lb,Hnn.o];exact hlt),Zz _⟩;obtain⟨l,hlx⟩:∃ l,d.bs_[i]?=some l:=⟨d.bs_[i]'(by rw[D1.o.lbs,Hnn.o];exact hlt),Zz _⟩;obtain⟨hbr,hb8⟩:=D1.o.boxes i s l hsx hlx;obtain⟨sa,sn,sc⟩:=s;obtain⟨_,_,hse,_,_⟩:=hbr.shape;simp only[Sl.v,Ye]at hse;obtain⟨rfl,hsn,rfl⟩:=hse;have hbx:d.bx.length=nn:=by rw[D1.o.lb];exact Hnn.o
  have c2:wr.cell? ⟨b,2,none⟩=some (.slice (some ⟨d.gb,0,none⟩) nn d.cb):=by rw[← hbx];exact D1.o.c 2 rfl
  have ck:wr.cell? ⟨d.gb,i,none⟩=some (.slice sa sn sc):=Own.at_ (E:=ssE) D1.o.box (Ir hsx);have hbi:So d i=(m.st !=0||decide (0<sn)):=by simp only[So,hm,hlx,hsn]
  have Hbi:=Y4 hbi;unfold Zm2 at cm1;clear hm hsx hlx hbr hb8 hsn hbx hbi;by_cases hs:m.st=0
  ·have hs1:(m.st==0)=true:=by simp[hs]
   have Hs:=Y4 hs;clear hs;by_cases hz:0<sn
   ·have d2:decide ((0:Int)<(sn:Int))=true:=Yf;have Hz:=Y4 hz;clear hz;go_wp2_with (at_builtin;refine Xt Wb _ _ _ rfl rfl rfl rfl (O1.o.ext ((Yl _).alloc _)) rfl (Wr wr (i:Int) _ _ rfl) (by rw[Hlb.o];show lb+1≤_;omega) (by show 8≤1000;omega) (by have:=X1.o.size;simp;omega) ?_;intro A7 n7 c7 w7 hg7;have G7:=Y4 hg7;clear hg7);go_wp2_with fail;go_roundw;case rel=>exact⟨i+1,by omega,by go_num,by rw[Sm (by rw[Hbi.o];simp[Hz.o])];exact G7.o.own,G7.o.ext w (X1.o.alloc _) (Yn _)⟩
    (simp[intOf];omega)
   have d2:decide ((0:Int)<(sn:Int))=false:=Yg;have Hz:=Y4 hz;clear hz;go_wp2_with fail;go_roundw;case rel=>exact⟨i+1,by omega,by go_num,by rw[Zqh (by rw[Hbi.o];simp[Hz.o,Hs.o])];exact O1.o,X1.o⟩
   (simp[intOf];omega)
  have hs1:(m.st==0)=false:=by simp[hs]
  have Hs:=Y4 hs;clear hs;go_wp2_with (at_builtin;refine Xt Wb _ _ _ rfl rfl rfl rfl (O1.o.ext ((Yl _).alloc _)) rfl (Wr wr (i:Int) _ _ rfl) (by rw[Hlb.o];show lb+1≤_;omega) (by show 8≤1000;omega) (by have:=X1.o.size;simp;omega) ?_;intro A7 n7 c7 w7 hg7;have G7:=Y4 hg7;clear hg7);go_wp2_with fail;go_roundw;case rel=>exact⟨i+1,by omega,by go_num,by rw[Sm (by rw[Hbi.o];simp[Hs.o])];exact G7.o.own,G7.o.ext w (X1.o.alloc _) (Yn _)⟩
  (simp[intOf];omega)
 have hd_i:=GEl i nn;obtain rfl:nn=i:=by omega
 go_wp2_with fail;go_ret;exact⟨_,rfl,by rw[Hnn.o];exact Own.rd O1.o,X1.o⟩
def Zqx(d:Dk):Prop:=∀ (k:Nat) p,d.ms[k]?=some p→p.2.st=0∧∀ l,d.bs_[k]?=some l→l=[]
theorem Pc{d:Dk}{k:Nat}{p:Nat×Wc}(hp:d.ms[k]?=some p):So d k=true↔(p.2.st≠0∨∃ y l,d.bs_[k]?=some (y::l)):=by
 unfold So;rw[hp];simp only[Zhv,bne_iff_ne,ne_eq];refine or_congr Iff.rfl ?_;cases hb:d.bs_[k]? with
 | none=>simp
 | some l=>cases l<;>simp
theorem Zud{d:Dk}(h:Uy d d.ms.length=[]):Zqx d:=fun k p hp=>by
 have hlt:=(Zr.1 hp).1;have hb:¬ So d k=true:=fun hb=>by
  have:(k:Int)∈Uy d d.ms.length:=Zjs.2 ⟨k,Zhh.2 ⟨Zj9.2 hlt,hb⟩,rfl⟩;rw[h]at this;cases this
 rw[Pc hp]at hb;refine⟨Zik fun q=>hb (.inl q),fun l hl=>?_⟩;cases l with
 | nil=>rfl
 | cons y l=>exact absurd (.inr ⟨y,l,hl⟩) hb
structure Zve(d d':Dk)(bl:List Int)(j:Nat)(q:Bool):Prop where
 dec:q=true→wrk d'<wrk d
 load:load d'≤load d
 same:q=false→d'.x=d.x∧d'.ms.map Prod.snd=d.ms.map Prod.snd∧d'.bs_=d.bs_∧d'.ops.length=d.ops.length∧∀ i k:Nat,i<j→bl[i]?=some (k:Int)→Zx0 d.x (d.ms.map Prod.snd) d.bs_ d.ops.length k
theorem Zve.step{d d' d2:Dk}{bl:List Int}{j k:Nat}{q r q':Bool}(h:Zve d d' bl j q)(hp:Zuz cc d' k r d2)(hk:bl[j]?=some (k:Int))(h1:r=true→q'=true)(h2:r=false→q'=q):Zve d d2 bl (j+1) q':=by
 have same:r=false→wrk d2=wrk d':=fun e=>by
  obtain⟨_,a,b,_⟩:=hp.same e;unfold wrk;rw[a,b]
 refine⟨fun e=>?_,Zjw hp.load h.load,fun e=>?_⟩
 ·cases hr:r
  ·rw[h2 hr]at e;rw[same hr];exact h.dec e
  have h3:=hp.dec hr;cases hq:q
  ·obtain⟨_,a,b,_⟩:=h.same hq;have:wrk d'=wrk d:=by unfold wrk;rw[a,b]
   omega
  have:=h.dec hq;omega
 cases hr:r
 ·rw[h2 hr]at e;obtain⟨a1,a2,a3,a4,a5⟩:=hp.same hr;obtain⟨b1,b2,b3,b4,b5⟩:=h.same e;refine⟨a1.trans b1,a2.trans b2,a3.trans b3,a4.trans b4,fun i k' hi hk'=>?_⟩;rcases(show i<j∨i=j by omega)with g|rfl
  ·exact b5 i k' g hk'
  rw[hk]at hk';have:=Zjy hk';obtain rfl:k=k':=by omega
  rw[b1,b2,b3,b4]at a5;exact a5
 rw[h1 hr]at e;cases e
theorem Zve.upT{d d':Dk}{bl:List Int}{j t1:Nat}{q:Bool}(h:Zve d d' bl j q):Zve d {d' with t:=t1} bl j q:=⟨h.dec,h.load,h.same⟩
theorem Zve.ends{d d':Dk}{bl:List Int}{q:Bool}(h:Zve d d' bl bl.length q)(hl:V9 cc d)(hld:Go.Proofs.YtnbclgbicnpmnaaGreat.load d<4096)(hb:Uy d d.ms.length=bl)(hne:bl≠[]):q=true:=by
 cases hq:q
 ·exfalso;obtain⟨_,_,_,_,a⟩:=h.same hq;obtain⟨⟨_,M,hX,_⟩,hL⟩:=hl;have hno:=Zpl hL (fun m hm e=>(hX.req m hm (by omega) (by omega)).srt) (n:=d.ops.length) (bs:=d.bs_) (by unfold Go.Proofs.YtnbclgbicnpmnaaGreat.load at hld;omega) fun k m hk hm=>by
   rw[Zn,Zjl]at hk;obtain⟨p,hp,rfl⟩:=hk;have hlt:=(Zr.1 hp).1;have hmem:(k:Int)∈bl:=by rw[← hb];exact Zjs.2 ⟨k,Zhh.2 ⟨Zj9.2 hlt,(Pc hp).2 hm⟩,rfl⟩
   obtain⟨i,hi⟩:=Zjr hmem;exact a i k (Zr.1 hi).1 hi
  refine hne ?_;rw[← hb];unfold Uy;rw[List.map_eq_nil_iff,List.filter_eq_nil_iff];intro k hk;have hlt:=Zj9.1 hk;obtain⟨p,hp⟩:∃ p,d.ms[k]?=some p:=⟨_,Zz hlt⟩;rw[Pc hp];obtain⟨b1,b2⟩:=hno k p.2 (by rw[Zn,hp];rfl);rintro(e | ⟨y,l,e⟩)
  ·exact e b1
  have:=b2 _ e;cases this
 rfl
def Zxb(cc:Int×Int)(T:Tbl)(b B nn:Nat)(w:World)(e:Ending)(w':World):Prop:=∃ (z:Int) (d':Dk) (U':Nat→Prop),e=.returned (.int .i64 z)∧Wt w' U' T b B d'∧(V9 cc d'∧Zqx d'∧d'.t≤100000)∧Chg (fun k=>B≤k) w w'∧d'.ms.length=nn
theorem Zvx{U:Nat→Prop}(T:Tbl)(hf:Few T)(hu:Uq T)(b B most:Nat)(hmo:most≤20000)(d:Dk)(w:World)(h:Wt w U T b B d)(hl:V9 cc d)(hn:d.n≤1000)(ht:d.t≤1000)(h4:d.ms.length≤4)(hw:wrk d<most)(hld:load d<4096):Calls prog 33 #[.pointer (some ⟨b,0,none⟩),.int .i64 (most:Int)] w (Zxb cc T b B d.ms.length w):=by
 obtain⟨nn,hnn⟩:=gnX (d.ms.length);rw[hnn]at h4⊢;obtain⟨W0,hW0⟩:=gnX (wrk d);have H:=Y4 h;have Hl:=Y4 hl;have Hnn:=Y4 hnn;have Hn:=Y4 hn;have Ht:=Y4 ht;have Hf:=Y4 hf;have Hu:=Y4 hu;have HW0:=Y4 (show W0<most by omega);have HW:=Y4 (show wrk d≤W0∧load d<4096 from⟨by omega,hld⟩);clear h hl hnn hn ht hf hu hw hld hW0;go_enter func33,ntmps33;go_wp2_with fail;go_loopw [5,6] (fun o y wr=>∃ (i:Nat) (d:Dk) (U:Nat→Prop),i≤most∧o=.int .i64 (i:Int)∧y=.bool true∧Wt wr U T b B d∧V9 cc d∧(i+wrk d≤W0∧load d<4096)∧d.ms.length=nn∧d.n≤1000+4*i∧d.t≤1000+4*i∧Chg (fun k=>B≤k) w wr) (fun o _ _=>most-(intOf o).toNat);case atStart=>exact⟨0,d,U,by omega,rfl,rfl,H.o,Hl.o,⟨by have:=HW.o.1;omega,HW.o.2⟩,Hnn.o,by have:=Hn.o;omega,by have:=Ht.o;omega,Chg.refl _ _⟩
 clear H Hl Hnn Hn Ht HW d U;obtain⟨i,d,U,hi,rfl,rfl,hD,hL,hwl,hml,hn,ht,hC⟩:=hrel;rename World=>wr
 have D1:=Y4 hD;have L1:=Y4 hL;have M1:=Y4 hml;have N1:=Y4 hn;have T1:=Y4 ht;have C1:=Y4 hC;have W1:=Y4 hwl;clear hD hL hml hn ht hC hwl;skip
 ·by_cases hlt:i<most
  ·obtain⟨hd_i,i0_i,i1_i⟩:=LTl i most;go_wp2_with fail;refine(Zqg _ D1.o).mono ?_;rintro e w2 ⟨v,rfl,hr,hx⟩;rw[M1.o]at hr;obtain⟨bl,hbl⟩:=gnX (Uy d nn);have hbm:∀ x∈bl,∃ k:Nat,k<nn∧x=k:=fun x hx=>Zue (by rw[hbl];exact hx)
   have hb4:bl.length≤4:=by have:=Sn d nn;rw[hbl]at this;omega
   rw[hbl]at hr;obtain⟨Ab,Cb,rfl,_,_⟩:=hr.shape;obtain⟨lb,hlb⟩:=gnX (bl.length);rw[hlb]at hr hb4⊢;have R2:=Y4 (show RdE Wb w2 (fun k=>¬ U k) (.slice Ab lb Cb) bl from Rd.mono hr fun k hk _ hu=>by have:=(D1.o.hU k hu).2;omega);have Hbm:=Y4 hbm;have Hbl:=Y4 (show Uy d d.ms.length=bl by rw[M1.o];exact hbl);have Hlb:=Y4 hlb;have D2:=Y4 (D1.o.ext hx);have C2:=Y4 (C1.o.trans (hx.chg _));clear hr hbm hlb hbl hx;by_cases hz:lb=0
   ·have z1:((lb:Int)==0)=true:=by simp[hz]
    go_wp2_with fail;go_ret;exact⟨_,d,U,rfl,D2.o,⟨L1.o,Zud (by rw[Hbl.o];exact Zjk (by rw[Hlb.o];exact hz)),by have:=T1.o;omega⟩,C2.o,M1.o⟩
   have z1:((lb:Int)==0)=false:=by simp;omega
   have z2:(lb==0)=false:=by simp;omega
   go_wp2_with fail;go_loopw [23,6] (fun o y wr=>∃ (j:Nat) (q:Bool) (d':Dk) (U':Nat→Prop),j≤lb∧o=.int .i64 (j:Int)∧y=.bool q∧Wt wr U' T b B d'∧V9 cc d'∧Zve d d' bl j q∧d'.ms.length=nn∧d'.n≤1000+4*i+j∧d'.t≤1000+4*i+j∧RdE Wb wr (fun k=>¬ U' k) (.slice Ab lb Cb) bl∧Chg (fun k=>B≤k) w wr) (fun o _ _=>lb-(intOf o).toNat);case atStart=>exact⟨0,false,d,U,by omega,rfl,rfl,D2.o,L1.o,⟨fun e=>(by cases e),Yn _,fun _=>⟨rfl,rfl,rfl,rfl,fun i k hi=>by omega⟩⟩,M1.o,by have:=N1.o;omega,by have:=T1.o;omega,R2.o,C2.o⟩
   have L0:=L1;have M0:=M1;have N0:=N1;have T0:=T1;clear D1 L1 M1 N1 T1 C1 D2 C2 R2 U;obtain⟨j,q,e,U,hj,rfl,rfl,hD,hL,hI,hml,hn,ht,hR,hC⟩:=hrel;rename World=>ws
   have D1:=Y4 hD;have L1:=Y4 hL;have I1:=Y4 hI;have M1:=Y4 hml;have N1:=Y4 hn;have T1:=Y4 ht;have R1:=Y4 hR;have C1:=Y4 hC;clear hD hL hI hml hn ht hR hC;by_cases hlt2:j<lb
   ·obtain⟨hd_j,i0_j,i1_j⟩:=LTl j lb;obtain⟨x,hx⟩:=geX (l:=bl) (i:=j) (by rw[Hlb.o];exact hlt2);obtain⟨k,hk,rfl⟩:=Hbm.o x (Zy hx);obtain⟨gb,ob,cb,hvv,_,_,_,_,hcc⟩:=Rd.at_ R1.o (k:=j) (by rw[Hlb.o];exact hlt2);rw[Hlb.o]at hvv;simp only[Ye]at hvv;obtain⟨rfl,-,rfl⟩:=hvv;have cx:=hcc j _ (ints_at hx);have Hxj:=Y4 hx;clear hx hcc;go_wp2_with fail;refine(Sd T Hf.o Hu.o b B k e _ D1.o (by have:=N1.o;omega) (by have:=T1.o;omega) L1.o (by rw[M1.o];exact hk)).mono ?_;rintro e9 w3 ⟨r,d',U',rfl,hD,hL,hC,hm',ht',hn',hU'⟩;have D3:=Y4 hD;have L3:=Y4 hL;have R3:=Y4 (show RdE Wb w3 (fun k=>¬ U' k) (.slice (some ⟨gb,ob,none⟩) lb Cb) bl from Rd.mono (Rd.chg (Rd.mono (T:=fun k=>¬ U k∧k<ws.heap.size) R1.o fun k hk hl=>⟨hk,hl⟩) hC fun k hk=>hk.1) fun k hk _ hu=>by
     rcases hU' k hu with e|e
     ·exact hk.1 e
     have:=hk.2;omega)
    have C3:=Y4 (C1.o.trans (hC.mono fun q _ hq=>(D1.o.hU q hq).1));have T3:=Y4 ht';have M3:=Y4 hm';have N3:=Y4 hn';have c5:w3.cell? ⟨b,5,none⟩=some (.int .i64 (d'.t:Int)):=D3.o.c 5 rfl;have fz:=D3.o.cells.fz;have hbl3:=D3.o.cells.lt;obtain⟨t1,ht1⟩:∃ q:Nat,d'.t+1=q:=⟨_,rfl⟩;have r1:IntKind.i64.wrap ((d'.t:Int)+1)=(t1:Int):=by rw[Yp _ (by have:=T1.o;have:=T3.o;omega)];omega
    have Ht1:=Y4 ht1;have L4:=Y4 (V9.next (d:=d') (by rw[T3.o];exact L3.o.lin) ht1);have D4:=Y4 (D3.o.setT t1);have C4:=Y4 (C3.o.setCell (p:=⟨b,5,none⟩) (.inl (D3.o.hU _ D3.o.ub).1) (.int .i64 (t1:Int)));have R4:=Y4 (show RdE Wb (w3.setCell ⟨b,5,none⟩ (.int .i64 (t1:Int))) (fun k=>¬ U' k) (.slice (some ⟨gb,ob,none⟩) lb Cb) bl from Rd.chg R3.o ((Chg.refl (· = b) w3).setCell (p:=⟨b,5,none⟩) (.inl rfl) _) fun k hk e=>hk (e▸D3.o.ub));clear hD hL hC hm' ht' hn' hU' cx ht1;cases r
    ·have I4:=Y4 (show Zve d {d' with t:=t1} bl (j+1) q from(I1.o.step L3.o Hxj.o (fun e=>(by cases e)) (fun _=>rfl)).upT);go_wp2_with fail;go_roundw;case rel=>exact⟨j+1,_,{d' with t:=t1},U',by omega,by go_num,rfl,D4.o,L4.o,I4.o,by show d'.ms.length=nn;rw[M3.o];exact M1.o,by show d'.n≤_;have:=N3.o;have:=N1.o;omega,by show t1≤_;have:=Ht1.o;have:=T3.o;have:=T1.o;omega,R4.o,C4.o⟩
     (simp[intOf];omega)
    have I4:=Y4 (show Zve d {d' with t:=t1} bl (j+1) true from(I1.o.step L3.o Hxj.o (fun _=>rfl) (fun e=>(by cases e))).upT);go_wp2_with fail;go_roundw;case rel=>exact⟨j+1,_,{d' with t:=t1},U',by omega,by go_num,rfl,D4.o,L4.o,I4.o,by show d'.ms.length=nn;rw[M3.o];exact M1.o,by show d'.n≤_;have:=N3.o;have:=N1.o;omega,by show t1≤_;have:=Ht1.o;have:=T3.o;have:=T1.o;omega,R4.o,C4.o⟩
    (simp[intOf];omega)
   have hd_j:=GEl j lb;obtain rfl:lb=j:=by omega
   obtain rfl:q=true:=Zve.ends (d:=d) (d':=e) (bl:=bl) (by rw[Hlb.o];exact I1.o) L0.o W1.o.2 Hbl.o (fun e=>by have:=Hlb.o;rw[e]at this;simp at this;omega);have HW2:=Y4 (show i+1+wrk e≤W0∧load e<4096 from⟨by have:=I1.o.dec rfl;have:=W1.o.1;omega,Nat.lt_of_le_of_lt I1.o.load W1.o.2⟩);go_wp2_with fail;go_roundw;case rel=>exact⟨i+1,e,U,by omega,by go_num,rfl,D1.o,L1.o,HW2.o,M1.o,by have:=N1.o;omega,by have:=T1.o;omega,C1.o⟩
   (simp[intOf];omega)
  exfalso;have h1:=HW0.o;have h2:=W1.o.1;omega
end
