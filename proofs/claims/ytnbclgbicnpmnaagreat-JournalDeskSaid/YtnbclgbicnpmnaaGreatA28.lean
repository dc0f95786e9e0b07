/- Lemmas of this claim: Dr, Bus, Dt. Conditions: as named. -/
import Derived.Test.YtnbclgbicnpmnaaGreatA27
namespace Go.Proofs.YtnbclgbicnpmnaaGreat
open Go.RowKit Go.Sort Go.Proofs.Tryz
set_option maxHeartbeats 0
set_option maxRecDepth 100000
set_option linter.all false
section
variable {cc:Int×Int}
theorem Zuq{w:World}{b:Nat}{T:Tbl}{m:Wc}(h:Xm w b (machC T m)):w.cell? ⟨b,15,none⟩=some (.int .i64 m.op)∧w.cell? ⟨b,16,none⟩=some (.int .i64 m.ttl)∧w.cell? ⟨b,17,none⟩=some m.lv∧w.cell? ⟨b,19,none⟩=some (.int .i64 m.ans.e)∧w.cell? ⟨b,20,none⟩=some (.int .i64 m.ans.at_)∧w.cell? ⟨b,21,none⟩=some (.string m.ans.nm)∧w.cell? ⟨b,22,none⟩=some (.int .i64 m.ans.rc.st)∧w.cell? ⟨b,23,none⟩=some (.int .i64 m.ans.rc.ow)∧w.cell? ⟨b,24,none⟩=some (.string m.ans.rc.nm)∧w.cell? ⟨b,25,none⟩=some (.int .i64 m.ans.rc.dl)∧w.cell? ⟨b,26,none⟩=some (.int .i64 m.ans.tick) :=
 ⟨h.at_ 15 (by show 15<28;omega),h.at_ 16 (by show 16<28;omega),h.at_ 17 (by show 17<28;omega),h.at_ 19 (by show 19<28;omega),h.at_ 20 (by show 20<28;omega),h.at_ 21 (by show 21<28;omega),h.at_ 22 (by show 22<28;omega),h.at_ 23 (by show 23<28;omega),h.at_ 24 (by show 24<28;omega),h.at_ 25 (by show 25<28;omega),h.at_ 26 (by show 26<28;omega)⟩
theorem Ur{d d':Dk}{k zn mb:Nat}{s:Int}{m m':Wc}{x':Shr}{o o':OpS}{r:Bool}(h:Qt cc d)(hk:d.ms[k]?=some (mb,m))(hs:m.st≠0)(rel:K7 m d.x s m' x')(k0:MOk m)(ok:MOk m')(hz:d.last[k]?=some (zn:Int))(ho:d.ops[zn]?=some o)(hop:OpR d.t m s m' o.1 o'.1)
 (e1:d'.x=x') (e2:d'.ms=d.ms.set k (mb,m')) (e3:d'.ops=d.ops.set zn o') (e4:d'.last=d.last) (e5:d'.bs_=d.bs_) (hr:r=(s !=2)):Zt4 cc d k r d':=by
 have hkm:(d.ms.map Prod.snd)[k]?=some m:=by rw[Zn,hk];rfl
 refine⟨⟨?_,?_⟩,fun e=>?_,fun e=>?_,?_⟩
 ·rw[e1,e2,e3,e4,Zey,Zey];exact Lin.step h.1 (by omega) hkm hs rel ok hz (by rw[Zn,ho];rfl) hop
 ·rw[e1,e2,Zey];exact⟨h.2.1.step hkm k0 rel,h.2.2.step rel⟩
 ·have h2:s≠2:=by rw[hr]at e;simpa using e
  have hsr:=Fh rank (b:=m') hkm;have:=Zpo k0 hs rel h2;unfold wrk work;rw[show d'.ms.map Prod.snd=(d.ms.map Prod.snd).set k m' by rw[e2,Zey],e5];omega
 ·have h2:s=2:=by rw[hr]at e;simpa using e
  have key:x'=d.x∧m'=m∧∃ n,Bf d.x m n:=by
   subst h2;cases rel with
   | block n c q1 q2 q3 q4=>exact⟨rfl,rfl,n,q1,c,q2,q3,q4⟩
  obtain⟨a1,a2,a3⟩:=key;refine⟨by rw[e1,a1],?_,e5,by rw[e3,Zf],m,hkm,.inr a3⟩;rw[e2,Zey,a2,set_self hkm]
 unfold load;rw[e3,e5,Zf];exact Ym _
theorem Zpx{U:Nat→Prop}(T:Tbl)(hf:Few T)(hu:Uq T)(b B k mb:Nat)(m:Wc)(d:Dk)(w:World)(h:Wu w U T b B d)(hn:d.n≤99999)(ht:d.t≤2000000)(hl:Qt cc d)(hk:d.ms[k]?=some (mb,m))(hs:m.st≠0):Calls prog 78 #[.pointer (some ⟨b,0,none⟩),.int .i64 (k:Int)] w (Sz cc U T b B d k w):=by
 have hkl:=(Zr.1 hk).1;obtain⟨nn,hnn⟩:=gnX (d.ms.length);rw[hnn]at hkl;have hn64:nn≤64:=by have:=h.lm;omega
 obtain⟨gm,om,cm,hmv,cmk⟩:=On h.ptr (k:=k) (x:=mb) (by rw[Zn,hk];rfl);rw[Zq,hnn]at hmv;have c1:w.cell? ⟨b,1,none⟩=some d.mv:=h.c 1 rfl;rw[hmv]at c1;have c0:w.cell? ⟨b,0,none⟩=some (.pointer (some ⟨d.xb,0,none⟩)):=h.c 0 rfl;have hM:=(h.mach _ (Zy hk)).1;have z13:w.cell? ⟨mb,13,none⟩=some (.int .i64 m.st):=hM.c 13 rfl;have k0:(0:Int)≤(k:Int):=by omega
 have k1:(k:Int)<(nn:Int):=by omega
 have d1:(m.st==0)=false:=by simp[hs]
 have hmu:=h.um _ (Zy hk);have HI:=Y8 (show Gs (fun j=>¬ U j) T mb d.xb m d.x w from⟨hM,(h.mach _ (Zy hk)).2,h.shr,(h.ne.2.2.2.2.2.2 _ (Zy hk)).2.1,fun q=>q hmu,fun q=>q h.ux,fun j hj hu=>by have:=(h.hU j hu).2;omega,h.tbl⟩);obtain⟨z,hz⟩:∃ z,d.last[k]?=some z:=⟨d.last[k]'(by rw[h.ll,hnn];exact hkl),Zz _⟩;obtain⟨z0,z1⟩:=hl.at_ hk hz hs;obtain⟨zn,rfl⟩:∃ q:Nat,z=q:=⟨z.toNat,by omega⟩;have hll:d.last.length=nn:=by rw[h.ll];exact hnn
 obtain⟨no,hno⟩:=gnX (d.ops.length);obtain⟨o,ho⟩:∃ o,d.ops[zn]?=some o:=⟨d.ops[zn]'(by omega),Zz _⟩;obtain⟨go,Co,hov,_,_,_,_⟩:=h.own.some_ (by omega);rw[hno]at hov z1;have z2:zn<no:=by omega
 have H:=Y8 h;have Hl:=Y8 hl;have Hk:=Y8 hk;have Hs:=Y8 hs;have Hnn:=Y8 hnn;have Hno:=Y8 hno;have Hov:=Y8 hov;have Hz:=Y8 hz;have Ho:=Y8 ho;have Hf:=Y8 hf;have Hu:=Y8 hu;have Hn:=Y8 hn;have Hll:=Y8 hll;clear h hl hk hs hnn hmv hM hno hov hz ho hf hu hn hll;unfold Zkp at cmk;go_enter func78,ntmps78;go_wp2_with fail;refine(Zlj T Hf.o Hu.o mb d.xb m d.x _ d.n H.o.xok (by have:=Hn.o;omega) HI.o).mono ?_;rintro e w2 ⟨s,m',x',rfl,hok⟩;have D2:=Y8 (H.o.step Hk.o hok.chg hok.mach hok.mok hok.shr (hok.xok _ H.o.xok));have C2:=Y8 (show Chg U w w2 from hok.chg.mono fun _ _ e=>by rcases e with e|e;exact e▸hmu;exact e▸H.o.ux);have Hpar:=Y8 hok.par;have Hrel:=Y8 hok.rel;have Hmok:=Y8 hok.mok;clear hok c1 c0 cmk z13 HI;go_upto_region 12 with fail;have m3:=lat (show w2.cell? ⟨b,3,none⟩=some (.slice (some ⟨go,0,none⟩) no Co) from by rw[← Hov.o];exact D2.o.c 3 rfl);have m4:=lat (show w2.cell? ⟨b,4,none⟩=some (.slice (some ⟨d.gl,0,none⟩) nn d.cl) from by rw[← Hll.o];exact D2.o.c 4 rfl);have mk:=lat (show w2.cell? ⟨d.gl,k,none⟩=some (.int .i64 (zn:Int)) from Own.at_ (E:=Ww) D2.o.lown (ints_at Hz.o));refine Xa 12 13 (by kernel_rfl) (by omega) (by kernel_rfl) (by kernel_rfl) (by kernel_rfl) ?_;simp only[Z6,Z7,Z8,Z9];repeat(refine(Yu ?_:);intro K hK;go_simp;refine hK _ ?_;clear hK K)
 refine Yt ?_;intro w3 hy3;have D3:=Y8 (D2.o.ext hy3);have C3:=Y8 (C2.o.trans (hy3.chg _));clear hy3 m3 m4 mk D2 C2;obtain⟨nb,nx,ngb,ngl,nms⟩:=H.o.nov (g:=go) (by rw[Hov.o];rfl);have nmo:mb≠go:=nms _ (Zy Hk.o);have hgo:=H.o.uo go (by rw[Hov.o];rfl);have M3:=Y8 (show Xm w3 mb (machC T m') from(D3.o.mach (mb,m') (by apply Zy (i:=k);show(d.ms.set k (mb,m'))[k]?=_;rw[Zc (by rw[Hnn.o];exact hkl)])).1.cells);have N3:=Y8 (show Wo w3 (fun j=>¬ U j) m'.lv m'.ns from(D3.o.mach (mb,m') (by apply Zy (i:=k);show(d.ms.set k (mb,m'))[k]?=_;rw[Zc (by rw[Hnn.o];exact hkl)])).1.ns);have B3:=Y8 (show Xm w3 go (Zkr d.ops) from⟨(D3.o.hU go (H.o.uo go (by rw[Hov.o];rfl))).2,fun j=>by
  have:=D3.o.own;rw[show({d with x:=x',ms:=d.ms.set k (mb,m'),n:=d.n+1}:Dk).ov=.slice (some ⟨go,0,none⟩) no Co from Hov.o]at this;exact Own.thaw (E:=opE) this j,fun j hj=>by
  have:=D3.o.own;rw[show({d with x:=x',ms:=d.ms.set k (mb,m'),n:=d.n+1}:Dk).ov=.slice (some ⟨go,0,none⟩) no Co from Hov.o]at this;rw[Zz hj];exact Own.at_ (E:=opE) this (Zz hj)⟩)
 have c5:w3.cell? ⟨b,5,none⟩=some (.int .i64 (d.t:Int)):=D3.o.c 5 rfl;have hOc:∀ f v,(opC o.1)[f]?=some v→w3.cell? ⟨go,zn*23+f,none⟩=some v:=fun f v hv=>by
  have h23:f<23:=by have:=(Zr.1 hv).1;rw[Ug]at this;exact this
  have e:(Zkr d.ops)[zn*23+f]?=some v:=by
   show(Lx (d.ops.map Subtype.val))[zn*23+f]?=_;rw[Zy7 (o:=o.1) (by rw[Zn,Ho.o];rfl) f h23,hv]
  rw[B3.o.at_ _ (Zr.1 e).1,e]
 have hth:∀ f n,f+n≤23→w3.there go (zn*23+f) n:=fun f n hf=>B3.o.there (by
  show zn*23+f+n≤(Lx (d.ops.map Subtype.val)).length;rw[Mz,Zq,Hno.o];omega)
 have fzo:=B3.o.fz;cases e3:(s==3)
 ·cases e4:(s==4)
  ·cases e1:(m.st==1)
   ·go_wp2_with fail;go_wp2_with fail;go_ret;refine⟨_,_,_,rfl,D3.o,(Ur Hl.o Hk.o Hs.o Hrel.o (H.o.mach _ (Zy Hk.o)).2 Hmok.o Hz.o Ho.o (o':=o) (by unfold OpR;rw[Zgq (by simpa using e3),Zgq (by simpa using e4),Zgq (by simpa using e1)]) rfl rfl (set_self Ho.o).symm rfl rfl (by first|rfl|(have e3:=e3;simp_all))),C3.o,?_,rfl,Ym _,fun _=>.inl⟩;show(d.ms.set k _).length=_;rw[Zf]
   have hs1:m.st=1:=by simpa using e1
   have hs3:s≠3:=by simpa using e3
   have h2:m'.st=2:=(Hpar.o hs1).resolve_left hs3;obtain⟨_,h16,_,_⟩:=Hmok.o.n0 (by omega) (by omega);obtain⟨Al,Cl,hlv⟩:=N3.o.shape;have one:m'.lv.oneCell'=true:=by rw[hlv];rfl
   have Hlv:=Y8 hlv;have H16:=Y8 h16;clear hs1 hs3 h2 hlv h16;go_upto_region 20 with fail;refine Zg8 (S:=fun w'=>True∧Xm w' mb (machC T m')∧True) (by kernel_rfl) ?_ (fun hHeld=>?_)
   ·exact⟨trivial,M3.o.drew,trivial⟩
   obtain⟨Wd,hWd⟩:=gnX (w3.drew);have D3:=Y8 (D3.o.ext (Yk w3).drew);have C3:=Y8 (C3.o.drew);have M3:=Y8 M3.o.drew;have N3:=Y8 (Rd.ext N3.o (Yk w3).drew);have c1:w3.drew.cell? ⟨go,zn*23+1,none⟩=some (.int .i64 o.1.op):=hOc 1 _ rfl;have c2:w3.drew.cell? ⟨go,zn*23+2,none⟩=some (.int .i64 o.1.ttl):=hOc 2 _ rfl;have c3:w3.drew.cell? ⟨go,zn*23+3,none⟩=some o.1.nv:=hOc 3 _ rfl;have fzo:∀ j,w3.drew.frozen? ⟨go,j,none⟩=false:=fzo;rw[hWd]at D3 C3 M3 N3 c1 c2 c3 fzo hHeld;rw[hWd];clear hWd hOc hth;refine tksX [0,1,2,3,4,5,6,7,8,9,10,11,12,13,14,15,16] 7 hHeld ?_;simp only[Z3,Z4,Z5,Zw,Zx];repeat(refine tkcX (v:=?_) ?_ ?_;rotate_left;(focus((intro wT hST;obtain⟨hS0,hS1,hS2⟩:=hST;obtain⟨h15,h16,h17,h19,h20,h21,h22,h23,h24,h25,h26⟩:=Zuq hS1;go_simp);(first|done|(with_reducible rfl))));(try simp only[Act.put,Zv,Zu,Zt]))
   refine Xp ?_;clear hHeld;rw[Hlv.o];refine rdoX 17 (fun K hK=>?_);go_simp;have D4:=Y8 (D3.o.setOp (z:=zn) (f:=1) (o:=o) (o':=⟨{o.1 with op:=m'.op},o.2⟩) (vs:=[.int .i64 m'.op]) Hov.o Ho.o (by show 1+1≤23;omega) rfl (D3.o.nms o (Zy Ho.o)) (D3.o.n16 o (Zy Ho.o)));have c2:(Wd.setCell ⟨go,zn*23+1,none⟩ (.int .i64 m'.op)).cell? ⟨go,zn*23+2,none⟩=some (.int .i64 o.1.ttl):=by go_simp
   have c3:(Wd.setCell ⟨go,zn*23+1,none⟩ (.int .i64 m'.op)).cell? ⟨go,zn*23+3,none⟩=some o.1.nv:=by go_simp
   have C4:=Y8 (C3.o.setCell (p:=⟨go,zn*23+1,none⟩) (.inl hgo) (.int .i64 m'.op));have M4:=Y8 (M3.o.far nmo (j:=zn*23+1) (.int .i64 m'.op));have N4:=Y8 (Rd.chg N3.o ((Chg.refl (· = go) Wd).setCell (p:=⟨go,zn*23+1,none⟩) (.inl rfl) (.int .i64 m'.op)) (fun _ hj e=>hj (e▸H.o.uo go (by rw[Hov.o];rfl))));have hF:∀ j,(Wd.setCell ⟨go,zn*23+1,none⟩ (.int .i64 m'.op)).frozen? ⟨go,j,none⟩=false:=fun j=>by rw[Zer];exact fzo j
   refine hK.out _ _ ⟨trivial,M4.o,trivial⟩ (fun hHeld=>?_);clear hK K;try simp only[Act.put,Zv,Zu,Zt]
   obtain⟨W4,hPW⟩:=gnX (Wd.setCell ⟨go,zn*23+1,none⟩ (.int .i64 m'.op));rw[show Wd.setCells go (zn*23+1) [.int .i64 m'.op]=W4 from hPW]at D4;rw[hPW]at C4 M4 N4 hF hHeld;rw[hPW];clear fzo;have fzo:=hF;clear hF;clear c1;rw[hPW]at c2 c3;clear hPW;refine tksX [18,19] 4 hHeld ?_;simp only[Z3,Z4,Z5,Zw,Zx];repeat(refine tkcX (v:=?_) ?_ ?_;rotate_left;(focus((intro wT hST;obtain⟨hS0,hS1,hS2⟩:=hST;obtain⟨h15,h16,h17,h19,h20,h21,h22,h23,h24,h25,h26⟩:=Zuq hS1;go_simp);(first|done|(with_reducible rfl))));(try simp only[Act.put,Zv,Zu,Zt]))
   refine Xp ?_;clear hHeld;refine rdoX 20 (fun K hK=>?_);go_simp;have D5:=Y8 (D4.o.setOp (z:=zn) (f:=2) (o:=⟨{o.1 with op:=m'.op},o.2⟩) (o':=⟨{o.1 with op:=m'.op,ttl:=m'.ttl},o.2⟩) (vs:=[.int .i64 m'.ttl]) Hov.o (Zc (by rw[Hno.o];exact z2)) (by show 2+1≤23;omega) rfl (D4.o.nms ⟨{o.1 with op:=m'.op},o.2⟩ (Zy (i:=zn) (Zc (by rw[Hno.o];exact z2)))) (H.o.n16 o (Zy Ho.o)));have c3:(W4.setCell ⟨go,zn*23+2,none⟩ (.int .i64 m'.ttl)).cell? ⟨go,zn*23+3,none⟩=some o.1.nv:=by go_simp
   have C5:=Y8 (C4.o.setCell (p:=⟨go,zn*23+2,none⟩) (.inl hgo) (.int .i64 m'.ttl));have M5:=Y8 (M4.o.far nmo (j:=zn*23+2) (.int .i64 m'.ttl));have N5:=Y8 (Rd.chg N4.o ((Chg.refl (· = go) W4).setCell (p:=⟨go,zn*23+2,none⟩) (.inl rfl) (.int .i64 m'.ttl)) (fun _ hj e=>hj (e▸H.o.uo go (by rw[Hov.o];rfl))));have hF:∀ j,(W4.setCell ⟨go,zn*23+2,none⟩ (.int .i64 m'.ttl)).frozen? ⟨go,j,none⟩=false:=fun j=>by rw[Zer];exact fzo j
   refine hK.out _ _ ⟨trivial,M5.o,trivial⟩ (fun hHeld=>?_);clear hK K;try simp only[Act.put,Zv,Zu,Zt]
   obtain⟨W5,hPW⟩:=gnX (W4.setCell ⟨go,zn*23+2,none⟩ (.int .i64 m'.ttl));rw[show W4.setCells go (zn*23+2) [.int .i64 m'.ttl]=W5 from hPW]at D5;rw[hPW]at C5 M5 N5 hF hHeld;rw[hPW];clear fzo;have fzo:=hF;clear hF;clear c2;rw[hPW]at c3;clear hPW;refine tksX [21,22] 1 hHeld ?_;simp only[Z3,Z4,Z5,Zw,Zx];repeat(refine tkcX (v:=?_) ?_ ?_;rotate_left;(focus((intro wT hST;obtain⟨hS0,hS1,hS2⟩:=hST;obtain⟨h15,h16,h17,h19,h20,h21,h22,h23,h24,h25,h26⟩:=Zuq hS1;go_simp);(first|done|(with_reducible rfl))));(try simp only[Act.put,Zv,Zu,Zt]))
   refine Xp ?_;clear hHeld;refine rdoX 23 (fun K hK=>?_);go_simp;have D6:=Y8 (D5.o.setOp (z:=zn) (f:=3) (o:=⟨{o.1 with op:=m'.op,ttl:=m'.ttl},o.2⟩) (o':=⟨{o.1 with op:=m'.op,ttl:=m'.ttl,nv:=.slice Al m'.ns.length Cl,ns:=m'.ns},rfl⟩) (vs:=[.slice Al m'.ns.length Cl]) Hov.o (Zc (by rw[Zf,Hno.o];exact z2)) (by show 3+1≤23;omega) rfl (by show Wo W5 _ (.slice Al m'.ns.length Cl) m'.ns;rw[← Hlv.o];exact N5.o) ⟨H16.o,(H.o.n16 o (Zy Ho.o)).2.1,(H.o.n16 o (Zy Ho.o)).2.2.1,(H.o.n16 o (Zy Ho.o)).2.2.2.1,(H.o.n16 o (Zy Ho.o)).2.2.2.2.1,Hmok.o.c1.2.1,(H.o.n16 o (Zy Ho.o)).2.2.2.2.2.2⟩);have C6:=Y8 (C5.o.setCell (p:=⟨go,zn*23+3,none⟩) (.inl hgo) (.slice Al m'.ns.length Cl));have M6:=Y8 (M5.o.far nmo (j:=zn*23+3) (.slice Al m'.ns.length Cl));have N6:=Y8 (Rd.chg N5.o ((Chg.refl (· = go) W5).setCell (p:=⟨go,zn*23+3,none⟩) (.inl rfl) (.slice Al m'.ns.length Cl)) (fun _ hj e=>hj (e▸H.o.uo go (by rw[Hov.o];rfl))));have hF:∀ j,(W5.setCell ⟨go,zn*23+3,none⟩ (.slice Al m'.ns.length Cl)).frozen? ⟨go,j,none⟩=false:=fun j=>by rw[Zer];exact fzo j
   refine hK.out _ _ ⟨trivial,M6.o,trivial⟩ (fun hHeld=>?_);clear hK K;try simp only[Act.put,Zv,Zu,Zt]
   obtain⟨W6,hPW⟩:=gnX (W5.setCell ⟨go,zn*23+3,none⟩ (.slice Al m'.ns.length Cl));rw[show W5.setCells go (zn*23+3) [.slice Al m'.ns.length Cl]=W6 from hPW]at D6;rw[hPW]at C6 M6 N6 hF hHeld;rw[hPW];clear fzo;have fzo:=hF;clear hF;clear c3 hPW hHeld;refine dneX ?_;go_simp;go_wp2_with fail;go_ret;refine⟨_,_,_,rfl,D6.o,(Ur Hl.o Hk.o Hs.o Hrel.o (H.o.mach _ (Zy Hk.o)).2 Hmok.o Hz.o Ho.o (o':=⟨{o.1 with op:=m'.op,ttl:=m'.ttl,nv:=.slice Al m'.ns.length Cl,ns:=m'.ns},rfl⟩) (by unfold OpR;rw[Zgq (by simpa using e3),Zgq (by simpa using e4),Zgn (by simpa using e1)];exact⟨_,rfl⟩) rfl rfl (by simp only[Zdt]) rfl rfl (by first|rfl|(have e3:=e3;simp_all))),C6.o,?_,rfl,Ym _,fun _=>.inl⟩;show(d.ms.set k _).length=_;rw[Zf]
  have c14:=hOc 14 _ rfl;go_upto_region 21 with fail;have D4:=Y8 (D3.o.setOp (z:=zn) (f:=14) (o:=o) (o':=⟨{o.1 with ans:=(d.t:Int)},o.2⟩) (vs:=[.int .i64 (d.t:Int)]) Hov.o Ho.o (by show 14+1≤23;omega) rfl (D3.o.nms o (Zy Ho.o)) (D3.o.n16 o (Zy Ho.o)));have C4:=Y8 (C3.o.setCell (p:=⟨go,zn*23+14,none⟩) (.inl hgo) (.int .i64 (d.t:Int)));obtain⟨W4,hW4⟩:=gnX (w3.setCell ⟨go,zn*23+14,none⟩ (.int .i64 (d.t:Int)));rw[show w3.setCells go (zn*23+14) [.int .i64 (d.t:Int)]=W4 from hW4]at D4;rw[hW4]at C4;rw[hW4];clear hW4 D3 C3 M3 N3 B3 hOc hth fzo c14;go_wp2_with fail;go_ret;refine⟨_,_,_,rfl,D4.o,(Ur Hl.o Hk.o Hs.o Hrel.o (H.o.mach _ (Zy Hk.o)).2 Hmok.o Hz.o Ho.o (o':=⟨{o.1 with ans:=(d.t:Int)},o.2⟩) (by unfold OpR;rw[Zgq (by simpa using e3),Zgn (by simpa using e4)]) rfl rfl rfl rfl rfl (by first|rfl|(have e3:=e3;simp_all))),C4.o,?_,rfl,Ym _,fun _=>.inl⟩;show(d.ms.set k _).length=_;rw[Zf]
 go_upto_region 14 with fail;refine Zg8 (S:=fun w'=>w'.cell? ⟨b,5,none⟩=some (.int .i64 (d.t:Int))∧Xm w' mb (machC T m')∧True) (by kernel_rfl) ?_ (fun hHeld=>?_)
 ·exact⟨c5,M3.o.drew,trivial⟩
 obtain⟨Wd,hWd⟩:=gnX (w3.drew);have D3:=Y8 (D3.o.ext (Yk w3).drew);have C3:=Y8 (C3.o.drew);have M3:=Y8 M3.o.drew;have N3:=Y8 (Rd.ext N3.o (Yk w3).drew);have c13:w3.drew.cell? ⟨go,zn*23+13,none⟩=some (.int .i64 o.1.dec):=hOc 13 _ rfl;have c5:w3.drew.cell? ⟨b,5,none⟩=some (.int .i64 (d.t:Int)):=c5;have fzo:∀ j,w3.drew.frozen? ⟨go,j,none⟩=false:=fzo;have hth:∀ f n,f+n≤23→w3.drew.there go (zn*23+f) n:=hth;rw[hWd]at D3 C3 M3 N3 c13 c5 fzo hth hHeld;rw[hWd];clear hWd hOc;refine tksX [0,1,2,3,4,5,6,7,8,9,10,11] 4 hHeld ?_;simp only[Z3,Z4,Z5,Zw,Zx];repeat(refine tkcX (v:=?_) ?_ ?_;rotate_left;(focus((intro wT hST;obtain⟨hS0,hS1,hS2⟩:=hST;obtain⟨h15,h16,h17,h19,h20,h21,h22,h23,h24,h25,h26⟩:=Zuq hS1;go_simp);(first|done|(with_reducible rfl))));(try simp only[Act.put,Zv,Zu,Zt]))
 refine Xp ?_;clear hHeld;refine rdoX 12 (fun K hK=>?_);go_simp;have F4:o.1.ns.length≤16∧Zz0 {o.1 with dec:=(d.t:Int)}:=by
  obtain⟨f0,f1,f2,f3,f4,f5⟩:=H.o.n16 o (Zy Ho.o);exact⟨f0,f1,f2,by show(-1:Int)≤(d.t:Int);omega,by show(d.t:Int)≤2000000;omega,f5⟩
 have F5:=Y8 (show o.1.ns.length≤16∧Zz0 {o.1 with dec:=(d.t:Int),res:=m'.ans} from⟨F4.1,F4.2.1,F4.2.2.1,F4.2.2.2.1,F4.2.2.2.2.1,F4.2.2.2.2.2.1,Hmok.o.c1.2.2⟩);have F4:=Y8 F4;have D4:=Y8 (D3.o.setOp (z:=zn) (f:=13) (o:=o) (o':=⟨{o.1 with dec:=(d.t:Int)},o.2⟩) (vs:=[.int .i64 (d.t:Int)]) Hov.o Ho.o (by show 13+1≤23;omega) rfl (D3.o.nms o (Zy Ho.o)) F4.o);have c5':(Wd.setCell ⟨go,zn*23+13,none⟩ (.int .i64 (d.t:Int))).cell? ⟨b,5,none⟩=some (.int .i64 (d.t:Int)):=(Zxm _ nb).trans c5;have hth:∀ f n,f+n≤23→(Wd.setCell ⟨go,zn*23+13,none⟩ (.int .i64 (d.t:Int))).there go (zn*23+f) n:=fun f n hf=>World.there_setCells (hth f n hf) go (zn*23+13) [.int .i64 (d.t:Int)]
 have C4:=Y8 (C3.o.setCell (p:=⟨go,zn*23+13,none⟩) (.inl hgo) (.int .i64 (d.t:Int)));have M4:=Y8 (M3.o.far nmo (j:=zn*23+13) (.int .i64 (d.t:Int)));have N4:=Y8 (Rd.chg N3.o ((Chg.refl (· = go) Wd).setCell (p:=⟨go,zn*23+13,none⟩) (.inl rfl) (.int .i64 (d.t:Int))) (fun _ hj e=>hj (e▸H.o.uo go (by rw[Hov.o];rfl))));have hF:∀ j,(Wd.setCell ⟨go,zn*23+13,none⟩ (.int .i64 (d.t:Int))).frozen? ⟨go,j,none⟩=false:=fun j=>by rw[Zer];exact fzo j
 refine hK.out _ _ ⟨c5',M4.o,trivial⟩ (fun hHeld=>?_);clear hK K;try simp only[Act.put,Zv,Zu,Zt]
 obtain⟨W4,hPW⟩:=gnX (Wd.setCell ⟨go,zn*23+13,none⟩ (.int .i64 (d.t:Int)));rw[show Wd.setCells go (zn*23+13) [.int .i64 (d.t:Int)]=W4 from hPW]at D4;rw[hPW]at C4 M4 N4 hF hHeld;rw[hPW];clear fzo;have fzo:=hF;clear hF;rw[hPW]at c5' hth;clear hPW c13 c5;refine tksX [13,14] 1 hHeld ?_;simp only[Z3,Z4,Z5,Zw,Zx];repeat(refine tkcX (v:=?_) ?_ ?_;rotate_left;(focus((intro wT hST;obtain⟨hS0,hS1,hS2⟩:=hST;obtain⟨h15,h16,h17,h19,h20,h21,h22,h23,h24,h25,h26⟩:=Zuq hS1;go_simp);(first|done|(with_reducible rfl))));(try simp only[Act.put,Zv,Zu,Zt]))
 refine Xp ?_;clear hHeld;refine rdoX 15 (fun K hK=>?_);refine Ew rfl _ _ _ rfl go (zn*23+15) (Vq m'.ans).toArray rfl rfl (hth 15 8 (by omega)) (by rw[Uu];rfl) (Dc _) ?_;have D5:=Y8 (D4.o.setOp (z:=zn) (f:=15) (o:=⟨{o.1 with dec:=(d.t:Int)},o.2⟩) (o':=⟨{o.1 with dec:=(d.t:Int),res:=m'.ans},o.2⟩) (vs:=Vq m'.ans) Hov.o (Zc (by rw[Hno.o];exact z2)) (by show 15+8≤23;omega) rfl (D4.o.nms ⟨{o.1 with dec:=(d.t:Int)},o.2⟩ (Zy (i:=zn) (Zc (by rw[Hno.o];exact z2)))) F5.o);have cc:Chg (· = go) W4 (W4.setCells go (zn*23+15) (Vq m'.ans)):=Xe (S:=(· = go)) (.inl rfl) (Chg.refl _ _);have C5:=Y8 (Xe (S:=U) (b:=go) (.inl hgo) (vs:=Vq m'.ans) (o:=zn*23+15) C4.o);have M5:=Y8 (M4.o.chg cc nmo);have c5:(W4.setCells go (zn*23+15) (Vq m'.ans)).cell? ⟨b,5,none⟩=some (.int .i64 (d.t:Int)):=(cc.cell (p:=⟨b,5,none⟩) D4.o.cells.lt nb).trans c5';have hth:∀ f n,f+n≤23→(W4.setCells go (zn*23+15) (Vq m'.ans)).there go (zn*23+f) n:=fun f n hf=>World.there_setCells (hth f n hf) go (zn*23+15) (Vq m'.ans)
 refine hK.out _ _ ⟨c5,M5.o,trivial⟩ (fun hHeld=>?_);clear hHeld hK K cc;refine dneX ?_;obtain⟨W5,hW5⟩:=gnX (W4.setCells go (zn*23+15) (Vq m'.ans));rw[hW5]at D5 C5 M5 c5 hth;rw[show W4.setCells go (zn*23+15) (Vq m'.ans).toArray.toList=W5 from hW5];clear hW5 c5';go_simp;cases e1:(m.st==1)
 ·go_wp2_with fail;go_wp2_with fail;go_ret;refine⟨_,_,_,rfl,D5.o,(Ur Hl.o Hk.o Hs.o Hrel.o (H.o.mach _ (Zy Hk.o)).2 Hmok.o Hz.o Ho.o (o':=⟨{o.1 with dec:=(d.t:Int),res:=m'.ans},o.2⟩) (by unfold OpR;rw[Zgn (by simpa using e3),Zgq (by simpa using e1)]) rfl rfl (by simp only[Zdt]) rfl rfl (by first|rfl|(have e3:=e3;simp_all))),C5.o,?_,rfl,Ym _,fun _=>.inl⟩;show(d.ms.set k _).length=_;rw[Zf]
 obtain⟨h15,h16,h17,h19,h20,h21,h22,h23,h24,h25,h26⟩:=Zuq M5.o;have D6:=Y8 (D5.o.setOp (z:=zn) (f:=4) (o:=⟨{o.1 with dec:=(d.t:Int),res:=m'.ans},o.2⟩) (o':=⟨{o.1 with dec:=(d.t:Int),res:=m'.ans,bad:=m'.ans},o.2⟩) (vs:=Vq m'.ans) Hov.o (Zc (by rw[Zf,Hno.o];exact z2)) (by show 4+8≤23;omega) rfl (D5.o.nms ⟨{o.1 with dec:=(d.t:Int),res:=m'.ans},o.2⟩ (Zy (i:=zn) (Zc (by rw[Zf,Hno.o];exact z2)))) F5.o);have C6:=Y8 (Xe (S:=U) (b:=go) (.inl hgo) (vs:=Vq m'.ans) (o:=zn*23+4) C5.o);go_upto_region 21 with(refine Zeu rfl _ _ _ rfl go (zn*23+4) (Vq m'.ans).toArray rfl rfl (hth 4 8 (by omega)) (by rw[Uu];rfl) (Dc _) ?_);obtain⟨W6,hW6⟩:=gnX (W5.setCells go (zn*23+4) (Vq m'.ans));rw[hW6]at D6 C6;rw[show W5.setCells go (zn*23+4) (Vq m'.ans).toArray.toList=W6 from hW6];clear hW6 h15 h16 h17 h19 h20 h21 h22 h23 h24 h25 h26 hth c5;go_wp2_with fail;go_ret;refine⟨_,_,_,rfl,D6.o,(Ur Hl.o Hk.o Hs.o Hrel.o (H.o.mach _ (Zy Hk.o)).2 Hmok.o Hz.o Ho.o (o':=⟨{o.1 with dec:=(d.t:Int),res:=m'.ans,bad:=m'.ans},o.2⟩) (by unfold OpR;rw[Zgn (by simpa using e3),Zgn (by simpa using e1)]) rfl rfl (by simp only[Zdt]) rfl rfl (by first|rfl|(have e3:=e3;simp_all))),C6.o,?_,rfl,Ym _,fun _=>.inl⟩;show(d.ms.set k _).length=_;rw[Zf]
theorem In{U:Nat→Prop}(T:Tbl)(hf:Few T)(hu:Uq T)(b B k:Nat)(d:Dk)(w:World)(h:Wu w U T b B d)(hn:d.n≤99999)(ht:d.t≤2000000)(hl:Qt cc d)(hk:k<d.ms.length):Calls prog 78 #[.pointer (some ⟨b,0,none⟩),.int .i64 (k:Int)] w (Sz cc U T b B d k w):=by
 obtain⟨mb,m,hm⟩:∃ mb m,d.ms[k]?=some (mb,m):=⟨_,_,Zz hk⟩;by_cases hs:m.st=0
 ·exact Zpy T b B k mb m d w h hl hm hs
 exact Zpx T hf hu b B k mb m d w h hn ht hl hm hs
end
section
variable {cc:Int×Int}
def Ta(d:Dk)(k:Nat):Bool:=(match d.ms[k]? with|some p=>p.2.st !=0|none=>false)||(match d.bs_[k]? with|some l=>decide (0<l.length)|none=>false)
def Gz(d:Dk)(i:Nat):List Int:=((List.range i).filter (Ta d)).map fun(k:Nat)=>(k:Int)
theorem Iy{d:Dk}{i:Nat}(h:Ta d i=true):Gz d (i+1)=Gz d i++[(i:Int)]:=by
 simp[Gz,Zdn,Ze1,h]
theorem Zne{d:Dk}{i:Nat}(h:Ta d i=false):Gz d (i+1)=Gz d i:=by
 simp[Gz,Zdn,Ze1,h]
theorem Iz(d:Dk)(i:Nat):(Gz d i).length≤i:=by
 unfold Gz;rw[Zq];exact Zgo (Zdb _ _) (by rw[Zdk];exact Ym _)
theorem Zse{d:Dk}{i:Nat}{x:Int}(h:x∈Gz d i):∃ k:Nat,k<i∧x=k:=by
 obtain⟨k,hk,rfl⟩:=Zgg.1 h;exact⟨k,Zf8.1 (Ze3.1 hk).1,rfl⟩
def Zo4(d:Dk)(w:World)(e:Ending)(w':World):Prop:=∃ v,e=.returned v∧RdE Ww w' (fun k=>w.heap.size≤k) v (Gz d d.ms.length)∧Ext w w'
theorem Znd{U:Nat→Prop}{T:Tbl}{b B:Nat}{d:Dk}(w:World)(h:Wu w U T b B d):Calls prog 80 #[.pointer (some ⟨b,0,none⟩)] w (Zo4 d w):=by
 obtain⟨nn,hnn⟩:=gnX (d.ms.length);have hn64:nn≤64:=by have:=h.lm;omega
 obtain⟨Am,Cm,hmv,_,_⟩:=RdE.shape h.ptr;rw[Zq,hnn]at hmv;have c1:w.cell? ⟨b,1,none⟩=some d.mv:=h.c 1 rfl;rw[hmv]at c1;have H:=Y8 h;have Hnn:=Y8 hnn;have Hmv:=Y8 hmv;have hbl:=h.cells.lt;clear h hnn hmv;go_enter func80,ntmps80;go_wp2_with fail;go_loopw [11,3] (fun o y wr=>∃ i:Nat,i≤nn∧o=.int .i64 (i:Int)∧Own Ww wr w.heap.size y (Gz d i)∧Ext w wr) (fun o _ _=>nn-(intOf o).toNat);case atStart=>exact⟨0,by omega,rfl,Own.nil Ww w _,Yk _⟩
 obtain⟨i,hi,rfl,ho,hx⟩:=hrel;rename World=>wr
 have X1:=Y8 hx;have O1:=Y8 ho;clear hx ho c1;have D1:=Y8 (H.o.ext X1.o);obtain⟨Al,Cl,rfl,_,_⟩:=O1.o.shape;obtain⟨lb,hlb⟩:=gnX ((Gz d i).length);have hlb64:lb≤64:=by have:=Iz d i;omega
 rw[hlb]at O1⊢;have Hlb:=Y8 hlb;clear hlb;by_cases hlt:i<nn
 ·obtain⟨hd_i,i0_i,i1_i⟩:=LTl i nn;obtain⟨⟨mb,m⟩,hm⟩:∃ p,d.ms[i]?=some p:=⟨d.ms[i]'(by rw[Hnn.o];exact hlt),Zz _⟩;obtain⟨gm,om,cm,hmv2,cm1⟩:=On D1.o.ptr (k:=i) (x:=mb) (by rw[Zn,hm];rfl);rw[Zq,Hnn.o,Hmv.o]at hmv2;obtain⟨rfl,-,rfl⟩:=slcX hmv2;clear hmv2;have z13:wr.cell? ⟨mb,13,none⟩=some (.int .i64 m.st):=((D1.o.mach _ (Zy hm)).1).c 13 rfl;obtain⟨s,hsx⟩:∃ s,d.bx[i]?=some s:=⟨d.bx[i]'(by rw[D1.o.lb,Hnn.o];exact hlt),Zz _⟩;obtain⟨l,hlx⟩:∃ l,d.bs_[i]?=some l:=⟨d.bs_[i]'(by rw[D1.o.lbs,Hnn.o];exact hlt),Zz _⟩;obtain⟨hbr,hb8⟩:=D1.o.boxes i s l hsx hlx;obtain⟨sa,sn,sc⟩:=s;obtain⟨_,_,hse,_,_⟩:=hbr.shape;simp only[Sl.v,Yd]at hse;obtain⟨rfl,hsn,rfl⟩:=hse;have hbx:d.bx.length=nn:=by rw[D1.o.lb];exact Hnn.o
  have c2:wr.cell? ⟨b,2,none⟩=some (.slice (some ⟨d.gb,0,none⟩) nn d.cb):=by rw[← hbx];exact D1.o.c 2 rfl
  have ck:wr.cell? ⟨d.gb,i,none⟩=some (.slice sa sn sc):=Own.at_ (E:=ssE) D1.o.box (Zzu hsx);have hbi:Ta d i=(m.st !=0||decide (0<sn)):=by simp only[Ta,hm,hlx,hsn]
  have Hbi:=Y8 hbi;unfold Zkp at cm1;clear hm hsx hlx hbr hb8 hsn hbx hbi;by_cases hs:m.st=0
  ·have hs1:(m.st==0)=true:=by simp[hs]
   have Hs:=Y8 hs;clear hs;by_cases hz:0<sn
   ·have d2:decide ((0:Int)<(sn:Int))=true:=Ye;have Hz:=Y8 hz;clear hz;go_wp2_with (at_builtin;refine Xt Ww _ _ _ rfl rfl rfl rfl (O1.o.ext ((Yk _).alloc _)) rfl (Ws wr (i:Int) _ _ rfl) (by rw[Hlb.o];show lb+1≤_;omega) (by show 8≤1000;omega) (by have:=X1.o.size;simp;omega) ?_;intro A7 n7 c7 w7 hg7;have G7:=Y8 hg7;clear hg7);go_wp2_with fail;go_roundw;case rel=>exact⟨i+1,by omega,by go_num,by rw[Iy (by rw[Hbi.o];simp[Hz.o])];exact G7.o.own,G7.o.ext w (X1.o.alloc _) (Ym _)⟩
    (simp[intOf];omega)
   have d2:decide ((0:Int)<(sn:Int))=false:=Yf;have Hz:=Y8 hz;clear hz;go_wp2_with fail;go_roundw;case rel=>exact⟨i+1,by omega,by go_num,by rw[Zne (by rw[Hbi.o];simp[Hz.o,Hs.o])];exact O1.o,X1.o⟩
   (simp[intOf];omega)
  have hs1:(m.st==0)=false:=by simp[hs]
  have Hs:=Y8 hs;clear hs;go_wp2_with (at_builtin;refine Xt Ww _ _ _ rfl rfl rfl rfl (O1.o.ext ((Yk _).alloc _)) rfl (Ws wr (i:Int) _ _ rfl) (by rw[Hlb.o];show lb+1≤_;omega) (by show 8≤1000;omega) (by have:=X1.o.size;simp;omega) ?_;intro A7 n7 c7 w7 hg7;have G7:=Y8 hg7;clear hg7);go_wp2_with fail;go_roundw;case rel=>exact⟨i+1,by omega,by go_num,by rw[Iy (by rw[Hbi.o];simp[Hs.o])];exact G7.o.own,G7.o.ext w (X1.o.alloc _) (Ym _)⟩
  (simp[intOf];omega)
 have hd_i:=GEl i nn;obtain rfl:nn=i:=by omega
 go_wp2_with fail;go_ret;exact⟨_,rfl,by rw[Hnn.o];exact Own.rd O1.o,X1.o⟩
def Zk2(d:Dk):Prop:=∀ (k:Nat) p,d.ms[k]?=some p→p.2.st=0∧∀ l,d.bs_[k]?=some l→l=[]
theorem St{d:Dk}{k:Nat}{p:Nat×Wc}(hp:d.ms[k]?=some p):Ta d k=true↔(p.2.st≠0∨∃ y l,d.bs_[k]?=some (y::l)):=by
 unfold Ta;rw[hp];simp only[Zei,bne_iff_ne,ne_eq];refine or_congr Iff.rfl ?_;cases hb:d.bs_[k]? with
 | none=>simp
 | some l=>cases l<;>simp
theorem Zsd{d:Dk}(h:Gz d d.ms.length=[]):Zk2 d:=fun k p hp=>by
 have hlt:=(Zr.1 hp).1;have hb:¬ Ta d k=true:=fun hb=>by
  have:(k:Int)∈Gz d d.ms.length:=Zgg.2 ⟨k,Ze3.2 ⟨Zf8.2 hlt,hb⟩,rfl⟩;rw[h]at this;cases this
 rw[St hp]at hb;refine⟨Zfo fun q=>hb (.inl q),fun l hl=>?_⟩;cases l with
 | nil=>rfl
 | cons y l=>exact absurd (.inr ⟨y,l,hl⟩) hb
structure Zto(d d':Dk)(bl:List Int)(j:Nat)(q:Bool):Prop where
 dec:q=true→wrk d'<wrk d
 load:load d'≤load d
 same:q=false→d'.x=d.x∧d'.ms.map Prod.snd=d.ms.map Prod.snd∧d'.bs_=d.bs_∧d'.ops.length=d.ops.length∧∀ i k:Nat,i<j→bl[i]?=some (k:Int)→Zvl d.x (d.ms.map Prod.snd) d.bs_ d.ops.length k
theorem Zto.step{d d' d2:Dk}{bl:List Int}{j k:Nat}{q r q':Bool}(h:Zto d d' bl j q)(hp:Zt4 cc d' k r d2)(hk:bl[j]?=some (k:Int))(h1:r=true→q'=true)(h2:r=false→q'=q):Zto d d2 bl (j+1) q':=by
 have same:r=false→wrk d2=wrk d':=fun e=>by
  obtain⟨_,a,b,_⟩:=hp.same e;unfold wrk;rw[a,b]
 refine⟨fun e=>?_,Zgo hp.load h.load,fun e=>?_⟩
 ·cases hr:r
  ·rw[h2 hr]at e;rw[same hr];exact h.dec e
  have h3:=hp.dec hr;cases hq:q
  ·obtain⟨_,a,b,_⟩:=h.same hq;have:wrk d'=wrk d:=by unfold wrk;rw[a,b]
   omega
  have:=h.dec hq;omega
 cases hr:r
 ·rw[h2 hr]at e;obtain⟨a1,a2,a3,a4,a5⟩:=hp.same hr;obtain⟨b1,b2,b3,b4,b5⟩:=h.same e;refine⟨a1.trans b1,a2.trans b2,a3.trans b3,a4.trans b4,fun i k' hi hk'=>?_⟩;rcases(show i<j∨i=j by omega)with g|rfl
  ·exact b5 i k' g hk'
  rw[hk]at hk';have:=Zgm hk';obtain rfl:k=k':=by omega
  rw[b1,b2,b3,b4]at a5;exact a5
 rw[h1 hr]at e;cases e
theorem Zto.upT{d d':Dk}{bl:List Int}{j t1:Nat}{q:Bool}(h:Zto d d' bl j q):Zto d {d' with t:=t1} bl j q:=⟨h.dec,h.load,h.same⟩
theorem Zto.ends{d d':Dk}{bl:List Int}{q:Bool}(h:Zto d d' bl bl.length q)(hl:Qt cc d)(hld:Go.Proofs.YtnbclgbicnpmnaaGreat.load d<4096)(hb:Gz d d.ms.length=bl)(hne:bl≠[]):q=true:=by
 cases hq:q
 ·exfalso;obtain⟨_,_,_,_,a⟩:=h.same hq;obtain⟨⟨_,M,hX,_⟩,hL,_⟩:=hl;have hno:=Zm2 hL (fun m hm e=>(hX.req m hm (by omega) (by omega)).srt) (n:=d.ops.length) (bs:=d.bs_) (by unfold Go.Proofs.YtnbclgbicnpmnaaGreat.load at hld;omega) fun k m hk hm=>by
   rw[Zn,Zg9]at hk;obtain⟨p,hp,rfl⟩:=hk;have hlt:=(Zr.1 hp).1;have hmem:(k:Int)∈bl:=by rw[← hb];exact Zgg.2 ⟨k,Ze3.2 ⟨Zf8.2 hlt,(St hp).2 hm⟩,rfl⟩
   obtain⟨i,hi⟩:=Zgd hmem;exact a i k (Zr.1 hi).1 hi
  refine hne ?_;rw[← hb];unfold Gz;rw[List.map_eq_nil_iff,List.filter_eq_nil_iff];intro k hk;have hlt:=Zf8.1 hk;obtain⟨p,hp⟩:∃ p,d.ms[k]?=some p:=⟨_,Zz hlt⟩;rw[St hp];obtain⟨b1,b2⟩:=hno k p.2 (by rw[Zn,hp];rfl);rintro(e | ⟨y,l,e⟩)
  ·exact e b1
  have:=b2 _ e;cases this
 rfl
def Zvo(cc:Int×Int)(T:Tbl)(b B nn:Nat)(w:World)(e:Ending)(w':World):Prop:=∃ (z:Int) (d':Dk) (U':Nat→Prop),e=.returned (.int .i64 z)∧Wu w' U' T b B d'∧(Qt cc d'∧Zk2 d'∧d'.t≤100000∧d'.n≤100000)∧Chg (fun k=>B≤k) w w'∧d'.ms.length=nn
theorem Zu2{U:Nat→Prop}(T:Tbl)(hf:Few T)(hu:Uq T)(b B most:Nat)(hmo:most≤20000)(d:Dk)(w:World)(h:Wu w U T b B d)(hl:Qt cc d)(hn:d.n≤1000)(ht:d.t≤1000)(h4:d.ms.length≤4)(hw:wrk d<most)(hld:load d<4096):Calls prog 33 #[.pointer (some ⟨b,0,none⟩),.int .i64 (most:Int)] w (Zvo cc T b B d.ms.length w):=by
 obtain⟨nn,hnn⟩:=gnX (d.ms.length);rw[hnn]at h4⊢;obtain⟨W0,hW0⟩:=gnX (wrk d);have H:=Y8 h;have Hl:=Y8 hl;have Hnn:=Y8 hnn;have Hn:=Y8 hn;have Ht:=Y8 ht;have Hf:=Y8 hf;have Hu:=Y8 hu;have HW0:=Y8 (show W0<most by omega);have HW:=Y8 (show wrk d≤W0∧load d<4096 from⟨by omega,hld⟩);clear h hl hnn hn ht hf hu hw hld hW0;go_enter func33,ntmps33;go_wp2_with fail;go_loopw [5,6] (fun o y wr=>∃ (i:Nat) (d:Dk) (U:Nat→Prop),i≤most∧o=.int .i64 (i:Int)∧y=.bool true∧Wu wr U T b B d∧Qt cc d∧(i+wrk d≤W0∧load d<4096)∧d.ms.length=nn∧d.n≤1000+4*i∧d.t≤1000+4*i∧Chg (fun k=>B≤k) w wr) (fun o _ _=>most-(intOf o).toNat);case atStart=>exact⟨0,d,U,by omega,rfl,rfl,H.o,Hl.o,⟨by have:=HW.o.1;omega,HW.o.2⟩,Hnn.o,by have:=Hn.o;omega,by have:=Ht.o;omega,Chg.refl _ _⟩
 clear H Hl Hnn Hn Ht HW d U;obtain⟨i,d,U,hi,rfl,rfl,hD,hL,hwl,hml,hn,ht,hC⟩:=hrel;rename World=>wr
 have D1:=Y8 hD;have L1:=Y8 hL;have M1:=Y8 hml;have N1:=Y8 hn;have T1:=Y8 ht;have C1:=Y8 hC;have W1:=Y8 hwl;clear hD hL hml hn ht hC hwl;skip
 ·by_cases hlt:i<most
  ·obtain⟨hd_i,i0_i,i1_i⟩:=LTl i most;go_wp2_with fail;refine(Znd _ D1.o).mono ?_;rintro e w2 ⟨v,rfl,hr,hx⟩;rw[M1.o]at hr;obtain⟨bl,hbl⟩:=gnX (Gz d nn);have hbm:∀ x∈bl,∃ k:Nat,k<nn∧x=k:=fun x hx=>Zse (by rw[hbl];exact hx)
   have hb4:bl.length≤4:=by have:=Iz d nn;rw[hbl]at this;omega
   rw[hbl]at hr;obtain⟨Ab,Cb,rfl,_,_⟩:=hr.shape;obtain⟨lb,hlb⟩:=gnX (bl.length);rw[hlb]at hr hb4⊢;have R2:=Y8 (show RdE Ww w2 (fun k=>¬ U k) (.slice Ab lb Cb) bl from Rd.mono hr fun k hk _ hu=>by have:=(D1.o.hU k hu).2;omega);have Hbm:=Y8 hbm;have Hbl:=Y8 (show Gz d d.ms.length=bl by rw[M1.o];exact hbl);have Hlb:=Y8 hlb;have D2:=Y8 (D1.o.ext hx);have C2:=Y8 (C1.o.trans (hx.chg _));clear hr hbm hlb hbl hx;by_cases hz:lb=0
   ·have z1:((lb:Int)==0)=true:=by simp[hz]
    go_wp2_with fail;go_ret;exact⟨_,d,U,rfl,D2.o,⟨L1.o,Zsd (by rw[Hbl.o];exact Zgb (by rw[Hlb.o];exact hz)),by have:=T1.o;omega,by have:=N1.o;omega⟩,C2.o,M1.o⟩
   have z1:((lb:Int)==0)=false:=by simp;omega
   have z2:(lb==0)=false:=by simp;omega
   go_wp2_with fail;go_loopw [23,6] (fun o y wr=>∃ (j:Nat) (q:Bool) (d':Dk) (U':Nat→Prop),j≤lb∧o=.int .i64 (j:Int)∧y=.bool q∧Wu wr U' T b B d'∧Qt cc d'∧Zto d d' bl j q∧d'.ms.length=nn∧d'.n≤1000+4*i+j∧d'.t≤1000+4*i+j∧RdE Ww wr (fun k=>¬ U' k) (.slice Ab lb Cb) bl∧Chg (fun k=>B≤k) w wr) (fun o _ _=>lb-(intOf o).toNat);case atStart=>exact⟨0,false,d,U,by omega,rfl,rfl,D2.o,L1.o,⟨fun e=>(by cases e),Ym _,fun _=>⟨rfl,rfl,rfl,rfl,fun i k hi=>by omega⟩⟩,M1.o,by have:=N1.o;omega,by have:=T1.o;omega,R2.o,C2.o⟩
   have L0:=L1;have M0:=M1;have N0:=N1;have T0:=T1;clear D1 L1 M1 N1 T1 C1 D2 C2 R2 U;obtain⟨j,q,e,U,hj,rfl,rfl,hD,hL,hI,hml,hn,ht,hR,hC⟩:=hrel;rename World=>ws
   have D1:=Y8 hD;have L1:=Y8 hL;have I1:=Y8 hI;have M1:=Y8 hml;have N1:=Y8 hn;have T1:=Y8 ht;have R1:=Y8 hR;have C1:=Y8 hC;clear hD hL hI hml hn ht hR hC;by_cases hlt2:j<lb
   ·obtain⟨hd_j,i0_j,i1_j⟩:=LTl j lb;obtain⟨x,hx⟩:=geX (l:=bl) (i:=j) (by rw[Hlb.o];exact hlt2);obtain⟨k,hk,rfl⟩:=Hbm.o x (Zy hx);obtain⟨gb,ob,cb,hvv,_,_,_,_,hcc⟩:=Rd.at_ R1.o (k:=j) (by rw[Hlb.o];exact hlt2);rw[Hlb.o]at hvv;obtain⟨rfl,-,rfl⟩:=slcX hvv;clear hvv;have cx:=hcc j _ (ints_at hx);have Hxj:=Y8 hx;clear hx hcc;go_wp2_with fail;refine(In T Hf.o Hu.o b B k e _ D1.o (by have:=N1.o;omega) (by have:=T1.o;omega) L1.o (by rw[M1.o];exact hk)).mono ?_;rintro e9 w3 ⟨r,d',U',rfl,hD,hL,hC,hm',ht',hn',hU'⟩;have D3:=Y8 hD;have L3:=Y8 hL;have R3:=Y8 (show RdE Ww w3 (fun k=>¬ U' k) (.slice (some ⟨gb,ob,none⟩) lb Cb) bl from Rd.mono (Rd.chg (Rd.mono (T:=fun k=>¬ U k∧k<ws.heap.size) R1.o fun k hk hl=>⟨hk,hl⟩) hC fun k hk=>hk.1) fun k hk _ hu=>by
     rcases hU' k hu with e|e
     ·exact hk.1 e
     have:=hk.2;omega)
    have C3:=Y8 (C1.o.trans (hC.mono fun q _ hq=>(D1.o.hU q hq).1));have T3:=Y8 ht';have M3:=Y8 hm';have N3:=Y8 hn';have c5:w3.cell? ⟨b,5,none⟩=some (.int .i64 (d'.t:Int)):=D3.o.c 5 rfl;have fz:=D3.o.cells.fz;have hbl3:=D3.o.cells.lt;obtain⟨t1,ht1⟩:∃ q:Nat,d'.t+1=q:=⟨_,rfl⟩;have r1:IntKind.i64.wrap ((d'.t:Int)+1)=(t1:Int):=by rw[Yp _ (by have:=T1.o;have:=T3.o;omega)];omega
    have Ht1:=Y8 ht1;have L4:=Y8 (Qt.next (d:=d') (by rw[T3.o];exact L3.o.lin) ht1);have D4:=Y8 (D3.o.setT t1);have C4:=Y8 (C3.o.setCell (p:=⟨b,5,none⟩) (.inl (D3.o.hU _ D3.o.ub).1) (.int .i64 (t1:Int)));have R4:=Y8 (show RdE Ww (w3.setCell ⟨b,5,none⟩ (.int .i64 (t1:Int))) (fun k=>¬ U' k) (.slice (some ⟨gb,ob,none⟩) lb Cb) bl from Rd.chg R3.o ((Chg.refl (· = b) w3).setCell (p:=⟨b,5,none⟩) (.inl rfl) _) fun k hk e=>hk (e▸D3.o.ub));clear hD hL hC hm' ht' hn' hU' cx ht1;cases r
    ·have I4:=Y8 (show Zto d {d' with t:=t1} bl (j+1) q from(I1.o.step L3.o Hxj.o (fun e=>(by cases e)) (fun _=>rfl)).upT);go_wp2_with fail;go_roundw;case rel=>exact⟨j+1,_,{d' with t:=t1},U',by omega,by go_num,rfl,D4.o,L4.o,I4.o,by show d'.ms.length=nn;rw[M3.o];exact M1.o,by show d'.n≤_;have:=N3.o;have:=N1.o;omega,by show t1≤_;have:=Ht1.o;have:=T3.o;have:=T1.o;omega,R4.o,C4.o⟩
     (simp[intOf];omega)
    have I4:=Y8 (show Zto d {d' with t:=t1} bl (j+1) true from(I1.o.step L3.o Hxj.o (fun _=>rfl) (fun e=>(by cases e))).upT);go_wp2_with fail;go_roundw;case rel=>exact⟨j+1,_,{d' with t:=t1},U',by omega,by go_num,rfl,D4.o,L4.o,I4.o,by show d'.ms.length=nn;rw[M3.o];exact M1.o,by show d'.n≤_;have:=N3.o;have:=N1.o;omega,by show t1≤_;have:=Ht1.o;have:=T3.o;have:=T1.o;omega,R4.o,C4.o⟩
    (simp[intOf];omega)
   have hd_j:=GEl j lb;obtain rfl:lb=j:=by omega
   obtain rfl:q=true:=Zto.ends (d:=d) (d':=e) (bl:=bl) (by rw[Hlb.o];exact I1.o) L0.o W1.o.2 Hbl.o (fun e=>by have:=Hlb.o;rw[e]at this;simp at this;omega);have HW2:=Y8 (show i+1+wrk e≤W0∧load e<4096 from⟨by have:=I1.o.dec rfl;have:=W1.o.1;omega,Nat.lt_of_le_of_lt I1.o.load W1.o.2⟩);go_wp2_with fail;go_roundw;case rel=>exact⟨i+1,e,U,by omega,by go_num,rfl,D1.o,L1.o,HW2.o,M1.o,by have:=N1.o;omega,by have:=T1.o;omega,C1.o⟩
   (simp[intOf];omega)
  exfalso;have h1:=HW0.o;have h2:=W1.o.1;omega
end
section
variable {cc:Int×Int}
theorem Zsr{now n:Int}(h0:0≤now)(h1:now≤1073741824):0≤Po now n∧Po now n≤1073741824:=by
 have ht:=Jl ⟨h0,h1⟩;by_cases hn:n<0
 ·rw[Sx ht hn];exact⟨h0,h1⟩
 by_cases hf:1073741824-now<n
 ·rw[Lh ht (by omega) hf];omega
 rw[Sw ht (by omega) (by omega)];omega
theorem Zjt{now n:Int}(h0:0≤now)(h1:now≤1073741824):now≤Po now n:=by
 have ht:=Jl ⟨h0,h1⟩;by_cases hn:n<0
 ·rw[Sx ht hn];omega
 by_cases hf:1073741824-now<n
 ·rw[Lh ht (by omega) hf];omega
 rw[Sw ht (by omega) (by omega)];omega
theorem Zlx{S:Nat→Prop}(xb:Nat)(x:Shr)(n:Int)(w:World)(h:Q1 w S xb x)(hb:¬ S xb):Calls prog 79 #[.pointer (some ⟨xb,0,none⟩),.int .i64 n] w fun e w'=>e=.returned (.tuple #[])∧Q1 w' S xb {x with clock:=Po x.clock n}∧Chg (· = xb) w w':=by
 have x2:w.cell? ⟨xb,2,none⟩=some (.int .i64 x.clock):=h.c 2 rfl;have fz:=h.cells.fz;have H:=Y8 h;clear h;go_enter func79,ntmps79;go_wp2_with (go_at_call 116;refine(Cf _ _ _).mono ?_;rintro e w' ⟨rfl,rfl⟩);have c:Chg (· = xb) w (w.setCell ⟨xb,2,none⟩ (.int .i64 (Po x.clock n))):=(Chg.refl (· = xb) w).setCell (p:=⟨xb,2,none⟩) (.inl rfl) _;refine bodyPost_end (v:=.tuple #[]) (by simp[results,results79,go_sem]) rfl ⟨rfl,⟨H.o.cells.set (j:=2) (by show 2<6;omega) _,Rd.chg H.o.ks c (fun _ hk e=>hb (e▸hk)),Rd.chg H.o.rs c (fun _ hk e=>hb (e▸hk))⟩,c⟩
structure DoD(cc:Int×Int)(d d':Dk):Prop where
 lin:Qt cc d'
 load:load d'≤load d+1
def Zkc(cc:Int×Int)(U:Nat→Prop)(T:Tbl)(b B:Nat)(d:Dk)(w:World)(e:Ending)(w':World):Prop :=
 ∃ (r:Int) (d':Dk) (U':Nat→Prop),e=.returned (.int .i64 r)∧Wu w' U' T b B d'∧DoD cc d d'∧Chg U w w'∧d'.ms.length=d.ms.length∧d'.t=d.t+1∧d'.n≤d.n+1∧∀ k,U' k→U k∨w.heap.size≤k
theorem Zjk{U:Nat→Prop}(T:Tbl)(hf:Few T)(hu:Uq T)(b B:Nat)(d:Dk)(K C n:Int)(x:ByteArray)(w:World)(h:Wu w U T b B d)(hn:d.n≤99999)(ht:d.t≤1000000)(hl:Qt cc d)(hm:0<d.ms.length):Calls prog 32 #[.pointer (some ⟨b,0,none⟩),.agg #[.int .i64 K,.int .i64 C,.int .i64 n,.string x]] w (Zkc cc U T b B d w):=by
 obtain⟨nn,hnn⟩:=gnX (d.ms.length);rw[hnn]at hm;have hn64:nn≤64:=by have:=h.lm;omega
 obtain⟨gm,om,cm,hmv,hpm⟩:=On h.ptr (k:=0) (x:=(d.ms[0]'(by omega)).1) (by rw[Zn,Zz (by omega)];rfl);rw[Zq,hnn]at hmv;clear hpm;have hx0:=(Yk w).alloc (.cells #[.int .i64 K,.int .i64 C,.int .i64 n,.string x] 78);have hA:=Xm.new w #[.int .i64 K,.int .i64 C,.int .i64 n,.string x] 78;obtain⟨W0,hW0⟩:=gnX (w.alloc (.cells #[.int .i64 K,.int .i64 C,.int .i64 n,.string x] 78));obtain⟨ab,hab⟩:=gnX (w.heap.size);rw[hW0]at hx0 hA;rw[hab]at hA;have hBa:B≤ab:=by have:=h.big;omega
 have H:=Y8 h;have D0:=Y8 (h.ext hx0);have A0:=Y8 hA;have X0:=Y8 hx0;have Hl:=Y8 hl;have Hnn:=Y8 hnn;have Hmv:=Y8 hmv;have Hf:=Y8 hf;have Hu:=Y8 hu;have Hn:=Y8 hn;have Ht:=Y8 ht;have Hab:=Y8 hab;clear h hl hnn hmv hx0 hA hf hu hn ht;go_enter func32,ntmps32;go_upto_region 2 with fail;try rw[hW0]
 try rw[hab]
 clear hW0 hab;have a0:W0.cell? ⟨ab,0,none⟩=some (.int .i64 K):=(A0.o.ext (Yk W0)).at_ 0 (by simp);have a1:W0.cell? ⟨ab,1,none⟩=some (.int .i64 C):=(A0.o.ext (Yk W0)).at_ 1 (by simp);have a2:W0.cell? ⟨ab,2,none⟩=some (.int .i64 n):=(A0.o.ext (Yk W0)).at_ 2 (by simp);have a3:W0.cell? ⟨ab,3,none⟩=some (.string x):=(A0.o.ext (Yk W0)).at_ 3 (by simp);have b1:W0.cell? ⟨b,1,none⟩=some (.slice (some ⟨gm,om,none⟩) nn cm):=by rw[← Hmv.o];exact(D0.o.ext (Yk W0)).c 1 rfl
 have l0:=lat a0;have l1:=lat a1;have l2:=lat a2;have l3:=lat a3;have e1:=lat b1;obtain⟨kn,hkn⟩:∃ q:Bool,(decide (0≤C)&&decide (C<(nn:Int)))=q:=⟨_,rfl⟩;have Hkn:=Y8 hkn;clear hkn;go_cut [6] (fun o wq=>o=.bool kn∧Ext W0 wq);case first =>
  rename_i J1 K1 hJ hM;cases q0:decide (0≤C)
  ·have hk:=Hkn.o;rw[q0]at hk;obtain rfl:kn=false:=by rw[← hk];rfl
   clear hk;have hun:=Ya;refine wreX ?_;repeat(refine(Yu ?_:);intro K hK;go_simp;refine hK _ ?_;clear hK K)
   refine Yt ?_;intro w1 hy1;clear hun;try simp only[Yb]
   refine hM _ _ (hJ _ _ ?_);(repeat apply Exists.intro)
   exact⟨⟨rfl,hy1⟩,rfl⟩
  cases q1:decide (C<(nn:Int))
  ·have hk:=Hkn.o;rw[q0,q1]at hk;obtain rfl:kn=false:=by rw[← hk];rfl
   clear hk;have hun:=Ya;refine wreX ?_;repeat(refine(Yu ?_:);intro K hK;go_simp;refine hK _ ?_;clear hK K)
   refine Yt ?_;intro w1 hy1;clear hun;try simp only[Yb]
   refine hM _ _ (hJ _ _ ?_);(repeat apply Exists.intro)
   exact⟨⟨rfl,hy1⟩,rfl⟩
  have hk:=Hkn.o;rw[q0,q1]at hk;obtain rfl:kn=true:=by rw[← hk];rfl
  clear hk;have hun:=Ya;refine wreX ?_;repeat(refine(Yu ?_:);intro K hK;go_simp;refine hK _ ?_;clear hK K)
  refine Yt ?_;intro w1 hy1;clear hun;try simp only[Yb]
  refine hM _ _ (hJ _ _ ?_);(repeat apply Exists.intro)
  exact⟨⟨rfl,hy1⟩,rfl⟩
 obtain⟨rfl,hy1⟩:=hcut;rename World=>w1
 have D1:=Y8 (D0.o.ext hy1);have C1:=Y8 (show Chg U w w1 from(X0.o.trans hy1).chg _);clear a0 a1 a2 a3 b1 l0 l1 l2 l3 e1;have a0:w1.cell? ⟨ab,0,none⟩=some (.int .i64 K):=(A0.o.ext hy1).at_ 0 (by simp);have a1:w1.cell? ⟨ab,1,none⟩=some (.int .i64 C):=(A0.o.ext hy1).at_ 1 (by simp);have a2:w1.cell? ⟨ab,2,none⟩=some (.int .i64 n):=(A0.o.ext hy1).at_ 2 (by simp);have a3:w1.cell? ⟨ab,3,none⟩=some (.string x):=(A0.o.ext hy1).at_ 3 (by simp);have b1:w1.cell? ⟨b,1,none⟩=some (.slice (some ⟨gm,om,none⟩) nn cm):=by rw[← Hmv.o];exact(D0.o.ext hy1).c 1 rfl
 by_cases hK1:K=1
 ·subst hK1;cases kn with
  | false =>
   go_upto_region 15 with fail;have c5:w1.cell? ⟨b,5,none⟩=some (.int .i64 ((d).t:Int)):=D1.o.c 5 rfl;have fz:=D1.o.cells.fz;obtain⟨t1,ht1⟩:∃ q:Nat,(d).t+1=q:=⟨_,rfl⟩;have r1:IntKind.i64.wrap (((d).t:Int)+1)=(t1:Int):=by rw[Yp _ (by have:=Ht.o;have:=trivial;omega)];omega
   go_wp2_with fail;go_ret;refine⟨_,{d with t:=t1},_,rfl,D1.o.setT t1,⟨Qt.next (d:=d) (Hl.o.up) ht1,Zfg _⟩,(C1.o).setCell (p:=⟨b,5,none⟩) (.inl H.o.ub) _,?_,?_,?_,fun _=>.inl⟩
   ·rfl
   ·exact ht1.symm
   exact Zfg _
  | true =>
   have hq:=Hkn.o;rw[Zgc,Zgh,Zgh]at hq;obtain⟨q0,q1⟩:=hq;obtain⟨c,rfl⟩:∃ q:Nat,C=q:=⟨C.toNat,by omega⟩;have q2:c<nn:=by omega
   obtain⟨s,hsx⟩:∃ s,d.bx[c]?=some s:=⟨d.bx[c]'(by rw[H.o.lb,Hnn.o];exact q2),Zz _⟩;obtain⟨l,hlx⟩:∃ l,d.bs_[c]?=some l:=⟨d.bs_[c]'(by rw[H.o.lbs,Hnn.o];exact q2),Zz _⟩;obtain⟨hbr,hb8⟩:=D1.o.boxes c s l hsx hlx;obtain⟨sa,sn,sc⟩:=s;obtain⟨_,_,hse,hsc,hscm⟩:=hbr.shape;simp only[Sl.v,Yd]at hse;obtain⟨rfl,hsn,rfl⟩:=hse;have hbx:d.bx.length=nn:=by rw[H.o.lb];exact Hnn.o
   have b2:w1.cell? ⟨b,2,none⟩=some (.slice (some ⟨d.gb,0,none⟩) nn d.cb):=by rw[← hbx];exact D1.o.c 2 rfl
   have bk:w1.cell? ⟨d.gb,c,none⟩=some (.slice sa sn sc):=Own.at_ (E:=ssE) D1.o.box (Zzu hsx);have e2:=lat b2;have ek:=lat bk;have l0:=lat a0;have l1:=lat a1;have l2:=lat a2;have l3:=lat a3;have e1:=lat b1;have Hsx:=Y8 hsx;have Hlx:=Y8 hlx;have Hsn:=Y8 hsn;clear hsx hlx hbr hsc hscm hsn hbx;go_upto_region 5 with fail;cases p0:decide ((4096:Int)<(x.size:Int))
   ·cases p1:decide ((8:Int)≤(sn:Int))
    ·have hun:=Ya;refine wreX ?_;repeat(refine(Yu ?_:);intro K hK;go_simp;refine hK _ ?_;clear hK K)
     refine Yt ?_;intro w2 hy2;clear hun;try simp only[Yb]
     have D2:=Y8 (D1.o.ext hy2);have C2:=Y8 (C1.o.trans (hy2.chg _));have Y2:=Y8 (hy1.trans hy2);have hs8:sn<8:=by have:=Zfx p1;omega
     have Hr2:=Y8 (show RdE Vm w2 (fun j=>¬ U j) (.slice sa sn sc) l from(D2.o.boxes c _ l Hsx.o Hlx.o).1);clear a0 a1 a2 a3 b1 b2 bk l0 l1 l2 l3 e1 e2 ek hy1 hy2 D1 C1;have a0:w2.cell? ⟨ab,0,none⟩=some (.int .i64 1):=(A0.o.ext Y2.o).at_ 0 (by simp);have a1:w2.cell? ⟨ab,1,none⟩=some (.int .i64 (c:Int)):=(A0.o.ext Y2.o).at_ 1 (by simp);have a3:w2.cell? ⟨ab,3,none⟩=some (.string x):=(A0.o.ext Y2.o).at_ 3 (by simp);have b2:w2.cell? ⟨b,2,none⟩=some (.slice (some ⟨d.gb,0,none⟩) nn d.cb):=by rw[show nn=d.bx.length from by rw[H.o.lb];exact Hnn.o.symm];exact D2.o.c 2 rfl
     have bk:w2.cell? ⟨d.gb,c,none⟩=some (.slice sa sn sc):=Own.at_ (E:=ssE) D2.o.box (Zzu Hsx.o);go_upto_region 8 with fail;have e2:=lat b2;have ek:=lat bk;have l1:=lat a1;have l3:=lat a3;refine Vd (S:=Lat w2) 19 21 (by kernel_rfl) (by omega) (by kernel_rfl) (by kernel_rfl) ?_;refine Xu [0,1,2,3,4,5,6,7,8,9,10,11,12,13,15,16] 3 (by rfl) (by kernel_rfl) (by kernel_rfl) (fun _ _ d _ _ h=>by cases d<;>exact h) Lat.drew ?_;simp only[Z3,Z4,Z5,Zw,Zx];repeat(refine tkcX (v:=?_) ?_ ?_;rotate_left;(focus((rintro wT ⟨pT,rfl⟩;go_simp);(first|done|(with_reducible rfl))));(try simp only[Act.put,Zv,Zu,Zt]))
     refine Xp ?_;clear e2 ek l1 l3;refine rdyX (rs:=[14,17]) ?_;refine Yr (o:=_) rfl (fun K hK=>?_) (Yr (o:=_) rfl (fun K hK=>?_) Yq)
     ·refine Wt Vm (Operand.const (Value.slice none 0 0)) (.tmp 67) 24 (by rfl) (by rfl) (by rfl) (by rfl) (Own.nil Vm _ w2.heap.size) (by rfl) (Rd.ext Hr2.o (Yk w2).drew) (by rw[← Hsn.o];show 0+sn≤_;omega) (by show 16≤1000;omega) (Ym _) ?_;intro A5 n5 c5 w5 hg5;have G5:=Y8 hg5;have Y5:=Y8 (hg5.ext w2 (Yk w2).drew (Ym _));refine hK.out _ _ (Lat.of Y5.o) (fun hHeld=>?_);clear hHeld hK K hg5;try simp only[Act.put,Zv,Zu,Zt]
      refine rdoX 17 (fun K hK=>?_);go_simp;have Y6:=Y8 (Y5.o.alloc (.cells #[.string x] 9));have O6:=Y8 (G5.o.own.ext ((Yk w5).alloc (.cells #[.string x] 9)));have R6:=Y8 (O8 w5 x 9 _ rfl);have B6:=Y8 (show w2.heap.size≤(w5.alloc (.cells #[.string x] 9)).heap.size from Y6.o.size);obtain⟨W6,hW6⟩:=gnX (w5.alloc (.cells #[.string x] 9));rw[hW6]at Y6 O6 R6 B6;try rw[hW6]
      clear hW6;obtain⟨gt,hgt⟩:=gnX (w5.heap.size);try rw[hgt]at R6
      try rw[hgt]
      clear hgt;refine hK.out _ _ (Lat.of Y6.o) (fun hHeld=>?_);clear hHeld hK K;try simp only[Act.put,Zv,Zu,Zt]
      refine rdoX 18 (fun K hK=>?_);refine Wt Vm (.tmp 68) (.tmp 71) 24 (by rfl) (by rfl) (by rfl) (by rfl) O6.o (by rfl) R6.o (by rw[Zo,← Hsn.o];show sn+1≤_;omega) (by show 16≤1000;omega) B6.o ?_;intro A7 n7 c7 w7 hg7;have G7:=Y8 hg7;have Y7:=Y8 (hg7.ext w2 Y6.o (Ym _));refine hK.out _ _ (Lat.of Y7.o) (fun hHeld=>?_);clear hHeld hK K hg7;refine dneX ?_;simp only[V5,Z6,Z7];try simp only[Act.put,Zv,Zu,Zt]
      have D7:=Y8 (D2.o.ext Y7.o);have hlen7:n7=l.length+1:=by rw[G7.o.len,Zo,Zs];rfl
      have r7:RdE Vm w7 (fun j=>¬ U j) (Sl.v ⟨A7,n7,c7⟩) (l++[x]):=by
       have h7:=G7.o.own.rd;rw[Zo]at h7;exact Rd.mono h7 fun j hj _ hu=>by have:=(D2.o.hU j hu).2;omega
      have D8:=Y8 (D7.o.setBox (k:=c) (by rw[Hnn.o];exact q2) ⟨A7,n7,c7⟩ (l++[x]) r7 (by rw[Zs,← Hsn.o];show sn+1≤8;omega));have C8:=Y8 ((C2.o.trans (Y7.o.chg _)).setCell (p:=⟨d.gb,c,none⟩) (.inl H.o.ugb) (Sl.v ⟨A7,n7,c7⟩));have ck:w7.cell? ⟨d.gb,c,none⟩=some (.slice sa sn sc):=Own.at_ (E:=ssE) D7.o.box (Zzu Hsx.o);have fz:w7.frozen? ⟨d.gb,c,none⟩=false:=Own.thaw (E:=ssE) D7.o.box c;clear r7 hlen7 a0 a1 a3 b2 bk;go_upto_region 15 with fail;obtain⟨W8,hW8⟩:=gnX (w7.setCell ⟨d.gb,c,none⟩ (.slice A7 n7 c7));rw[show w7.setCell ⟨d.gb,c,none⟩ (Sl.v ⟨A7,n7,c7⟩)=W8 from hW8]at D8 C8;rw[hW8];clear hW8 ck fz D7;have c5:W8.cell? ⟨b,5,none⟩=some (.int .i64 (({d with bx:=d.bx.set c ⟨A7,n7,c7⟩,bs_:=d.bs_.set c (l++[x])}).t:Int)):=D8.o.c 5 rfl;have fz:=D8.o.cells.fz;obtain⟨t1,ht1⟩:∃ q:Nat,({d with bx:=d.bx.set c ⟨A7,n7,c7⟩,bs_:=d.bs_.set c (l++[x])}).t+1=q:=⟨_,rfl⟩;have r1:IntKind.i64.wrap ((({d with bx:=d.bx.set c ⟨A7,n7,c7⟩,bs_:=d.bs_.set c (l++[x])}).t:Int)+1)=(t1:Int):=by rw[Yp _ (by have:=Ht.o;have:=(show({d with bx:=d.bx.set c ⟨A7,n7,c7⟩,bs_:=d.bs_.set c (l++[x])}:Dk).t=d.t from rfl);omega)];omega
      go_wp2_with fail;go_ret;refine⟨_,{ {d with bx:=d.bx.set c ⟨A7,n7,c7⟩,bs_:=d.bs_.set c (l++[x])}with t:=t1},_,rfl,D8.o.setT t1,⟨Qt.next (d:={d with bx:=d.bx.set c ⟨A7,n7,c7⟩,bs_:=d.bs_.set c (l++[x])}) (Hl.o.up) ht1,(by have:=Fh List.length (b:=l++[x]) Hlx.o;rw[Zs]at this;simp only[Zfe]at this;show d.ops.length+((d.bs_.set c (l++[x])).map List.length).sum≤d.ops.length+(d.bs_.map List.length).sum+1;omega)⟩,(C8.o).setCell (p:=⟨b,5,none⟩) (.inl H.o.ub) _,?_,?_,?_,fun _=>.inl⟩
      ·rfl
      ·exact ht1.symm
      exact Zfg _
     go_simp;have Y5:=Y8 ((Yk w2).alloc (.cells #[.string x] 9)).drew;have R5:=Y8 (RdE.ext (O8 w2 x 9 w2.heap.size rfl) (Yk _).drew);have B5:=Y8 (show w2.heap.size≤(w2.alloc (.cells #[.string x] 9)).drew.heap.size from Y5.o.size);obtain⟨W5,hW5⟩:=gnX ((w2.alloc (.cells #[.string x] 9)).drew);rw[hW5]at Y5 R5 B5;try rw[hW5]
     clear hW5;obtain⟨gt,hgt⟩:=gnX (w2.heap.size);rw[hgt]at R5;try rw[hgt]
     refine hK.out _ _ (Lat.of Y5.o) (fun hHeld=>?_);clear hHeld hK K;try simp only[Act.put,Zv,Zu,Zt]
     refine rdoX 14 (fun K hK=>?_);refine Wt Vm (Operand.const (Value.slice none 0 0)) (.tmp 67) 24 (by rfl) (by rfl) (by rfl) (by rfl) (Own.nil Vm _ w2.heap.size) (by rfl) (Rd.ext Hr2.o Y5.o) (by rw[← Hsn.o];show 0+sn≤_;omega) (by show 16≤1000;omega) B5.o ?_;intro A5 n5 c5 w6 hg5;have G5:=Y8 hg5;have Y6:=Y8 (hg5.ext w2 Y5.o (Ym _));have O6:=Y8 hg5.own;have R6:=Y8 (Rd.chg R5.o hg5.chg (fun k _ e=>by cases e));have B6:=Y8 (show w2.heap.size≤w6.heap.size from Y6.o.size);clear hgt;refine hK.out _ _ (Lat.of Y6.o) (fun hHeld=>?_);clear hHeld hK K hg5;try simp only[Act.put,Zv,Zu,Zt]
     refine rdoX 18 (fun K hK=>?_);refine Wt Vm (.tmp 68) (.tmp 71) 24 (by rfl) (by rfl) (by rfl) (by rfl) O6.o (by rfl) R6.o (by rw[Zo,← Hsn.o];show sn+1≤_;omega) (by show 16≤1000;omega) B6.o ?_;intro A7 n7 c7 w7 hg7;have G7:=Y8 hg7;have Y7:=Y8 (hg7.ext w2 Y6.o (Ym _));refine hK.out _ _ (Lat.of Y7.o) (fun hHeld=>?_);clear hHeld hK K hg7;refine dneX ?_;simp only[V5,Z6,Z7];try simp only[Act.put,Zv,Zu,Zt]
     have D7:=Y8 (D2.o.ext Y7.o);have hlen7:n7=l.length+1:=by rw[G7.o.len,Zo,Zs];rfl
     have r7:RdE Vm w7 (fun j=>¬ U j) (Sl.v ⟨A7,n7,c7⟩) (l++[x]):=by
      have h7:=G7.o.own.rd;rw[Zo]at h7;exact Rd.mono h7 fun j hj _ hu=>by have:=(D2.o.hU j hu).2;omega
     have D8:=Y8 (D7.o.setBox (k:=c) (by rw[Hnn.o];exact q2) ⟨A7,n7,c7⟩ (l++[x]) r7 (by rw[Zs,← Hsn.o];show sn+1≤8;omega));have C8:=Y8 ((C2.o.trans (Y7.o.chg _)).setCell (p:=⟨d.gb,c,none⟩) (.inl H.o.ugb) (Sl.v ⟨A7,n7,c7⟩));have ck:w7.cell? ⟨d.gb,c,none⟩=some (.slice sa sn sc):=Own.at_ (E:=ssE) D7.o.box (Zzu Hsx.o);have fz:w7.frozen? ⟨d.gb,c,none⟩=false:=Own.thaw (E:=ssE) D7.o.box c;clear r7 hlen7 a0 a1 a3 b2 bk;go_upto_region 15 with fail;obtain⟨W8,hW8⟩:=gnX (w7.setCell ⟨d.gb,c,none⟩ (.slice A7 n7 c7));rw[show w7.setCell ⟨d.gb,c,none⟩ (Sl.v ⟨A7,n7,c7⟩)=W8 from hW8]at D8 C8;rw[hW8];clear hW8 ck fz D7;have c5:W8.cell? ⟨b,5,none⟩=some (.int .i64 (({d with bx:=d.bx.set c ⟨A7,n7,c7⟩,bs_:=d.bs_.set c (l++[x])}).t:Int)):=D8.o.c 5 rfl;have fz:=D8.o.cells.fz;obtain⟨t1,ht1⟩:∃ q:Nat,({d with bx:=d.bx.set c ⟨A7,n7,c7⟩,bs_:=d.bs_.set c (l++[x])}).t+1=q:=⟨_,rfl⟩;have r1:IntKind.i64.wrap ((({d with bx:=d.bx.set c ⟨A7,n7,c7⟩,bs_:=d.bs_.set c (l++[x])}).t:Int)+1)=(t1:Int):=by rw[Yp _ (by have:=Ht.o;have:=(show({d with bx:=d.bx.set c ⟨A7,n7,c7⟩,bs_:=d.bs_.set c (l++[x])}:Dk).t=d.t from rfl);omega)];omega
     go_wp2_with fail;go_ret;refine⟨_,{ {d with bx:=d.bx.set c ⟨A7,n7,c7⟩,bs_:=d.bs_.set c (l++[x])}with t:=t1},_,rfl,D8.o.setT t1,⟨Qt.next (d:={d with bx:=d.bx.set c ⟨A7,n7,c7⟩,bs_:=d.bs_.set c (l++[x])}) (Hl.o.up) ht1,(by have:=Fh List.length (b:=l++[x]) Hlx.o;rw[Zs]at this;simp only[Zfe]at this;show d.ops.length+((d.bs_.set c (l++[x])).map List.length).sum≤d.ops.length+(d.bs_.map List.length).sum+1;omega)⟩,(C8.o).setCell (p:=⟨b,5,none⟩) (.inl H.o.ub) _,?_,?_,?_,fun _=>.inl⟩
     ·rfl
     ·exact ht1.symm
     exact Zfg _
    have hun:=Ya;refine wreX ?_;repeat(refine(Yu ?_:);intro K hK;go_simp;refine hK _ ?_;clear hK K)
    refine Yt ?_;intro w2 hy2;clear hun;try simp only[Yb]
    have D2:=Y8 (D1.o.ext hy2);have C2:=Y8 (C1.o.trans (hy2.chg _));go_upto_region 15 with fail;have c5:w2.cell? ⟨b,5,none⟩=some (.int .i64 ((d).t:Int)):=D2.o.c 5 rfl;have fz:=D2.o.cells.fz;obtain⟨t1,ht1⟩:∃ q:Nat,(d).t+1=q:=⟨_,rfl⟩;have r1:IntKind.i64.wrap (((d).t:Int)+1)=(t1:Int):=by rw[Yp _ (by have:=Ht.o;have:=trivial;omega)];omega
    go_wp2_with fail;go_ret;refine⟨_,{d with t:=t1},_,rfl,D2.o.setT t1,⟨Qt.next (d:=d) (Hl.o.up) ht1,Zfg _⟩,(C2.o).setCell (p:=⟨b,5,none⟩) (.inl H.o.ub) _,?_,?_,?_,fun _=>.inl⟩
    ·rfl
    ·exact ht1.symm
    exact Zfg _
   have hun:=Ya;refine wreX ?_;repeat(refine(Yu ?_:);intro K hK;go_simp;refine hK _ ?_;clear hK K)
   refine Yt ?_;intro w2 hy2;clear hun;try simp only[Yb]
   have D2:=Y8 (D1.o.ext hy2);have C2:=Y8 (C1.o.trans (hy2.chg _));go_upto_region 15 with fail;have c5:w2.cell? ⟨b,5,none⟩=some (.int .i64 ((d).t:Int)):=D2.o.c 5 rfl;have fz:=D2.o.cells.fz;obtain⟨t1,ht1⟩:∃ q:Nat,(d).t+1=q:=⟨_,rfl⟩;have r1:IntKind.i64.wrap (((d).t:Int)+1)=(t1:Int):=by rw[Yp _ (by have:=Ht.o;have:=trivial;omega)];omega
   go_wp2_with fail;go_ret;refine⟨_,{d with t:=t1},_,rfl,D2.o.setT t1,⟨Qt.next (d:=d) (Hl.o.up) ht1,Zfg _⟩,(C2.o).setCell (p:=⟨b,5,none⟩) (.inl H.o.ub) _,?_,?_,?_,fun _=>.inl⟩
   ·rfl
   ·exact ht1.symm
   exact Zfg _
 have f1:(K==1)=false:=by simp[hK1]
 have l0:=lat a0;have l1:=lat a1;have l2:=lat a2;have l3:=lat a3;have e1:=lat b1;go_upto_region 5 with fail;have hun:=Ya;refine wreX ?_;repeat(refine(Yu ?_:);intro K hK;go_simp;refine hK _ ?_;clear hK K)
 refine Yt ?_;intro w2 hy2;clear hun;try simp only[Yb]
 have D2:=Y8 (D1.o.ext hy2);have C2:=Y8 (C1.o.trans (hy2.chg _));have Y2:=Y8 (hy1.trans hy2);clear a0 a1 a2 a3 b1 l0 l1 l2 l3 e1 hy1 hy2 D1 C1;have a0:w2.cell? ⟨ab,0,none⟩=some (.int .i64 K):=(A0.o.ext Y2.o).at_ 0 (by simp);have a1:w2.cell? ⟨ab,1,none⟩=some (.int .i64 C):=(A0.o.ext Y2.o).at_ 1 (by simp);have a2:w2.cell? ⟨ab,2,none⟩=some (.int .i64 n):=(A0.o.ext Y2.o).at_ 2 (by simp);have a3:w2.cell? ⟨ab,3,none⟩=some (.string x):=(A0.o.ext Y2.o).at_ 3 (by simp);have b1:w2.cell? ⟨b,1,none⟩=some (.slice (some ⟨gm,om,none⟩) nn cm):=by rw[← Hmv.o];exact(D0.o.ext Y2.o).c 1 rfl
 by_cases hK2:K=2
 ·subst hK2;cases kn with
  | false =>
   go_upto_region 15 with fail;have c5:w2.cell? ⟨b,5,none⟩=some (.int .i64 ((d).t:Int)):=D2.o.c 5 rfl;have fz:=D2.o.cells.fz;obtain⟨t1,ht1⟩:∃ q:Nat,(d).t+1=q:=⟨_,rfl⟩;have r1:IntKind.i64.wrap (((d).t:Int)+1)=(t1:Int):=by rw[Yp _ (by have:=Ht.o;have:=trivial;omega)];omega
   go_wp2_with fail;go_ret;refine⟨_,{d with t:=t1},_,rfl,D2.o.setT t1,⟨Qt.next (d:=d) (Hl.o.up) ht1,Zfg _⟩,(C2.o).setCell (p:=⟨b,5,none⟩) (.inl H.o.ub) _,?_,?_,?_,fun _=>.inl⟩
   ·rfl
   ·exact ht1.symm
   exact Zfg _
  | true =>
   have hq:=Hkn.o;rw[Zgc,Zgh,Zgh]at hq;obtain⟨q0,q1⟩:=hq;obtain⟨c,rfl⟩:∃ q:Nat,C=q:=⟨C.toNat,by omega⟩;have q2:c<nn:=by omega
   go_wp2_with fail;refine(In T Hf.o Hu.o b B c d _ D2.o Hn.o (by have:=Ht.o;omega) Hl.o (by rw[Hnn.o];exact q2)).mono ?_;rintro e w3 ⟨r,d',U',rfl,hD,hL,hC,hm',ht',hn',hu'⟩;have D3:=Y8 hD;have L3:=Y8 hL;have C3:=Y8 (C2.o.trans hC);have Ht':=Y8 ht';have Hm':=Y8 hm';have Hu':=Y8 (show ∀ k,U' k→U k∨w.heap.size≤k from fun k hk=>(hu' k hk).imp id (Zgo C2.o.size));clear hD hL hC ht' hm' hu';go_upto_region 15 with fail;have c5:w3.cell? ⟨b,5,none⟩=some (.int .i64 ((d').t:Int)):=D3.o.c 5 rfl;have fz:=D3.o.cells.fz;obtain⟨t1,ht1⟩:∃ q:Nat,(d').t+1=q:=⟨_,rfl⟩;have r1:IntKind.i64.wrap (((d').t:Int)+1)=(t1:Int):=by rw[Yp _ (by have:=Ht.o;have:=Ht'.o;omega)];omega
   go_wp2_with fail;go_ret;refine⟨_,{d' with t:=t1},_,rfl,D3.o.setT t1,⟨Qt.next (d:=d') ((by rw[Ht'.o];exact L3.o.lin)) ht1,Zgo L3.o.load (Zfg _)⟩,(C3.o).setCell (p:=⟨b,5,none⟩) (.inl H.o.ub) _,?_,?_,?_,Hu'.o⟩
   ·exact Hm'.o
   ·show t1=d.t+1;rw[← Ht'.o];exact ht1.symm
   exact hn'
 have f2:(K==2)=false:=by simp[hK2]
 have f2b:(K !=2)=true:=by simp[hK2]
 by_cases hK3:K=3
 ·subst hK3;have c0:w2.cell? ⟨b,0,none⟩=some (.pointer (some ⟨d.xb,0,none⟩)):=D2.o.c 0 rfl;go_upto_region 12 with fail;refine Zg8 (S:=fun w'=>w'.cell? ⟨b,0,none⟩=some (.pointer (some ⟨d.xb,0,none⟩))∧w'.cell? ⟨ab,2,none⟩=some (.int .i64 n)∧True) (by kernel_rfl) ?_ (fun hHeld=>?_)
  ·exact⟨c0,a2,trivial⟩
  refine tksX [0,1,2,3,4,5] 1 hHeld ?_;simp only[Z3,Z4,Z5,Zw,Zx];repeat(refine tkcX (v:=?_) ?_ ?_;rotate_left;(focus((intro wT hST;obtain⟨hS0,hS1,hS2⟩:=hST;go_simp);(first|done|(with_reducible rfl))));(try simp only[Act.put,Zv,Zu,Zt]))
  refine Xp ?_;clear hHeld;have D2d:=Y8 (D2.o.ext (Yk w2).drew);have A2:=Y8 ((A0.o.ext Y2.o).ext (Yk w2).drew);refine rdoX 6 (fun K hK=>?_);go_simp;refine(Zlx d.xb d.x n _ D2d.o.shr (fun q=>q H.o.ux)).mono ?_;rintro e w3 ⟨rfl,hX,hC⟩;obtain⟨mb,m,hm0⟩:∃ mb m,d.ms[0]?=some (mb,m):=⟨_,_,Zz (by rw[Hnn.o];exact hm)⟩;have hmm:=D2d.o.mach _ (Zy hm0);have hne:=(H.o.ne.2.2.2.2.2.2 _ (Zy hm0)).2.1;have D3:=Y8 (D2d.o.step hm0 (hC.mono fun _ _ e=>.inr e) (hmm.1.chg hC hne (fun j hj e=>hj (e▸H.o.ux))) hmm.2 hX (by
   have k:=H.o.xok.up;have hb:=Zsr (n:=n) H.o.xok.c0 H.o.xok.c1;exact⟨hb.1,hb.2,k.m0,k.m1,k.k,k.r⟩))
  have C3:=Y8 (C2.o.trans ((Yk w2).drew.chg _ |>.trans (hC.mono fun _ _ e=>e▸H.o.ux)));have hms:d.ms.set 0 (mb,m)=d.ms:=by
   apply Zdi;intro j;by_cases e:0=j
   ·subst e;rw[Zc (by rw[Hnn.o];exact hm)];exact hm0.symm
   rw[Zb e]
  have L3:=Y8 (show Zk5 cc {d with x:={d.x with clock:=Po d.x.clock n},ms:=d.ms.set 0 (mb,m),n:=d.n+1} ((d.t:Int)+1) from by
   have h9:=Lin.tick Hl.o.1 (Zjt (n:=n) H.o.xok.c0 H.o.xok.c1) (Zsr (n:=n) H.o.xok.c0 H.o.xok.c1).2;unfold Zk5;rw[hms];exact⟨h9,Hl.o.2⟩)
  have s0:w3.cell? ⟨b,0,none⟩=some (.pointer (some ⟨d.xb,0,none⟩)):=D3.o.c 0 rfl;have s2:w3.cell? ⟨ab,2,none⟩=some (.int .i64 n):=(A2.o.chg hC (by have:=(H.o.hU _ H.o.ux).2;have:=Hab.o;omega)).at_ 2 (by simp);refine hK.out _ _ ⟨s0,s2,trivial⟩ (fun hHeld=>?_);clear hHeld hK K hX hC hmm hne hms hm0 s0 s2 D2d A2 c0;refine dneX ?_;go_simp;clear a0;go_upto_region 15 with fail;have c5:w3.cell? ⟨b,5,none⟩=some (.int .i64 (({d with x:={d.x with clock:=Po d.x.clock n},ms:=d.ms.set 0 (mb,m),n:=d.n+1}).t:Int)):=D3.o.c 5 rfl;have fz:=D3.o.cells.fz;obtain⟨t1,ht1⟩:∃ q:Nat,({d with x:={d.x with clock:=Po d.x.clock n},ms:=d.ms.set 0 (mb,m),n:=d.n+1}).t+1=q:=⟨_,rfl⟩;have r1:IntKind.i64.wrap ((({d with x:={d.x with clock:=Po d.x.clock n},ms:=d.ms.set 0 (mb,m),n:=d.n+1}).t:Int)+1)=(t1:Int):=by rw[Yp _ (by have:=Ht.o;have:=(show({d with x:={d.x with clock:=Po d.x.clock n},ms:=d.ms.set 0 (mb,m),n:=d.n+1}:Dk).t=d.t from rfl);omega)];omega
  go_wp2_with fail;go_ret;refine⟨_,{ {d with x:={d.x with clock:=Po d.x.clock n},ms:=d.ms.set 0 (mb,m),n:=d.n+1}with t:=t1},_,rfl,D3.o.setT t1,⟨Qt.next (d:={d with x:={d.x with clock:=Po d.x.clock n},ms:=d.ms.set 0 (mb,m),n:=d.n+1}) (L3.o) ht1,Zfg _⟩,(C3.o).setCell (p:=⟨b,5,none⟩) (.inl H.o.ub) _,?_,?_,?_,fun _=>.inl⟩
  ·show(d.ms.set 0 (mb,m)).length=d.ms.length;rw[Zf]
  ·exact ht1.symm
  exact Ym _
 have f3:(K==3)=false:=by simp[hK3]
 go_upto_region 15 with fail;have c5:w2.cell? ⟨b,5,none⟩=some (.int .i64 ((d).t:Int)):=D2.o.c 5 rfl;have fz:=D2.o.cells.fz;obtain⟨t1,ht1⟩:∃ q:Nat,(d).t+1=q:=⟨_,rfl⟩;have r1:IntKind.i64.wrap (((d).t:Int)+1)=(t1:Int):=by rw[Yp _ (by have:=Ht.o;have:=trivial;omega)];omega
 go_wp2_with fail;go_ret;refine⟨_,{d with t:=t1},_,rfl,D2.o.setT t1,⟨Qt.next (d:=d) (Hl.o.up) ht1,Zfg _⟩,(C2.o).setCell (p:=⟨b,5,none⟩) (.inl H.o.ub) _,?_,?_,?_,fun _=>.inl⟩
 ·rfl
 ·exact ht1.symm
 exact Zfg _
end
