/- Lemmas of this claim: Kta, Ktc, Ktb. Conditions: as named. -/
import Derived.Test.YtnbclgbicnpmnaaGreatA29
namespace Go.Proofs.YtnbclgbicnpmnaaGreat
open Go.RowKit Go.Sort Go.Proofs.Tryz
set_option maxHeartbeats 0
set_option maxRecDepth 100000
set_option linter.all false
section
abbrev Vi:Value:=.slice none 0 0
def TbF(w0:World)(rb b s:Nat)(sv:Value)(k:Nat):Prop:=w0.heap.size≤k∧k≠b∧k≠s∧k≠rb∧sv.ownBlock≠some k
structure Bs(w0 w:World)(rb b s:Nat)(n:Nat→Nat)(cs:List Value)(sv:Value)(st:List Int)(pv:Value)(pl:List Int):Prop where
 src:Src w0.heap.size w s
 ext:Ext w0 w
 box:Xm w b cs
 res:Xm w rb [Vi,Vi,Vi,Vi,Vi,Vi,Vi,Vi,Vi,Vi,Vi,Vi]
 len:cs.length=12
 sp:∀ j∈[0,1,2,3,4,6],∃ u l,cs[j]?=some u∧Vh w (TbF w0 rb b s sv) u l∧SpP l (n j) (Fo.getD j 0)
 nl:∀ j∈[5,7,8,9,10,11],cs[j]?=some Vi
 own:Own Ww w w0.heap.size sv st
 ob:∀ k,sv.ownBlock=some k→k≠b∧k≠s∧k≠rb
 bs:b≠s
 br:b≠rb
 sr:s≠rb
 b0:w0.heap.size≤b
 r0:w0.heap.size≤rb
 pool:Xw w (TbF w0 rb b s sv) pv pl
section
variable {w0 w w':World} {rb b s:Nat} {n:Nat→Nat} {cs:List Value} {sv:Value} {st:List Int} {pv:Value} {pl:List Int}
theorem Bs.next(h:Bs w0 w rb b s n cs sv st pv pl)(t:Vv w0.heap.size s w w'):Bs w0 w' rb b s n cs sv st pv pl where
 src:=t.src
 ext:=h.ext.chg_new t.chg (fun i e=>by have:=h.src.ge;omega)
 box:=h.box.chg t.chg h.bs
 res:=h.res.chg t.chg (fun e=>h.sr e.symm)
 len:=h.len
 sp j hj:=by
  obtain⟨u,l,h1,h2,h3⟩:=h.sp j hj;exact⟨u,l,h1,Rd.chg h2 t.chg (fun k hk e=>hk.2.2.1 e),h3⟩
 nl:=h.nl
 own:=h.own.chg t.chg (fun k hk e=>(h.ob k hk).2.1 e)
 ob:=h.ob
 bs:=h.bs
 br:=h.br
 sr:=h.sr
 b0:=h.b0
 r0:=h.r0
 pool:=Rd.chg h.pool t.chg (fun k hk e=>hk.2.2.1 e)
theorem Bs.up(h:Bs w0 w rb b s n cs sv st pv pl)(x:Ext w w'):Bs w0 w' rb b s n cs sv st pv pl:=h.next ⟨h.src.ext x,x.chg _⟩
theorem Bs.withPool{v:Value}{l:List Int}(h:Bs w0 w rb b s n cs sv st pv pl)(x:Ext w w')(hp:Xw w' (fun k=>w.heap.size≤k) v l):Bs w0 w' rb b s n cs sv st v l:=by
 have h1:=h.src.lt;have h2:=h.box.lt;have h3:=h.res.lt;have h4:=h.ext.size;have h5:=h.own.lt;have g:=h.up x;exact⟨g.src,g.ext,g.box,g.res,g.len,g.sp,g.nl,g.own,g.ob,g.bs,g.br,g.sr,g.b0,g.r0,Rd.mono hp fun k hk _=>⟨by omega,by omega,by omega,by omega,fun e=>by have:=(h5 k e).2;omega⟩⟩
theorem Bs.addp{u:Value}{l:List Sp}{j m:Nat}(h:Bs w0 w rb b s n cs sv st pv pl)(hj:j∈[0,1,2,3,4,6])(hb:Xm w' b (cs.set j u))(hu:Vh w' (fun k=>TbF w0 rb b s sv k∨w.heap.size≤k) u l)(hl:SpP l m (Fo.getD j 0))(c:Chg (· = b) w w') :
 Bs w0 w' rb b s (fun k=>if k=j then m else n k) (cs.set j u) sv st pv pl where
 src:=h.src.chg c (fun e=>h.bs e.symm) (fun k hk e=>by have:=h.b0;omega)
 ext:=h.ext.chg_new c (fun i e=>by have:=h.b0;omega)
 box:=hb
 res:=h.res.chg c (fun e=>h.br e.symm)
 len:=by rw[Zf];exact h.len
 sp i hi:=by
  by_cases e:j=i
  ·subst e;refine⟨u,l,by rw[Yv,Zgn rfl,Zgn];(have:=h.len;simp at hj;omega),?_,by rw[Zgn rfl];exact hl⟩;refine Rd.mono hu fun k hk _=>?_
   rcases hk with hk|hk
   ·exact hk
   have:=h.ext.size;have h1:=h.box.lt;have h2:=h.src.lt;have h3:=h.res.lt;exact⟨by omega,by omega,by omega,by omega,fun e=>by have:=(h.own.lt k e).2;omega⟩
  obtain⟨u',l',h1,h2,h3⟩:=h.sp i hi;exact⟨u',l',by rw[Yv,Zgq e];exact h1,Rd.chg h2 c (fun k hk e=>hk.2.1 e),by rw[Zgq fun e'=>e e'.symm];exact h3⟩
 nl i hi:=by
  rw[Yv,Zgq]
  ·exact h.nl i hi
  simp at hi hj;omega
 own:=h.own.chg c (fun k hk e=>(h.ob k hk).1 e)
 ob:=h.ob
 bs:=h.bs
 br:=h.br
 sr:=h.sr
 b0:=h.b0
 r0:=h.r0
 pool:=Rd.chg h.pool c (fun k hk e=>hk.2.1 e)
theorem Bs.grow{A:Option Addr}{m c:Nat}{x:Int}{o:Obj}(h:Bs w0 w rb b s n cs sv st pv pl)(hg:Grew Ww (w.alloc o) w0.heap.size sv (st++[x]) A m c w'):Bs w0 w' rb b s n cs (.slice A m c) (st++[x]) pv pl:=by
 have h1:=h.box.lt;have h2:=h.src.lt;have h3:=h.res.lt;have hx:=h.ext.size;have hat:∀ k,(Value.slice A m c).ownBlock=some k→sv.ownBlock=some k∨k=(w.alloc o).heap.size:=fun k hk=>by
  rcases hg.at_ with h1|h1
  ·exact .inl (by rw[← h1];exact hk)
  rw[hk]at h1;exact .inr (Zgm h1)
 have key:∀ {z:Nat} {v:Value} {k:Nat} {xs:List Value},Rd w (TbF w0 rb b s sv) z v k xs→Rd w' (TbF w0 rb b s (.slice A m c)) z v k xs:=by
  intro z v k xs h2;have h4:Rd (w.alloc o) (fun k=>TbF w0 rb b s sv k∧k<w.heap.size) z v k xs:=Rd.ext (Rd.mono h2 fun k hk hl=>⟨hk,hl⟩) ((Yk _).alloc o);refine Rd.mono (Rd.chg h4 hg.chg (fun k hk e=>hk.1.2.2.2.2 e)) fun k hk _=>⟨hk.1.1,hk.1.2.1,hk.1.2.2.1,hk.1.2.2.2.1,fun e=>?_⟩
  rcases hat k e with h5|h5
  ·exact hk.1.2.2.2.2 h5
  have:=hk.2;simp at h5;omega
 exact {
  src:=(h.src.alloc o).chg hg.chg (fun e=>(h.ob s e).2.1 rfl) (fun k hk e=>by have:=(h.own.lt k e).1;omega)
  ext:=(h.ext.alloc o).chg_new hg.chg (fun k e=>(h.own.lt k e).1)
  box:=(h.box.ext ((Yk _).alloc o)).chg hg.chg (fun e=>(h.ob b e).1 rfl)
  res:=(h.res.ext ((Yk _).alloc o)).chg hg.chg (fun e=>(h.ob rb e).2.2 rfl)
  len:=h.len
  sp:=fun j hj=>by
   obtain⟨u,l,h1,h2,h3⟩:=h.sp j hj;exact⟨u,l,h1,key h2,h3⟩
  nl:=h.nl
  own:=hg.own
  ob:=fun k hk=>by
   rcases hat k hk with h5|h5
   ·exact h.ob k h5
   simp at h5;omega
  bs:=h.bs
  br:=h.br
  sr:=h.sr
  b0:=h.b0
  r0:=h.r0
  pool:=key h.pool}
theorem Bs.upn{n':Nat→Nat}(h:Bs w0 w rb b s n cs sv st pv pl)(hn:∀ k∈[0,1,2,3,4,6],n k≤n' k):Bs w0 w rb b s n' cs sv st pv pl :=
 {h with sp:=fun j hj=>by obtain⟨u,l,h1,h2,h3⟩:=h.sp j hj;exact⟨u,l,h1,h2,h3.up (hn j hj)⟩}
theorem Bs.cells(h:Bs w0 w rb b s n cs sv st pv pl):∃ (u0 u1 u2 u3 u4 u6:Value) (l0 l1 l2 l3 l4 l6:List Sp),cs=[u0,u1,u2,u3,u4,Vi,u6,Vi,Vi,Vi,Vi,Vi] ∧
 Vh w (TbF w0 rb b s sv) u0 l0∧Vh w (TbF w0 rb b s sv) u1 l1∧Vh w (TbF w0 rb b s sv) u2 l2∧Vh w (TbF w0 rb b s sv) u3 l3∧Vh w (TbF w0 rb b s sv) u4 l4∧Vh w (TbF w0 rb b s sv) u6 l6 ∧
 SpP l0 (n 0) 8∧SpP l1 (n 1) 254∧SpP l2 (n 2) 5∧SpP l3 (n 3) 11∧SpP l4 (n 4) 60∧SpP l6 (n 6) 1:=by
 obtain⟨u0,l0,a0,b0,p0⟩:=h.sp 0 (by simp);obtain⟨u1,l1,a1,b1,p1⟩:=h.sp 1 (by simp);obtain⟨u2,l2,a2,b2,p2⟩:=h.sp 2 (by simp);obtain⟨u3,l3,a3,b3,p3⟩:=h.sp 3 (by simp);obtain⟨u4,l4,a4,b4,p4⟩:=h.sp 4 (by simp);obtain⟨u6,l6,a6,b6,p6⟩:=h.sp 6 (by simp);refine⟨u0,u1,u2,u3,u4,u6,l0,l1,l2,l3,l4,l6,?_,b0,b1,b2,b3,b4,b6,p0,p1,p2,p3,p4,p6⟩;have n5:=h.nl 5 (by simp);have n7:=h.nl 7 (by simp);have n8:=h.nl 8 (by simp);have n9:=h.nl 9 (by simp);have n10:=h.nl 10 (by simp);have n11:=h.nl 11 (by simp);have hl:=h.len;clear h b0 b1 b2 b3 b4 b6 p0 p1 p2 p3 p4 p6
 match cs,hl with
 | [c0,c1,c2,c3,c4,c5,c6,c7,c8,c9,c10,c11],_ =>
  simp only[Zx,Zw,Yc]at a0 a1 a2 a3 a4 a6 n5 n7 n8 n9 n10 n11;rw[a0,a1,a2,a3,a4,a6,n5,n7,n8,n9,n10,n11]
end
theorem Zqg{w:World}{S:Nat→Prop}{v:Value}{dec:List MpS}(h:RdE mpE w S v dec)(ht:∀ m∈dec,Xw w S m.1.tv m.1.to_):Gu w S v (dec.map Subtype.val) :=
 ⟨by show Rd w S 2 v (dec.map Subtype.val).length (Vp (dec.map Subtype.val));rw[Zq];exact h,fun q hq=>by
   obtain⟨x,hx,rfl⟩:=Zgg.1 hq;exact ht x hx⟩
theorem Zgx{l:List Mp}(h:(l.map Mp.fr).Nodup):∀ m∈l,Xb l m.fr=m.to_:=by
 induction l with
 | nil=>simp
 | cons a r ih =>
  rw[Zg4,Zg6]at h;intro m hm;rcases Zg.1 hm with rfl|hm
  ·simp[Xb]
  have hne:a.fr≠m.fr:=fun e=>h.1 (by rw[e];exact Zgg.2 ⟨m,hm,rfl⟩)
  unfold Xb;rw[Zgq hne];exact ih h.2 m hm
end
section
theorem Zw8{w:World}{S S':Nat→Prop}{t:Tbl}(h:Xg w S t)(hS:∀ k,S k→k<w.heap.size→S' k):Xg w S' t :=
 ⟨Rd.mono h.cat hS,Rd.mono h.cls hS,Rd.mono h.joi hS,Rd.mono h.bid hS,Rd.mono h.scr hS,Rd.mono h.sta hS,Rd.mono h.ign hS,⟨Rd.mono h.ext.1 hS,fun m hm=>Rd.mono (h.ext.2 m hm) hS⟩,⟨Rd.mono h.map.1 hS,fun m hm=>Rd.mono (h.map.2 m hm) hS⟩,⟨Rd.mono h.dec.1 hS,fun m hm=>Rd.mono (h.dec.2 m hm) hS⟩,Rd.mono h.exc hS,⟨Rd.mono h.pro.1 hS,fun m hm=>Rd.mono (h.pro.2 m hm) hS⟩⟩
theorem Zit{w:World}{B g n c:Nat}{l:List Int}(h:Own Ww w B (.slice (some ⟨g,0,none⟩) n c) l):Xm w g (l.map iV) :=
 ⟨h.blk.2,fun k=>h.thaw k,fun k hk=>by
   obtain⟨x,hx⟩:∃ x,(l.map iV)[k]?=some x:=⟨_,Zz hk⟩;rw[hx];exact h.at_ hx⟩
def TbU(b s gs:Nat)(k:Nat):Prop:=k=b∨k=s∨k=gs
def TbR(w:World)(rb b s gs:Nat)(k:Nat):Prop:=w.heap.size≤k∧k≠b∧k≠s∧k≠gs∧k≠rb
section
variable {w w0 w1 w2 w3:World} {rb b s gs Cs:Nat} {n:Nat→Nat} {cs:List Value} {sv:Value} {st:List Int} {pv:Value} {pl:List Int} {dv ev d8 d11 u5:Value} {dec e8 e11:List MpS} {exc:List Int} {l5:List Sp}
theorem Bs.dc(h:Bs w w0 rb b s n cs sv st pv pl):Mq w0 w0 w.heap.size b s cs Vi [] Vi []:=by
 refine⟨h.src,Chg.refl _ _,?_,Own.nil _ _ _,Own.nil _ _ _,(by intro k hk;cases hk),by simp,h.bs,h.box.lt,h.src.lt,h.b0⟩;rw[Bj (h.nl 9 (by simp)),Bj (h.nl 10 (by simp))];exact h.box
theorem Bs.gsb(h:Bs w w0 rb b s n cs (.slice (some ⟨gs,0,none⟩) 28 Cs) st pv pl):gs≠b∧gs≠s∧gs≠rb∧w.heap.size≤gs∧gs<w0.heap.size :=
 ⟨(h.ob gs rfl).1,(h.ob gs rfl).2.1,(h.ob gs rfl).2.2,h.own.blk.1,h.own.blk.2⟩
theorem Bs.mp(h:Bs w w0 rb b s n cs (.slice (some ⟨gs,0,none⟩) 28 Cs) st pv pl)(E:Mq w0 w1 w.heap.size b s cs dv dec ev exc):Bt (TbU b s gs) w1 w1 w.heap.size b s ((cs.set 9 dv).set 10 ev) 8 Vi []:=by
 have hg:=h.gsb;have hs:=E.chg.size;refine⟨E.src,Chg.refl _ _,?_,Own.nil _ _ _,by simp,?_,.inl rfl,.inr (.inl rfl),h.bs,h.b0⟩
 ·rw[Bj]
  ·exact E.box
  rw[Yv,Zgq (by omega),Yv,Zgq (by omega)];exact h.nl 8 (by simp)
 rintro k (rfl|rfl|rfl)
 ·exact E.box.lt
 ·exact E.src.lt
 omega
theorem Bs.mp5(h:Bs w w0 rb b s n cs sv st pv pl):((cs.set 9 dv).set 10 ev)[5]?=some Vi:=by
 rw[Yv,Zgq (by omega),Yv,Zgq (by omega)];exact h.nl 5 (by simp)
theorem Bs.tb(h:Bs w w0 rb b s n cs (.slice (some ⟨gs,0,none⟩) 28 Cs) st pv pl)(E:Mq w0 w1 w.heap.size b s cs dv dec ev exc)(G:Bt (TbU b s gs) w1 w2 w.heap.size b s (((cs.set 9 dv).set 10 ev).set 5 u5) 8 d8 e8)(h5:Vh w2 (fun k=>w1.heap.size≤k) u5 l5) :
 ∃ T:Tbl,Qk T=((((cs.set 9 dv).set 10 ev).set 5 u5).set 8 d8)∧Xg w2 (TbR w rb b s gs) T∧T.proV=Vi∧T.pro=[]∧T.ext=[]∧T.dec=dec.map Subtype.val∧T.map=e8.map Subtype.val ∧
  (SpP T.cat (n 0) 8∧SpP T.cls (n 1) 254∧SpP T.joi (n 2) 5∧SpP T.bid (n 3) 11∧SpP T.scr (n 4) 60∧SpP T.ign (n 6) 1∧T.sta=l5∧T.exc=exc):=by
 obtain⟨u0,u1,u2,u3,u4,u6,l0,l1,l2,l3,l4,l6,rfl,a0,a1,a2,a3,a4,a6,p0,p1,p2,p3,p4,p6⟩:=h.cells;have hg:=h.gsb;have s1:=E.chg.size;have x1:=h.ext.size;have hb:=h.box.lt;have hss:=h.src.lt;have hr:=h.res.lt;have sp:∀ {u:Value} {l:List Sp},Vh w0 (TbF w rb b s (.slice (some ⟨gs,0,none⟩) 28 Cs)) u l→Vh w2 (TbR w rb b s gs) u l:=fun {u l} a=>by
  have h1:=Rd.chg a E.chg (fun k hk e=>by rcases e with e|e;exact hk.2.1 e;exact hk.2.2.1 e);have h2:=Rd.chg h1 G.chg (fun k hk e=>by rcases e with e|e|e;exact hk.2.1 e;exact hk.2.2.1 e;exact hk.2.2.2.2 (by rw[e];rfl));exact Rd.mono h2 fun k hk _=>⟨hk.1,hk.2.1,hk.2.2.1,fun e=>hk.2.2.2.2 (by rw[e];rfl),hk.2.2.2.1⟩
 have up:∀ {z:Nat} {v:Value} {k:Nat} {xs:List Value},Rd w1 (fun k=>w0.heap.size≤k) z v k xs→Rd w2 (TbR w rb b s gs) z v k xs:=fun {z v k xs} a =>
  Rd.mono (Rd.chg a G.chg (fun k hk e=>by rcases e with e|e|e<;>omega)) fun k hk _=>⟨by omega,by omega,by omega,by omega,by omega⟩
 have u8:∀ {z:Nat} {v:Value} {k:Nat} {xs:List Value},Rd w2 (fun k=>w1.heap.size≤k) z v k xs→Rd w2 (TbR w rb b s gs) z v k xs:=fun {z v k xs} a =>
  Rd.mono a fun k hk _=>⟨by omega,by omega,by omega,by omega,by omega⟩
 refine⟨{catV:=u0,cat:=l0,clsV:=u1,cls:=l1,joiV:=u2,joi:=l2,bidV:=u3,bid:=l3,scrV:=u4,scr:=l4,staV:=u5,sta:=l5,ignV:=u6,ign:=l6,extV:=Vi,ext:=[],mapV:=d8,map:=e8.map Subtype.val,decV:=dv,dec:=dec.map Subtype.val,excV:=ev,exc:=exc,proV:=Vi,pro:=[]},rfl,?_,rfl,rfl,rfl,rfl,rfl,p0,p1,p2,p3,p4,p6,rfl,rfl⟩;exact⟨sp a0,sp a1,sp a2,sp a3,sp a4,u8 h5,sp a6,⟨Rd.nil ..,by simp⟩,Zqg (u8 G.dOwn.rd) (fun m hm=>u8 (Rd.mono (G.tos m hm).1 fun k hk _=>hk.1)),Zqg (up E.dOwn.rd) (fun m hm=>up (Rd.mono (E.tos m hm).1 fun k hk _=>hk.1)),up E.eOwn.rd,⟨Rd.nil ..,by simp⟩⟩
theorem Zh2{T:Tbl}(G:Bt (TbU b s gs) w1 w2 w.heap.size b s (((cs.set 9 dv).set 10 ev).set 5 u5) 8 d8 e8)(hc:Qk T=((((cs.set 9 dv).set 10 ev).set 5 u5).set 8 d8))(hp:T.proV=Vi):Bt (TbU b s gs) w2 w2 w.heap.size b s (Qk T) 11 Vi []:=by
 have hs:=G.chg.size;refine⟨G.src,Chg.refl _ _,?_,Own.nil _ _ _,by simp,fun k hk=>Zgp (G.hU k hk) hs,G.ub,G.us,G.bs,G.bB⟩;rw[Bj (show(Qk T)[11]?=some Vi by rw[← hp];rfl),hc];exact G.box
theorem Zh0{T:Tbl}(hT:Xg w2 (TbR w rb b s gs) T)(hc:Qk T=((((cs.set 9 dv).set 10 ev).set 5 u5).set 8 d8))(P:Bt (TbU b s gs) w2 w3 w.heap.size b s (Qk T) 11 d11 e11)(h0:w.heap.size≤w2.heap.size)(hr:rb<w2.heap.size) :
 Qk {T with proV:=d11,pro:=e11.map Subtype.val}=(Qk T).set 11 d11∧Xg w3 (TbR w rb b s gs) {T with proV:=d11,pro:=e11.map Subtype.val}:=by
 have h1:=hT.chg P.chg (fun k hk e=>by rcases e with e|e|e;exact hk.2.1 e;exact hk.2.2.1 e;exact hk.2.2.2.1 e);have hb:=P.hU b P.ub;have hs:=P.hU s P.us;have hg:=P.hU gs (.inr (.inr rfl));have u8:∀ {z:Nat} {v:Value} {k:Nat} {xs:List Value},Rd w3 (fun k=>w2.heap.size≤k) z v k xs→Rd w3 (TbR w rb b s gs) z v k xs:=fun {z v k xs} a =>
  Rd.mono a fun k hk _=>⟨by omega,by omega,by omega,by omega,by omega⟩
 exact⟨rfl,h1.cat,h1.cls,h1.joi,h1.bid,h1.scr,h1.sta,h1.ign,h1.ext,h1.map,h1.dec,h1.exc,Zqg (u8 P.dOwn.rd) (fun m hm=>u8 (Rd.mono (P.tos m hm).1 fun k hk _=>hk.1))⟩
end
theorem Zh1{w w4:World}{rb b s gs:Nat}{T:Tbl}(hT:Xg w4 (TbR w rb b s gs) T)(hB:Xm w4 b (Qk T))(hR:Xm w4 rb [Vi,Vi,Vi,Vi,Vi,Vi,Vi,Vi,Vi,Vi,Vi,Vi])(hX:Ext w w4)(hb:w.heap.size≤b)(hbr:b≠rb)(hs:s<w4.heap.size)(hg:gs<w4.heap.size)(hf:Few T)(hu:Uq0 T)(hk:KtP T) :
 ∃ T2:Tbl,let W:=((w4.setCell ⟨b,7,none⟩ (.slice (some ⟨w4.heap.size+1,0,none⟩) 1 1)).alloc (.cells #[.int .i64 7,.int .i64 8] 3)).alloc (.cells #[.int .i64 12539,.slice (some ⟨w4.heap.size,0,none⟩) 2 2] 106)
  Xm W b (Qk T2)∧Xg W (TbR w rb b s gs) T2∧Few T2∧Uq0 T2∧KtP T2∧Xm W rb [Vi,Vi,Vi,Vi,Vi,Vi,Vi,Vi,Vi,Vi,Vi,Vi]∧Ext w W:=by
 have hbl:=hB.lt;have hrl:=hR.lt;have hxs:=hX.size;have c:=(Chg.refl (· = b) w4).setCell (p:=⟨b,7,none⟩) (.inl rfl) (.slice (some ⟨w4.heap.size+1,0,none⟩) 1 1);have hB1:=hB.set (j:=7) (by simp[Qk]) (.slice (some ⟨w4.heap.size+1,0,none⟩) 1 1);have s4:(w4.setCell ⟨b,7,none⟩ (.slice (some ⟨w4.heap.size+1,0,none⟩) 1 1)).heap.size=w4.heap.size:=by simp[World.setCell]
 obtain⟨w7,hw7⟩:=gnX (w4.setCell ⟨b,7,none⟩ (.slice (some ⟨w4.heap.size+1,0,none⟩) 1 1));rw[hw7]at c hB1 s4⊢;clear hw7;have a0:=Wl w7 3 [7,8] 2 rfl _ rfl (by omega);rw[s4]at a0;simp only[Zg4,Zfv]at a0;have x5:Ext w7 (w7.alloc (.cells #[.int .i64 7,.int .i64 8] 3)):=(Yk _).alloc _;have s5:(w7.alloc (.cells #[.int .i64 7,.int .i64 8] 3)).heap.size=w4.heap.size+1:=by simp[s4]
 obtain⟨w5,hw5⟩:=gnX (w7.alloc (.cells #[.int .i64 7,.int .i64 8] 3));have a0':RdE Ww w5 (fun k=>w4.heap.size≤k) (.slice (some ⟨w4.heap.size,0,none⟩) 2 2) [7,8]:=by rw[← hw5];exact a0
 rw[hw5]at x5 s5⊢;clear hw5 a0;have a1:=Zpm w5 #[.int .i64 12539,.slice (some ⟨w4.heap.size,0,none⟩) 2 2] 106 1 2 rfl (by omega);rw[s5]at a1;have x6:Ext w5 (w5.alloc (.cells #[.int .i64 12539,.slice (some ⟨w4.heap.size,0,none⟩) 2 2] 106)):=(Yk _).alloc _;obtain⟨w6,hw6⟩:=gnX (w5.alloc (.cells #[.int .i64 12539,.slice (some ⟨w4.heap.size,0,none⟩) 2 2] 106));rw[hw6]at a1 x6⊢;have t6:=(hT.chg c (fun k hk e=>hk.2.1 e)).up (x5.trans x6);refine⟨{T with extV:=.slice (some ⟨w4.heap.size+1,0,none⟩) 1 1,ext:=[⟨12539,.slice (some ⟨w4.heap.size,0,none⟩) 2 2,[7,8]⟩]},?_,?_,?_,hu,⟨hk.cat,hk.cls,hk.joi,hk.bid,hk.scr,hk.ign,hk.dec,hk.map,⟨hk.pro.sub,hk.pro.ign⟩,.inr ⟨_,rfl⟩⟩,?_,?_⟩
 ·exact hB1.ext (x5.trans x6)
 ·refine⟨t6.cat,t6.cls,t6.joi,t6.bid,t6.scr,t6.sta,t6.ign,⟨?_,?_⟩,t6.map,t6.dec,t6.exc,t6.pro⟩
  ·exact Rd.mono a1 fun k hk _=>⟨by omega,by omega,by omega,by omega,by omega⟩
  intro m hm;rw[Zi.1 hm];exact Rd.mono (RdE.ext a0' x6) fun k hk _=>⟨by omega,by omega,by omega,by omega,by omega⟩
 ·exact⟨hf.dec,hf.map,hf.pro,fun m hm=>by rw[Zi.1 hm];show 2≤18;omega,hf.rows.1,hf.rows.2.1,hf.rows.2.2.1,by show 1≤256;omega⟩
 ·exact(hR.chg c (fun e=>hbr e.symm)).ext (x5.trans x6)
 exact(hX.chg_new c (fun i e=>by omega)).trans (x5.trans x6)
theorem Zhn{T:Tbl}{dec e8 e11:List MpS}(hd:T.dec=dec.map Subtype.val)(hm:T.map=e8.map Subtype.val)(hp:T.pro=e11.map Subtype.val)(d1:∀ m∈dec,m.1.to_.length≤2)(d2:dec.length≤5)(m1:∀ m∈e8,m.1.to_.length≤18)(m2:e8.length≤28)
 (p1:∀ m∈e11,m.1.to_.length≤18) (p2:e11.length≤5) (x1:∀ m∈T.ext,m.to_.length≤2) (x2:T.ext.length≤1):Few T:=by
 refine⟨?_,?_,?_,fun m hm=>by have:=x1 m hm;omega,?_⟩
 ·rw[hd];intro m hm;obtain⟨x,hx,rfl⟩:=Zgg.1 hm;have:=d1 x hx;omega
 ·rw[hm];intro m hm;obtain⟨x,hx,rfl⟩:=Zgg.1 hm;exact m1 x hx
 ·rw[hp];intro m hm;obtain⟨x,hx,rfl⟩:=Zgg.1 hm;exact p1 x hx
 rw[hd,hm,hp,Zq,Zq,Zq];omega
theorem Zh5{T:Tbl}{dec:List MpS}(hd:T.dec=dec.map Subtype.val)(hn:(dec.map fun m=>m.1.fr).Nodup):Uq0 T:=by
 unfold Uq0;rw[hd];exact Zgx (by rw[Zez];exact hn)
end
abbrev Lk:List Value:=[Vi,Vi,Vi,Vi,Vi,Vi,Vi,Vi,Vi,Vi,Vi,Vi]
def Zvk(w:World)(e:Ending)(w':World):Prop:=∃ T:Tbl,e=.returned (Vg T)∧Xg w' (fun k=>w.heap.size≤k) T∧Few T∧Uq0 T∧KtP T∧Ext w w'
theorem Zot(a:Option Addr)(len cap:Nat)(w:World)(hrow:Eu w a len):Bs w (((w.alloc (.cells Lk.toArray 34)).alloc (.cells #[.slice a len cap,.int .i64 0] 165)).alloc (.cells Lk.toArray 34)) w.heap.size (w.heap.size+1+1) (w.heap.size+1) (fun _=>0) Lk Vi [] Vi []:=by
 have x1:=(Yk w).alloc (.cells Lk.toArray 34);have s1:=Bx (cap:=cap) hrow x1;have e1:(w.alloc (.cells Lk.toArray 34)).heap.size=w.heap.size+1:=by simp
 rw[e1]at s1;have b1:=Xm.new ((w.alloc (.cells Lk.toArray 34)).alloc (.cells #[.slice a len cap,.int .i64 0] 165)) Lk.toArray 34;rw[show((w.alloc (.cells Lk.toArray 34)).alloc (.cells #[.slice a len cap,.int .i64 0] 165)).heap.size=w.heap.size+1+1 by simp]at b1;exact {
  src:=s1.alloc _
  ext:=(x1.alloc _).alloc _
  box:=b1
  res:=((Xm.new w Lk.toArray 34).ext ((Yk _).alloc _)).ext ((Yk _).alloc _)
  len:=rfl
  sp:=fun j hj=>⟨Vi,[],by simp at hj;rcases hj with rfl|rfl|rfl|rfl|rfl|rfl<;>rfl,Rd.nil ..,SpP.nil _ _⟩
  nl:=fun j hj=>by simp at hj;rcases hj with rfl|rfl|rfl|rfl|rfl|rfl<;>rfl
  own:=Own.nil _ _ _
  ob:=by intro k h;cases h
  bs:=by omega
  br:=by omega
  sr:=by omega
  b0:=by omega
  r0:=by omega
  pool:=Rd.nil .. }
theorem Zh6{a0 a1 a2 a3 a4 a5 c0 c1 c2 c3 c4 c5:Int}(h:Zx3 a0 a1 a2 a3 a4 a5)(h0:c0∈(a0::[2,1]))(h1:c1∈(a1::[0,1,9,202,220,230,254]))(h2:c2∈(a2::[0,1,2,3,4,5]))(h3:c3∈(a3::[0,1,2,3,4,8,10,11]))
 (h4:c4∈(a4::[0,1,2,3,6,7,9,10])) (h5:c5∈(a5::[0,1,2,4])):Zx3 c0 c1 c2 c3 c4 c5:=by
 unfold Zx3 at h⊢;simp only[Zg,Zh,Zfi]at h0 h1 h2 h3 h4 h5;omega
theorem Ztu(a:Option Addr)(len cap:Nat)(w:World)(hrow:Eu w a len):Calls prog 10 #[.slice a len cap] w (Zvk w):=by
 have D0:=Y8 (Zot a len cap w hrow);clear hrow;go_enter func10,ntmps10;go_upto_region 3 with(go_at_call 41;refine(Si _ _ _ _).mono ?_;rintro e w0 ⟨rfl,rfl⟩);obtain⟨W0,hW0⟩:=gnX ((((w.alloc (.cells #[Vi,Vi,Vi,Vi,Vi,Vi,Vi,Vi,Vi,Vi,Vi,Vi] 34)).alloc (.cells #[.slice a len cap,.int .i64 0] 165)).alloc (.cells #[Vi,Vi,Vi,Vi,Vi,Vi,Vi,Vi,Vi,Vi,Vi,Vi] 34)));obtain⟨b,hb⟩:=gnX (w.heap.size+1+1);obtain⟨s,hs⟩:=gnX (w.heap.size+1);obtain⟨rb,hrb⟩:=gnX (w.heap.size);replace D0:Y4 (Bs w W0 rb b s (fun _=>0) Lk Vi [] Vi []):=by rw[← hW0,← hb,← hs,← hrb];exact D0
 rw[hW0,hb,hs,hrb];clear hW0 hb hs;have Hrb:=Y8 hrb;clear hrb;go_wp2_with fail;refine(Xc s 3 (by omega) (by omega) _ w.heap.size D0.o.src).mono ?_;rintro e w1 ⟨v1,hv1,rfl,h1⟩;have D1:=Y8 (D0.o.next h1);obtain⟨wild,hwild⟩:=gnX (((v1:Int)==0));have hq6:(v1==0)=wild:=by rw[← hwild,Zfd];simp
 clear h1 D0;go_wp2_with fail;refine(Zwe _).mono ?_;rintro e w2 ⟨pv,rfl,hpool,hx2⟩;obtain⟨Ap,Cp,rfl,hlp,hcp⟩:=Xw.shape hpool;have hp28:Ka.length=28:=rfl;have D2:=Y8 (D1.o.withPool hx2 hpool);rw[hp28]at D2;rw[hp28]at hlp⊢;unfold maxLen at hcp;clear hpool hx2 hp28 D1 hwild hq6 hv1;go_wp2_with fail;go_loopw [21,6] (fun o sv wx=>∃ (i:Nat) (cs:List Value) (st:List Int),i≤28∧o=.int .i64 (i:Int)∧Bs w wx rb b s (fun _=>i) cs sv st (.slice Ap 28 Cp) Ka∧(∀ z∈st,0≤z∧z≤4∧z≠3)∧st.length=i) (fun o _ _=>28-(intOf o).toNat);case atStart=>exact⟨0,_,[],by omega,rfl,D2.o,by simp,rfl⟩
 rename World=>wx
 clear D2;obtain⟨i,cs1,st,hi,rfl,hd,hsk,hst⟩:=hrel;have Hsk:=Y8 hsk;have D3:=Y8 hd;have Hst:=Y8 hst;obtain⟨As,Cs,rfl,hlS,hCs⟩:=hd.own.shape;rw[hst]at D3 hlS⊢;unfold maxLen at hCs;clear hd hst hsk;by_cases hi28:i<28
 ·have hd_i:decide ((i:Int)<(28:Int))=true:=Ye;have i0_i:(0:Int)≤(i:Int):=by omega
  have i1_i:(i:Int)<(28:Int):=by omega
  obtain⟨c,hc⟩:∃ c,Ka[i]?=some c:=⟨Ka[i]'(show i<28 from hi28),Zz _⟩;obtain⟨gp,op,cp,hvv,_,_,_,hgp,cz⟩:=Xw.get D3.o.pool hc;rw[show Ka.length=28 from rfl]at hvv;simp only[Yd,Zg0]at hvv;obtain⟨rfl,rfl⟩:=hvv;have Hcp:=Y8 hc;clear hc;go_wp2_with fail;refine(Zoi c _).mono ?_;rintro e w1 ⟨a0,a1,a2,a3,a4,a5,rfl,hus0,hx1⟩;have HU0:=Y8 hus0;clear hus0;have D4:=Y8 (D3.o.up hx1);have U0:=Y8 (show Xm (w1.alloc (.cells #[.int .i64 a0,.int .i64 a1,.int .i64 a2,.int .i64 a3,.int .i64 a4,.int .i64 a5] 95)) w1.heap.size [.int .i64 a0,.int .i64 a1,.int .i64 a2,.int .i64 a3,.int .i64 a4,.int .i64 a5] from Xm.new w1 #[.int .i64 a0,.int .i64 a1,.int .i64 a2,.int .i64 a3,.int .i64 a4,.int .i64 a5] 95);have T0:=Y8 ((Vv.start D4.o.src).alloc (.cells #[.int .i64 a0,.int .i64 a1,.int .i64 a2,.int .i64 a3,.int .i64 a4,.int .i64 a5] 95));clear D3 hx1 cz;go_upto_if 27 with fail;obtain⟨W0,hW0⟩:=gnX (w1.alloc (.cells #[.int .i64 a0,.int .i64 a1,.int .i64 a2,.int .i64 a3,.int .i64 a4,.int .i64 a5] 95));obtain⟨ub,hub'⟩:∃ x,w1.heap.size=x:=⟨_,rfl⟩;rw[hW0]at U0 T0;rw[hub']at U0;rw[hW0,hub'];have hub:w1.heap.size≤ub:=by omega
  have hus:¬ ub=s:=by have:=D4.o.src.lt;omega
  have hub0:w.heap.size≤ub:=by have:=D4.o.ext.size;omega
  have hubb:¬ ub=b:=by have:=D4.o.box.lt;omega
  have Hub:=Y8 hub';clear hW0 hub';go_cut [] (fun wq=>∃ a0 a1 a2 a3 a4 a5:Int,Xm wq ub [.int .i64 a0,.int .i64 a1,.int .i64 a2,.int .i64 a3,.int .i64 a4,.int .i64 a5]∧Vv w.heap.size s w1 wq∧Zx3 a0 a1 a2 a3 a4 a5);case first =>
   cases wild with
   | false =>
    go_wp2_with fail;go_meet;exact⟨_,_,_,_,_,_,U0.o,T0.o,HU0.o⟩
   | true =>
    have fz:=U0.o.fz 0;have cj:=U0.o.at_ 0 (by simp);simp only[Zx,Zw]at cj;go_wp2_with fail;refine(J8 w.heap.size s _ (a0::[2,1]) _ (T0.o.src.alloc _) (Wl _ 3 (a0::[2,1]) _ rfl _ rfl (by simp)) (by have:=T0.o.src.lt;omega) (by simp) (by simp)).mono ?_;rintro e w2 ⟨c0,hm0,rfl,t2⟩;have Hm0:=Y8 hm0;clear hm0;have U1a:=(U0.o.ext ((Yk _).alloc (.cells ((a0::[2,1]).map iV).toArray 3))).chg t2.chg hus;have U1:=Y8 (U1a.set (j:=0) (by simp) (.int .i64 c0));have T1:=Y8 (((T0.o.alloc _).trans t2).setCell (p:=⟨ub,0,none⟩) hub hus hub0 (.int .i64 c0));have fz:=U1a.fz 0;have cj:=U1a.at_ 0 (by simp);simp only[Zx,Zw]at cj;clear t2 U1a;(go_upto_region 12 with fail)
    obtain⟨W1,hW1⟩:=gnX (w2.setCell ⟨ub,0,none⟩ (.int .i64 c0));rw[hW1]at U1 T1;rw[hW1];simp only[Zu,Zt]at U1;clear hW1 fz cj;have fz:=U1.o.fz 1;have cj:=U1.o.at_ 1 (by simp);simp only[Zx,Zw]at cj;go_wp2_with fail;refine(J8 w.heap.size s _ (a1::[0,1,9,202,220,230,254]) _ (T1.o.src.alloc _) (Wl _ 3 (a1::[0,1,9,202,220,230,254]) _ rfl _ rfl (by simp)) (by have:=T1.o.src.lt;omega) (by simp) (by simp)).mono ?_;rintro e w2 ⟨c1,hm1,rfl,t2⟩;have Hm1:=Y8 hm1;clear hm1;have U2a:=(U1.o.ext ((Yk _).alloc (.cells ((a1::[0,1,9,202,220,230,254]).map iV).toArray 3))).chg t2.chg hus;have U2:=Y8 (U2a.set (j:=1) (by simp) (.int .i64 c1));have T2:=Y8 (((T1.o.alloc _).trans t2).setCell (p:=⟨ub,1,none⟩) hub hus hub0 (.int .i64 c1));have fz:=U2a.fz 1;have cj:=U2a.at_ 1 (by simp);simp only[Zx,Zw]at cj;clear t2 U2a;(go_upto_region 13 with fail)
    obtain⟨W2,hW2⟩:=gnX (w2.setCell ⟨ub,1,none⟩ (.int .i64 c1));rw[hW2]at U2 T2;rw[hW2];simp only[Zu,Zt]at U2;clear hW2 fz cj;have fz:=U2.o.fz 2;have cj:=U2.o.at_ 2 (by simp);simp only[Zx,Zw]at cj;go_wp2_with fail;refine(J8 w.heap.size s _ (a2::[0,1,2,3,4,5]) _ (T2.o.src.alloc _) (Wl _ 3 (a2::[0,1,2,3,4,5]) _ rfl _ rfl (by simp)) (by have:=T2.o.src.lt;omega) (by simp) (by simp)).mono ?_;rintro e w2 ⟨c2,hm2,rfl,t2⟩;have Hm2:=Y8 hm2;clear hm2;have U3a:=(U2.o.ext ((Yk _).alloc (.cells ((a2::[0,1,2,3,4,5]).map iV).toArray 3))).chg t2.chg hus;have U3:=Y8 (U3a.set (j:=2) (by simp) (.int .i64 c2));have T3:=Y8 (((T2.o.alloc _).trans t2).setCell (p:=⟨ub,2,none⟩) hub hus hub0 (.int .i64 c2));have fz:=U3a.fz 2;have cj:=U3a.at_ 2 (by simp);simp only[Zx,Zw]at cj;clear t2 U3a;(go_upto_region 14 with fail)
    obtain⟨W3,hW3⟩:=gnX (w2.setCell ⟨ub,2,none⟩ (.int .i64 c2));rw[hW3]at U3 T3;rw[hW3];simp only[Zu,Zt]at U3;clear hW3 fz cj;have fz:=U3.o.fz 3;have cj:=U3.o.at_ 3 (by simp);simp only[Zx,Zw]at cj;go_wp2_with fail;refine(J8 w.heap.size s _ (a3::[0,1,2,3,4,8,10,11]) _ (T3.o.src.alloc _) (Wl _ 3 (a3::[0,1,2,3,4,8,10,11]) _ rfl _ rfl (by simp)) (by have:=T3.o.src.lt;omega) (by simp) (by simp)).mono ?_;rintro e w2 ⟨c3,hm3,rfl,t2⟩;have Hm3:=Y8 hm3;clear hm3;have U4a:=(U3.o.ext ((Yk _).alloc (.cells ((a3::[0,1,2,3,4,8,10,11]).map iV).toArray 3))).chg t2.chg hus;have U4:=Y8 (U4a.set (j:=3) (by simp) (.int .i64 c3));have T4:=Y8 (((T3.o.alloc _).trans t2).setCell (p:=⟨ub,3,none⟩) hub hus hub0 (.int .i64 c3));have fz:=U4a.fz 3;have cj:=U4a.at_ 3 (by simp);simp only[Zx,Zw]at cj;clear t2 U4a;(go_upto_region 15 with fail)
    obtain⟨W4,hW4⟩:=gnX (w2.setCell ⟨ub,3,none⟩ (.int .i64 c3));rw[hW4]at U4 T4;rw[hW4];simp only[Zu,Zt]at U4;clear hW4 fz cj;have fz:=U4.o.fz 4;have cj:=U4.o.at_ 4 (by simp);simp only[Zx,Zw]at cj;go_wp2_with fail;refine(J8 w.heap.size s _ (a4::[0,1,2,3,6,7,9,10]) _ (T4.o.src.alloc _) (Wl _ 3 (a4::[0,1,2,3,6,7,9,10]) _ rfl _ rfl (by simp)) (by have:=T4.o.src.lt;omega) (by simp) (by simp)).mono ?_;rintro e w2 ⟨c4,hm4,rfl,t2⟩;have Hm4:=Y8 hm4;clear hm4;have U5a:=(U4.o.ext ((Yk _).alloc (.cells ((a4::[0,1,2,3,6,7,9,10]).map iV).toArray 3))).chg t2.chg hus;have U5:=Y8 (U5a.set (j:=4) (by simp) (.int .i64 c4));have T5:=Y8 (((T4.o.alloc _).trans t2).setCell (p:=⟨ub,4,none⟩) hub hus hub0 (.int .i64 c4));have fz:=U5a.fz 4;have cj:=U5a.at_ 4 (by simp);simp only[Zx,Zw]at cj;clear t2 U5a;(go_upto_region 16 with fail)
    obtain⟨W5,hW5⟩:=gnX (w2.setCell ⟨ub,4,none⟩ (.int .i64 c4));rw[hW5]at U5 T5;rw[hW5];simp only[Zu,Zt]at U5;clear hW5 fz cj;have fz:=U5.o.fz 5;have cj:=U5.o.at_ 5 (by simp);simp only[Zx,Zw]at cj;go_wp2_with fail;refine(J8 w.heap.size s _ (a5::[0,1,2,4]) _ (T5.o.src.alloc _) (Wl _ 3 (a5::[0,1,2,4]) _ rfl _ rfl (by simp)) (by have:=T5.o.src.lt;omega) (by simp) (by simp)).mono ?_;rintro e w2 ⟨c5,hm5,rfl,t2⟩;have Hm5:=Y8 hm5;clear hm5;have U6a:=(U5.o.ext ((Yk _).alloc (.cells ((a5::[0,1,2,4]).map iV).toArray 3))).chg t2.chg hus;have U6:=Y8 (U6a.set (j:=5) (by simp) (.int .i64 c5));have T6:=Y8 (((T5.o.alloc _).trans t2).setCell (p:=⟨ub,5,none⟩) hub hus hub0 (.int .i64 c5));have fz:=U6a.fz 5;have cj:=U6a.at_ 5 (by simp);simp only[Zx,Zw]at cj;clear t2 U6a;(go_wp2_with fail)
    go_meet;exact⟨_,_,_,_,_,_,U6.o,T6.o,Zh6 HU0.o Hm0.o Hm1.o Hm2.o Hm3.o Hm4.o Hm5.o⟩
  clear U0 T0;obtain⟨a0,a1,a2,a3,a4,a5,hU,hT,hus0⟩:=hcut;have HUs:=Y8 hus0;clear hus0 HU0;rename World=>w3
  have D5:=Y8 (D4.o.next hT);have hsz:=hT.chg.size;have U5:=Y8 hU;have hbl:=D5.o.box.lt;have hsl3:=D5.o.src.lt;clear hU hT D4;have X5:=Y8 (show Xm (w3.alloc (.cells #[.int .i64 c,.int .i64 c,.int .i64 0] 99)) w3.heap.size [.int .i64 c,.int .i64 c,.int .i64 0] from Xm.new w3 #[.int .i64 c,.int .i64 c,.int .i64 0] 99);have U1:=Y8 (U5.o.ext ((Yk _).alloc (.cells #[.int .i64 c,.int .i64 c,.int .i64 0] 99)));have D1:=Y8 (D5.o.up ((Yk _).alloc (.cells #[.int .i64 c,.int .i64 c,.int .i64 0] 99)));clear U5 D5;go_upto_region 18 with fail;obtain⟨W6,hW6⟩:=gnX (w3.alloc (.cells #[.int .i64 c,.int .i64 c,.int .i64 0] 99));obtain⟨xb,hxb⟩:=gnX (w3.heap.size);rw[hW6]at U1 D1;have X1:Y4 (Xm W6 xb [.int .i64 c,.int .i64 c,.int .i64 0]):=by rw[← hW6,← hxb];exact X5
  rw[hW6,hxb];have hxbb:¬ xb=b:=by omega
  have hxs:¬ xb=s:=by omega
  have Hxb:=Y8 hxb;clear hW6 hxb X5;have xa:=X1.o.at_ 0 (by simp);have xb':=X1.o.at_ 1 (by simp);have xc:=X1.o.at_ 2 (by simp);have uj:=U1.o.at_ 0 (by simp);simp only[Zx,Zw]at xa xb' xc uj;obtain⟨v_,l_,hc_,hs_,hl_⟩:=D1.o.sp 0 (by simp);have Hs_:=Y8 hs_;have Hl_:=Y8 (show SpP l_ i (Fo.getD 0 0) from hl_);have Hc_:=Y8 hc_;clear hs_ hl_ hc_;go_wp2_with fail;refine(add_any b 0 cs1 v_ l_ c c 0 a0 _ D1.o.box Hc_.o Hs_.o (fun e=>e.2.1 rfl) (by have:=Hl_.o.len;omega)).mono ?_;rintro e w2 ⟨u',l',rfl,hb',hs',hl',hc'⟩;obtain⟨cs2,hcs⟩:=gnX (cs1.set 0 u');have D2:=Y8 (D1.o.addp (by simp) hb' hs' (Hl_.o.add Hcp.o (by have:=HUs.o;unfold Zx3 at this;show a0≤(8:Int);omega) hl') hc');rw[hcs]at D2;have U2:=Y8 (U1.o.chg hc' hubb);have X2:=Y8 (X1.o.chg hc' hxbb);clear hb' hs' hl' hc' hcs Hs_ Hl_ Hc_ xa xb' xc uj;have xa:=X2.o.at_ 0 (by simp);have xb':=X2.o.at_ 1 (by simp);have xc:=X2.o.at_ 2 (by simp);have uj:=U2.o.at_ 1 (by simp);simp only[Zx,Zw]at xa xb' xc uj;obtain⟨v_,l_,hc_,hs_,hl_⟩:=D2.o.sp 1 (by simp);have Hs_:=Y8 hs_;have Hl_:=Y8 (show SpP l_ i (Fo.getD 1 0) from hl_);have Hc_:=Y8 hc_;clear hs_ hl_ hc_;go_wp2_with fail;refine(add_any b 1 cs2 v_ l_ c c 0 a1 _ D2.o.box Hc_.o Hs_.o (fun e=>e.2.1 rfl) (by have:=Hl_.o.len;omega)).mono ?_;rintro e w2 ⟨u',l',rfl,hb',hs',hl',hc'⟩;obtain⟨cs3,hcs⟩:=gnX (cs2.set 1 u');have D3:=Y8 (D2.o.addp (by simp) hb' hs' (Hl_.o.add Hcp.o (by have:=HUs.o;unfold Zx3 at this;show a1≤(254:Int);omega) hl') hc');rw[hcs]at D3;have U3:=Y8 (U2.o.chg hc' hubb);have X3:=Y8 (X2.o.chg hc' hxbb);clear hb' hs' hl' hc' hcs Hs_ Hl_ Hc_ xa xb' xc uj;have xa:=X3.o.at_ 0 (by simp);have xb':=X3.o.at_ 1 (by simp);have xc:=X3.o.at_ 2 (by simp);have uj:=U3.o.at_ 2 (by simp);simp only[Zx,Zw]at xa xb' xc uj;obtain⟨v_,l_,hc_,hs_,hl_⟩:=D3.o.sp 2 (by simp);have Hs_:=Y8 hs_;have Hl_:=Y8 (show SpP l_ i (Fo.getD 2 0) from hl_);have Hc_:=Y8 hc_;clear hs_ hl_ hc_;go_wp2_with fail;refine(add_any b 2 cs3 v_ l_ c c 0 a2 _ D3.o.box Hc_.o Hs_.o (fun e=>e.2.1 rfl) (by have:=Hl_.o.len;omega)).mono ?_;rintro e w2 ⟨u',l',rfl,hb',hs',hl',hc'⟩;obtain⟨cs4,hcs⟩:=gnX (cs3.set 2 u');have D4:=Y8 (D3.o.addp (by simp) hb' hs' (Hl_.o.add Hcp.o (by have:=HUs.o;unfold Zx3 at this;show a2≤(5:Int);omega) hl') hc');rw[hcs]at D4;have U4:=Y8 (U3.o.chg hc' hubb);have X4:=Y8 (X3.o.chg hc' hxbb);clear hb' hs' hl' hc' hcs Hs_ Hl_ Hc_ xa xb' xc uj;have xa:=X4.o.at_ 0 (by simp);have xb':=X4.o.at_ 1 (by simp);have xc:=X4.o.at_ 2 (by simp);have uj:=U4.o.at_ 3 (by simp);simp only[Zx,Zw]at xa xb' xc uj;obtain⟨v_,l_,hc_,hs_,hl_⟩:=D4.o.sp 3 (by simp);have Hs_:=Y8 hs_;have Hl_:=Y8 (show SpP l_ i (Fo.getD 3 0) from hl_);have Hc_:=Y8 hc_;clear hs_ hl_ hc_;go_wp2_with fail;refine(add_any b 3 cs4 v_ l_ c c 0 a3 _ D4.o.box Hc_.o Hs_.o (fun e=>e.2.1 rfl) (by have:=Hl_.o.len;omega)).mono ?_;rintro e w2 ⟨u',l',rfl,hb',hs',hl',hc'⟩;obtain⟨cs5,hcs⟩:=gnX (cs4.set 3 u')
  have D5:=Y8 (D4.o.addp (by simp) hb' hs' (Hl_.o.add Hcp.o (by have:=HUs.o;unfold Zx3 at this;show a3≤(11:Int);omega) hl') hc');rw[hcs]at D5;have U5:=Y8 (U4.o.chg hc' hubb);have X5:=Y8 (X4.o.chg hc' hxbb);clear hb' hs' hl' hc' hcs Hs_ Hl_ Hc_ xa xb' xc uj;have xa:=X5.o.at_ 0 (by simp);have xb':=X5.o.at_ 1 (by simp);have xc:=X5.o.at_ 2 (by simp);have uj:=U5.o.at_ 4 (by simp);simp only[Zx,Zw]at xa xb' xc uj;obtain⟨v_,l_,hc_,hs_,hl_⟩:=D5.o.sp 4 (by simp);have Hs_:=Y8 hs_;have Hl_:=Y8 (show SpP l_ i (Fo.getD 4 0) from hl_);have Hc_:=Y8 hc_;clear hs_ hl_ hc_;go_wp2_with fail;refine(add_any b 4 cs5 v_ l_ c c 0 a4 _ D5.o.box Hc_.o Hs_.o (fun e=>e.2.1 rfl) (by have:=Hl_.o.len;omega)).mono ?_;rintro e w2 ⟨u',l',rfl,hb',hs',hl',hc'⟩;obtain⟨cs6,hcs⟩:=gnX (cs5.set 4 u');have D6:=Y8 (D5.o.addp (by simp) hb' hs' (Hl_.o.add Hcp.o (by have:=HUs.o;unfold Zx3 at this;show a4≤(60:Int);omega) hl') hc');rw[hcs]at D6;have U6:=Y8 (U5.o.chg hc' hubb);have X6:=Y8 (X5.o.chg hc' hxbb);clear hb' hs' hl' hc' hcs Hs_ Hl_ Hc_ xa xb' xc uj;clear D1 D2 D3 D4 D5 U1 U2 U3 U4 U5 X1 X2 X3 X4 X5;go_upto_region 23 with fail;have D6:=Y8 (D6.o.upn (n':=fun k=>if k=6 then i else i+1) (fun k hk=>by simp at hk;rcases hk with rfl|rfl|rfl|rfl|rfl|rfl<;>simp));go_cut [101] (fun o wq=>∃ q:Bool,o=.bool q∧Vv w.heap.size s w2 wq);case first =>
   cases h1:(c==173)
   ·cases wild with
    | false =>
     go_wp2_with fail;go_meet;exact⟨_,rfl,Vv.start D6.o.src⟩
    | true =>
     go_wp2_with fail;refine(Xc s 12 (by omega) (by omega) _ w.heap.size D6.o.src).mono ?_;rintro e w5 ⟨v5,hv5,rfl,h5⟩;obtain⟨q5,hq5⟩:=gnX (((v5:Int)==0));have hq6:(v5==0)=q5:=by rw[← hq5,Zfd];simp
     go_wp2_with fail;go_meet;exact⟨_,rfl,h5⟩
   go_wp2_with fail;go_meet;exact⟨_,rfl,Vv.start D6.o.src⟩
  obtain⟨q,rfl,hT⟩:=hcut;rename World=>w4
  have D7:=Y8 (D6.o.next hT);have U7:=Y8 (U6.o.chg hT.chg hus);have X7:=Y8 (X6.o.chg hT.chg hxs);clear hT D6 U6 X6;go_upto_if 101 with fail;go_cut [] (fun wq=>∃ (cs8:List Value),Bs w wq rb b s (fun _=>i+1) cs8 (.slice As i Cs) st (.slice (some ⟨gp,op,none⟩) 28 Cp) Ka∧Xm wq ub [.int .i64 a0,.int .i64 a1,.int .i64 a2,.int .i64 a3,.int .i64 a4,.int .i64 a5]);case first =>
   cases q with
   | false =>
    go_wp2_with fail;go_meet;exact⟨_,D7.o.upn (fun k hk=>by simp at hk;rcases hk with rfl|rfl|rfl|rfl|rfl|rfl<;>simp),U7.o⟩
   | true =>
    obtain⟨cs7,hcs7⟩:=gnX (cs6);rw[hcs7]at D7;clear hcs7;have xa:=X7.o.at_ 0 (by simp);have xb':=X7.o.at_ 1 (by simp);have xc:=X7.o.at_ 2 (by simp);have uj:=U7.o.at_ 0 (by simp);simp only[Zx,Zw]at xa xb' xc uj;obtain⟨v_,l_,hc_,hs_,hl_⟩:=D7.o.sp 6 (by simp);have Hs_:=Y8 hs_;have Hl_:=Y8 (show SpP l_ i (Fo.getD 6 0) from hl_);have Hc_:=Y8 hc_;clear hs_ hl_ hc_;go_wp2_with fail;refine(add_any b 6 cs7 v_ l_ c c 0 1 _ D7.o.box Hc_.o Hs_.o (fun e=>e.2.1 rfl) (by have:=Hl_.o.len;omega)).mono ?_;rintro e w2 ⟨u',l',rfl,hb',hs',hl',hc'⟩;obtain⟨cs8,hcs⟩:=gnX (cs7.set 6 u');have D8:=Y8 (D7.o.addp (by simp) hb' hs' (Hl_.o.add Hcp.o (by have:=HUs.o;unfold Zx3 at this;show 1≤(1:Int);omega) hl') hc');rw[hcs]at D8;have U8:=Y8 (U7.o.chg hc' hubb);have X8:=Y8 (X7.o.chg hc' hxbb);clear hb' hs' hl' hc' hcs Hs_ Hl_ Hc_ xa xb' xc uj;go_wp2_with fail;go_meet;exact⟨_,D8.o.upn (fun k hk=>by simp at hk;rcases hk with rfl|rfl|rfl|rfl|rfl|rfl<;>simp),U8.o⟩
  obtain⟨cs8,hD,hU⟩:=hcut;rename World=>w5
  clear D7 U7 X7;have D8:=Y8 hD;have u5:=hU.at_ 5 (by simp);simp only[Zx,Zw]at u5;have hxs:=hD.ext.size;have hubl:=hU.lt;clear hD hU;go_wp2_with (at_builtin;refine Pt Ww _ _ _ rfl rfl rfl rfl (D8.o.own.ext ((Yk _).alloc _)) rfl (Ws w5 a5 _ _ rfl) (by rw[Hst.o];show i+1≤maxLen;unfold maxLen;omega) (by rw[Hst.o];show(i+1)*8≤_;omega) (by simp;omega) ?_;intro A9 n9 c9 w9 hg9;have D9:=Y8 (D8.o.grow hg9);clear hg9);go_roundw;case rel=>exact⟨i+1,cs8,st++[a5],by omega,by go_num,D9.o,fun z hz=>by
   rcases Zj.1 hz with hz|hz
   ·exact Hsk.o z hz
   rw[Zi.1 hz];have:=HUs.o;unfold Zx3 at this;omega,by rw[Zs,Hst.o];rfl⟩
  case measure=>(simp[intOf];omega)
 have hd_i:decide ((i:Int)<(28:Int))=false:=Yf;obtain rfl:i=28:=by omega
 obtain⟨gs,cg,hgs,_,_,_,_⟩:=D3.o.own.some_ (by rw[Hst.o];omega);simp only[Yd]at hgs;obtain⟨rfl,-,-⟩:=hgs;have Hg:=Y8 D3.o.gsb;have E0:=Y8 D3.o.dc;go_wp2_with fail;refine(Zyu w.heap.size b s cs1 _ (by rw[D3.o.len];omega) E0.o).mono ?_;rintro e w1 ⟨dv,dec,ev,exc,rfl,hE,hd5,hnd,hdp⟩;have Hdp:=Y8 hdp;clear hdp;have E1:=Y8 hE;have Hd5:=Y8 hd5;have Hnd:=Y8 hnd;clear hE hd5 hnd E0;go_wp2_with fail;refine(Zqz (TbU b s gs) w.heap.size b s gs Cs _ st _ (D3.o.mp E1.o) (by simp[D3.o.len]) D3.o.mp5 ((Zit D3.o.own).chg E1.o.chg (by rintro(e|e);exact Hg.o.1 e;exact Hg.o.2.1 e)) Hst.o (.inr (.inr rfl)) Hg.o.1 Hg.o.2.1 Hg.o.2.2.2.1 hlS Hsk.o).mono ?_;rintro e w2 ⟨d8,e8,u5,l5,rfl,hG,he8,h5,hl5,hmp⟩;have Hmp:=Y8 hmp;have G2:=Y8 hG;have He8:=Y8 he8;obtain⟨T,hTc,hT,hTp,hTp2,hTx,hTd,hTm,hTs⟩:=D3.o.tb E1.o hG h5;have GP:=Y8 (Zh2 hG hTc hTp);have HT:=Y8 hT;have HTc:=Y8 hTc;have HTx:=Y8 hTx;have HTd:=Y8 hTd;have HTm:=Y8 hTm;have HTs:=Y8 hTs;clear hTs hmp;clear hG he8 h5 hl5 hT hTc hTx hTd hTm;go_wp2_with fail;refine(Pg (TbU b s gs) w.heap.size b s T _ (Zw8 HT.o (fun k hk hl=>⟨by rintro(e|e|e);exact hk.2.1 e;exact hk.2.2.1 e;exact hk.2.2.2.1 e,hl⟩)) hTp2 hTp GP.o).mono ?_;rintro e w3 ⟨d11,e11,rfl,hP,he11,hpp⟩;have hs1:=E1.o.chg.size;have hs2:=G2.o.chg.size;have hs3:=hP.chg.size;have hx0:=D3.o.ext.size;have hrl:=D3.o.res.lt;have hTe:=Zh0 HT.o HTc.o hP (by omega) (by omega);have hP11:=hP.tos;have Hf:=Y8 (show Few {T with proV:=d11,pro:=e11.map Subtype.val} from Zhn (e8:=e8) HTd.o HTm.o rfl (fun m hm=>(E1.o.tos m hm).2) Hd5.o (fun m hm=>(G2.o.tos m hm).2) He8.o (fun m hm=>(hP11 m hm).2) he11 (by rw[show({T with proV:=d11,pro:=e11.map Subtype.val}:Tbl).ext=T.ext from rfl,HTx.o];simp) (by rw[show({T with proV:=d11,pro:=e11.map Subtype.val}:Tbl).ext=T.ext from rfl,HTx.o];simp));have Hq:=Y8 (show Uq0 {T with proV:=d11,pro:=e11.map Subtype.val} from Zh5 HTd.o Hnd.o);have Hk:=Y8 (show KtP {T with proV:=d11,pro:=e11.map Subtype.val} from by
  obtain⟨k0,k1,k2,k3,k4,k6,k7,k8⟩:=HTs.o;exact⟨k0,k1,k2,k3,k4,k6,by have:=Hdp.o;rw[← HTd.o,← k8]at this;exact this,by have:=Hmp.o;rw[← HTm.o,← k7]at this;exact this,⟨hpp.sub,hpp.ign⟩,.inl HTx.o⟩)
 clear hpp;have B3:=hP.box;rw[← hTe.1]at B3;obtain⟨T3,hT3⟩:∃ T',({T with proV:=d11,pro:=e11.map Subtype.val}:Tbl)=T':=⟨_,rfl⟩;rw[hT3]at hTe Hf Hq B3 Hk;have TE:=Y8 hTe.2;have HB3:=Y8 B3;have HP:=Y8 hP;have R3:=Y8 (((D3.o.res.chg E1.o.chg (by rintro(e|e);exact D3.o.br e.symm;exact D3.o.sr e.symm)).chg G2.o.chg (by rintro(e|e|e);exact D3.o.br e.symm;exact D3.o.sr e.symm;exact Hg.o.2.2.1 e.symm)).chg hP.chg (by rintro(e|e|e);exact D3.o.br e.symm;exact D3.o.sr e.symm;exact Hg.o.2.2.1 e.symm));have hsg:=D3.o.src.ge;have hb0:=D3.o.b0;have hg0:=Hg.o.2.2.2.1;have X3:=Y8 (((D3.o.ext.chg_new E1.o.chg (by rintro k (e|e)<;>omega)).chg_new G2.o.chg (by rintro k (e|e|e)<;>omega)).chg_new hP.chg (by rintro k (e|e|e)<;>omega));have hsl3:=D3.o.src.lt;have hgl3:=Hg.o.2.2.2.2;have HD:=Y8 (show b≠rb∧s≠rb∧b≠s from⟨D3.o.br,D3.o.sr,D3.o.bs⟩);clear hTe B3 hP he11 hP11 hT3 E1 G2 D3 GP HT HTc HTx HTd HTm Hd5 Hnd He8 HTs Hdp Hmp;go_wp2_with fail;refine(Xc s 2 (by omega) (by omega) _ w.heap.size HP.o.src).mono ?_;rintro e w4 ⟨v4,hv4,rfl,h4⟩;have hs4:=h4.chg.size;have TE4:=Y8 (TE.o.chg h4.chg (fun k hk e=>hk.2.2.1 e));have B4:=Y8 (HB3.o.chg h4.chg HD.o.2.2);have R4:=Y8 (R3.o.chg h4.chg (fun e=>HD.o.2.1 e.symm));have X4:=Y8 (X3.o.chg_new h4.chg (fun i e=>by omega));clear h4 TE HB3 R3 X3 HP;go_upto_if 120 with fail;go_cut [] (fun wq=>∃ T':Tbl,Xm wq b (Qk T')∧Xg wq (TbR w rb b s gs) T'∧Few T'∧Uq0 T'∧KtP T'∧Xm wq rb Lk∧Ext w wq);case first =>
  by_cases hv0:v4=0
  ·subst hv0;have f7:=B4.o.fz 7;have a7:=B4.o.at_ 7 (by simp[Qk]);simp only[Qk,Zx,Zw]at a7;obtain⟨T2,hT2⟩:=Zh1 TE4.o B4.o R4.o X4.o hb0 HD.o.1 (by omega) (by omega) Hf.o Hq.o Hk.o;have HT2:=Y8 hT2;have hbl4:=B4.o.lt;clear hT2;go_wp2_with fail;go_meet;exact⟨T2,HT2.o⟩
  have e1:((v4:Int)==0)=false:=by simp;omega
  have e2:(v4==0)=false:=by simp;omega
  have e3:¬ (v4:Int)=0:=by omega
  clear hv0;go_wp2_with fail;go_meet;exact⟨T3,B4.o,TE4.o,Hf.o,Hq.o,Hk.o,R4.o,X4.o⟩
 clear TE4 B4 R4 X4 Hf Hq Hk;obtain⟨T',hB,hT,hf,hq,hk,hR,hX⟩:=hcut;rename World=>w5
 have hthere:w5.there rb 0 (Qk T').toArray.size:=fun j hj=>by
  have hj':j<Lk.length:=hj;rw[Zg7];exact⟨by rw[hR.at_ j hj',Zz hj'];rfl,hR.fz j⟩
 have hone:=Zd8 (Zos hT);have TF:=Y8 (hT.chg (Xe (S:=(· = rb)) (.inl rfl) (vs:=Qk T') (o:=0) (Chg.refl _ w5)) (fun k hk e=>hk.2.2.2.2 e));have XF:=Y8 (hX.chg_new (Xe (S:=(· = rb)) (.inl rfl) (vs:=Qk T') (o:=0) (Chg.refl _ w5)) (fun i e=>by have:=Hrb.o;omega));have hrange:=Zcz w5 rb 0 (Qk T') hthere;have hbox:Kn w5 b T':=⟨hB.lt,fun k hk=>hB.at_ k hk⟩;have Hth:=Y8 hthere;have Hra:=Y8 hrange;have Hbx:=Y8 hbox;clear hB hT hR hX hthere hrange hbox;go_wp2_with (first|(refine Xy Hbx.o rfl ?_)|(refine Zeu rfl _ _ _ rfl rb 0 (Qk T').toArray rfl rfl Hth.o (by rw[Bm];rfl) hone ?_));have q0:=Hra.o 0 T'.catV rfl;have q1:=Hra.o 1 T'.clsV rfl;have q2:=Hra.o 2 T'.joiV rfl;have q3:=Hra.o 3 T'.bidV rfl;have q4:=Hra.o 4 T'.scrV rfl;have q5:=Hra.o 5 T'.staV rfl;have q6:=Hra.o 6 T'.ignV rfl;have q7:=Hra.o 7 T'.extV rfl;have q8:=Hra.o 8 T'.mapV rfl;have q9:=Hra.o 9 T'.decV rfl;have q10:=Hra.o 10 T'.excV rfl;have q11:=Hra.o 11 T'.proV rfl;simp only[Zg7]at q0 q1 q2 q3 q4 q5 q6 q7 q8 q9 q10 q11;obtain⟨W9,hW9⟩:=gnX (w5.setCells rb 0 (Qk T'));rw[hW9]at TF XF q0 q1 q2 q3 q4 q5 q6 q7 q8 q9 q10 q11;try rw[hW9]
 clear Hra Hbx Hth hone;refine Ys (v:=Vg T') (by simp[results,results10,go_sem,q0,q1,q2,q3,q4,q5,q6,q7,q8,q9,q10,q11,Vg]) rfl ⟨T',rfl,Zw8 TF.o (fun k hk _=>hk.1),hf,hq,hk,XF.o⟩
