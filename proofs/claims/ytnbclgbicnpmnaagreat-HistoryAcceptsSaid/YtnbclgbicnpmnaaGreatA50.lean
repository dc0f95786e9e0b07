/- Lemmas of this claim: Kta, Ktc. Conditions: as named. -/
import Derived.Test.YtnbclgbicnpmnaaGreatA09
import Derived.Test.YtnbclgbicnpmnaaGreatA36
import Derived.Test.YtnbclgbicnpmnaaGreatA46
import Derived.Test.YtnbclgbicnpmnaaGreatA48
import Derived.Test.YtnbclgbicnpmnaaGreatA49
namespace Go.Proofs.YtnbclgbicnpmnaaGreat
open Go.RowKit Go.Sort
set_option maxHeartbeats 0
set_option maxRecDepth 100000
set_option linter.all false
section
abbrev Vw:Value:=.slice none 0 0
def TbF(w0:World)(rb b s:Nat)(sv:Value)(k:Nat):Prop:=w0.heap.size≤k∧k≠b∧k≠s∧k≠rb∧sv.ownBlock≠some k
structure Ub(w0 w:World)(rb b s:Nat)(n:Nat→Nat)(cs:List Value)(sv:Value)(st:List Int)(pv:Value)(pl:List Int):Prop where
 src:Src w0.heap.size w s
 ext:Ext w0 w
 box:Xo w b cs
 res:Xo w rb [Vw,Vw,Vw,Vw,Vw,Vw,Vw,Vw,Vw,Vw,Vw,Vw]
 len:cs.length=12
 sp:∀ j∈[0,1,2,3,4,6],∃ u l,cs[j]?=some u∧Vv w (TbF w0 rb b s sv) u l∧SpP l (n j) (Ea.getD j 0)
 nl:∀ j∈[5,7,8,9,10,11],cs[j]?=some Vw
 own:Own Wi w w0.heap.size sv st
 ob:∀ k,sv.ownBlock=some k→k≠b∧k≠s∧k≠rb
 bs:b≠s
 br:b≠rb
 sr:s≠rb
 b0:w0.heap.size≤b
 r0:w0.heap.size≤rb
 pool:Xx w (TbF w0 rb b s sv) pv pl
section
variable {w0 w w':World} {rb b s:Nat} {n:Nat→Nat} {cs:List Value} {sv:Value} {st:List Int} {pv:Value} {pl:List Int}
theorem Ub.next(h:Ub w0 w rb b s n cs sv st pv pl)(t:We w0.heap.size s w w'):Ub w0 w' rb b s n cs sv st pv pl where
 src:=t.src
 ext:=h.ext.chg_new t.chg (fun i e=>by have:=h.src.ge;omega)
 box:=h.box.chg t.chg h.bs
 res:=h.res.chg t.chg (fun e=>h.sr e.symm)
 len:=h.len
 sp j hj:=by
  obtain⟨u,l,h1,h2,h3⟩:=h.sp j hj;exact⟨u,l,h1,Rd.chg h2 t.chg (fun k hk e=>hk.2.2.1 e),h3⟩
 nl:=h.nl
 own:=h.own.chg t.chg (fun k hk e=>(h.ob k hk).2.1 e)
 ob:=h.ob
 bs:=h.bs
 br:=h.br
 sr:=h.sr
 b0:=h.b0
 r0:=h.r0
 pool:=Rd.chg h.pool t.chg (fun k hk e=>hk.2.2.1 e)
theorem Ub.up(h:Ub w0 w rb b s n cs sv st pv pl)(x:Ext w w'):Ub w0 w' rb b s n cs sv st pv pl:=h.next ⟨h.src.ext x,x.chg _⟩
theorem Ub.withPool{v:Value}{l:List Int}(h:Ub w0 w rb b s n cs sv st pv pl)(x:Ext w w')(hp:Xx w' (fun k=>w.heap.size≤k) v l):Ub w0 w' rb b s n cs sv st v l:=by
 have h1:=h.src.lt;have h2:=h.box.lt;have h3:=h.res.lt;have h4:=h.ext.size;have h5:=h.own.lt;have g:=h.up x;exact⟨g.src,g.ext,g.box,g.res,g.len,g.sp,g.nl,g.own,g.ob,g.bs,g.br,g.sr,g.b0,g.r0,Rd.mono hp fun k hk _=>⟨by omega,by omega,by omega,by omega,fun e=>by have:=(h5 k e).2;omega⟩⟩
theorem Ub.addp{u:Value}{l:List Sp}{j m:Nat}(h:Ub w0 w rb b s n cs sv st pv pl)(hj:j∈[0,1,2,3,4,6])(hb:Xo w' b (cs.set j u))(hu:Vv w' (fun k=>TbF w0 rb b s sv k∨w.heap.size≤k) u l)(hl:SpP l m (Ea.getD j 0))(c:Chg (· = b) w w') :
 Ub w0 w' rb b s (fun k=>if k=j then m else n k) (cs.set j u) sv st pv pl where
 src:=h.src.chg c (fun e=>h.bs e.symm) (fun k hk e=>by have:=h.b0;omega)
 ext:=h.ext.chg_new c (fun i e=>by have:=h.b0;omega)
 box:=hb
 res:=h.res.chg c (fun e=>h.br e.symm)
 len:=by rw[Zf];exact h.len
 sp i hi:=by
  by_cases e:j=i
  ·subst e;refine⟨u,l,by rw[Yv,Zm4 rfl,Zm4];(have:=h.len;simp at hj;omega),?_,by rw[Zm4 rfl];exact hl⟩;refine Rd.mono hu fun k hk _=>?_
   rcases hk with hk|hk
   ·exact hk
   have:=h.ext.size;have h1:=h.box.lt;have h2:=h.src.lt;have h3:=h.res.lt;exact⟨by omega,by omega,by omega,by omega,fun e=>by have:=(h.own.lt k e).2;omega⟩
  obtain⟨u',l',h1,h2,h3⟩:=h.sp i hi;exact⟨u',l',by rw[Yv,Zm2 e];exact h1,Rd.chg h2 c (fun k hk e=>hk.2.1 e),by rw[Zm2 fun e'=>e e'.symm];exact h3⟩
 nl i hi:=by
  rw[Yv,Zm2]
  ·exact h.nl i hi
  simp at hi hj;omega
 own:=h.own.chg c (fun k hk e=>(h.ob k hk).1 e)
 ob:=h.ob
 bs:=h.bs
 br:=h.br
 sr:=h.sr
 b0:=h.b0
 r0:=h.r0
 pool:=Rd.chg h.pool c (fun k hk e=>hk.2.1 e)
theorem Ub.grow{A:Option Addr}{m c:Nat}{x:Int}{o:Obj}(h:Ub w0 w rb b s n cs sv st pv pl)(hg:Grew Wi (w.alloc o) w0.heap.size sv (st++[x]) A m c w'):Ub w0 w' rb b s n cs (.slice A m c) (st++[x]) pv pl:=by
 have h1:=h.box.lt;have h2:=h.src.lt;have h3:=h.res.lt;have hx:=h.ext.size;have hat:∀ k,(Value.slice A m c).ownBlock=some k→sv.ownBlock=some k∨k=(w.alloc o).heap.size:=fun k hk=>by
  rcases hg.at_ with h1|h1
  ·exact .inl (by rw[← h1];exact hk)
  rw[hk]at h1;exact .inr (Zm6 h1)
 have key:∀ {z:Nat} {v:Value} {k:Nat} {xs:List Value},Rd w (TbF w0 rb b s sv) z v k xs→Rd w' (TbF w0 rb b s (.slice A m c)) z v k xs:=by
  intro z v k xs h2;have h4:Rd (w.alloc o) (fun k=>TbF w0 rb b s sv k∧k<w.heap.size) z v k xs:=Rd.ext (Rd.mono h2 fun k hk hl=>⟨hk,hl⟩) ((Yl _).alloc o);refine Rd.mono (Rd.chg h4 hg.chg (fun k hk e=>hk.1.2.2.2.2 e)) fun k hk _=>⟨hk.1.1,hk.1.2.1,hk.1.2.2.1,hk.1.2.2.2.1,fun e=>?_⟩
  rcases hat k e with h5|h5
  ·exact hk.1.2.2.2.2 h5
  have:=hk.2;simp at h5;omega
 exact {
  src:=(h.src.alloc o).chg hg.chg (fun e=>(h.ob s e).2.1 rfl) (fun k hk e=>by have:=(h.own.lt k e).1;omega)
  ext:=(h.ext.alloc o).chg_new hg.chg (fun k e=>(h.own.lt k e).1)
  box:=(h.box.ext ((Yl _).alloc o)).chg hg.chg (fun e=>(h.ob b e).1 rfl)
  res:=(h.res.ext ((Yl _).alloc o)).chg hg.chg (fun e=>(h.ob rb e).2.2 rfl)
  len:=h.len
  sp:=fun j hj=>by
   obtain⟨u,l,h1,h2,h3⟩:=h.sp j hj;exact⟨u,l,h1,key h2,h3⟩
  nl:=h.nl
  own:=hg.own
  ob:=fun k hk=>by
   rcases hat k hk with h5|h5
   ·exact h.ob k h5
   simp at h5;omega
  bs:=h.bs
  br:=h.br
  sr:=h.sr
  b0:=h.b0
  r0:=h.r0
  pool:=key h.pool}
theorem Ub.upn{n':Nat→Nat}(h:Ub w0 w rb b s n cs sv st pv pl)(hn:∀ k∈[0,1,2,3,4,6],n k≤n' k):Ub w0 w rb b s n' cs sv st pv pl :=
 {h with sp:=fun j hj=>by obtain⟨u,l,h1,h2,h3⟩:=h.sp j hj;exact⟨u,l,h1,h2,h3.up (hn j hj)⟩}
theorem Ub.cells(h:Ub w0 w rb b s n cs sv st pv pl):∃ (u0 u1 u2 u3 u4 u6:Value) (l0 l1 l2 l3 l4 l6:List Sp),cs=[u0,u1,u2,u3,u4,Vw,u6,Vw,Vw,Vw,Vw,Vw] ∧
 Vv w (TbF w0 rb b s sv) u0 l0∧Vv w (TbF w0 rb b s sv) u1 l1∧Vv w (TbF w0 rb b s sv) u2 l2∧Vv w (TbF w0 rb b s sv) u3 l3∧Vv w (TbF w0 rb b s sv) u4 l4∧Vv w (TbF w0 rb b s sv) u6 l6 ∧
 SpP l0 (n 0) 8∧SpP l1 (n 1) 254∧SpP l2 (n 2) 5∧SpP l3 (n 3) 11∧SpP l4 (n 4) 60∧SpP l6 (n 6) 1:=by
 obtain⟨u0,l0,a0,b0,p0⟩:=h.sp 0 (by simp);obtain⟨u1,l1,a1,b1,p1⟩:=h.sp 1 (by simp);obtain⟨u2,l2,a2,b2,p2⟩:=h.sp 2 (by simp);obtain⟨u3,l3,a3,b3,p3⟩:=h.sp 3 (by simp);obtain⟨u4,l4,a4,b4,p4⟩:=h.sp 4 (by simp);obtain⟨u6,l6,a6,b6,p6⟩:=h.sp 6 (by simp);refine⟨u0,u1,u2,u3,u4,u6,l0,l1,l2,l3,l4,l6,?_,b0,b1,b2,b3,b4,b6,p0,p1,p2,p3,p4,p6⟩;have n5:=h.nl 5 (by simp);have n7:=h.nl 7 (by simp);have n8:=h.nl 8 (by simp);have n9:=h.nl 9 (by simp);have n10:=h.nl 10 (by simp);have n11:=h.nl 11 (by simp);have hl:=h.len;clear h b0 b1 b2 b3 b4 b6 p0 p1 p2 p3 p4 p6
 match cs,hl with
 | [c0,c1,c2,c3,c4,c5,c6,c7,c8,c9,c10,c11],_ =>
  simp only[Zx,Zw,Yd]at a0 a1 a2 a3 a4 a6 n5 n7 n8 n9 n10 n11;rw[a0,a1,a2,a3,a4,a6,n5,n7,n8,n9,n10,n11]
end
theorem Zuu{w:World}{S:Nat→Prop}{v:Value}{dec:List MpS}(h:RdE mpE w S v dec)(ht:∀ m∈dec,Xx w S m.1.tv m.1.to_):Ka w S v (dec.map Subtype.val) :=
 ⟨by show Rd w S 2 v (dec.map Subtype.val).length (Vz (dec.map Subtype.val));rw[Zq];exact h,fun q hq=>by
   obtain⟨x,hx,rfl⟩:=Zlw.1 hq;exact ht x hx⟩
theorem Zmf{l:List Mp}(h:(l.map Mp.fr).Nodup):∀ m∈l,Xg l m.fr=m.to_:=by
 induction l with
 | nil=>simp
 | cons a r ih =>
  rw[Zlg,Zlm]at h;intro m hm;rcases Zg.1 hm with rfl|hm
  ·simp[Xg]
  have hne:a.fr≠m.fr:=fun e=>h.1 (by rw[e];exact Zlw.2 ⟨m,hm,rfl⟩)
  unfold Xg;rw[Zm2 hne];exact ih h.2 m hm
end
section
theorem Zz0{w:World}{S S':Nat→Prop}{t:Tbl}(h:Xl w S t)(hS:∀ k,S k→k<w.heap.size→S' k):Xl w S' t :=
 ⟨Rd.mono h.cat hS,Rd.mono h.cls hS,Rd.mono h.joi hS,Rd.mono h.bid hS,Rd.mono h.scr hS,Rd.mono h.sta hS,Rd.mono h.ign hS,⟨Rd.mono h.ext.1 hS,fun m hm=>Rd.mono (h.ext.2 m hm) hS⟩,⟨Rd.mono h.map.1 hS,fun m hm=>Rd.mono (h.map.2 m hm) hS⟩,⟨Rd.mono h.dec.1 hS,fun m hm=>Rd.mono (h.dec.2 m hm) hS⟩,Rd.mono h.exc hS,⟨Rd.mono h.pro.1 hS,fun m hm=>Rd.mono (h.pro.2 m hm) hS⟩⟩
theorem Zof{w:World}{B g n c:Nat}{l:List Int}(h:Own Wi w B (.slice (some ⟨g,0,none⟩) n c) l):Xo w g (l.map iV) :=
 ⟨h.blk.2,fun k=>h.thaw k,fun k hk=>by
   obtain⟨x,hx⟩:∃ x,(l.map iV)[k]?=some x:=⟨_,Zz hk⟩;rw[hx];exact h.at_ hx⟩
def TbU(b s gs:Nat)(k:Nat):Prop:=k=b∨k=s∨k=gs
def TbR(w:World)(rb b s gs:Nat)(k:Nat):Prop:=w.heap.size≤k∧k≠b∧k≠s∧k≠gs∧k≠rb
section
variable {w w0 w1 w2 w3:World} {rb b s gs Cs:Nat} {n:Nat→Nat} {cs:List Value} {sv:Value} {st:List Int} {pv:Value} {pl:List Int} {dv ev d8 d11 u5:Value} {dec e8 e11:List MpS} {exc:List Int} {l5:List Sp}
theorem Ub.dc(h:Ub w w0 rb b s n cs sv st pv pl):Ad w0 w0 w.heap.size b s cs Vw [] Vw []:=by
 refine⟨h.src,Chg.refl _ _,?_,Own.nil _ _ _,Own.nil _ _ _,(by intro k hk;cases hk),by simp,h.bs,h.box.lt,h.src.lt,h.b0⟩;rw[Gv (h.nl 9 (by simp)),Gv (h.nl 10 (by simp))];exact h.box
theorem Ub.gsb(h:Ub w w0 rb b s n cs (.slice (some ⟨gs,0,none⟩) 28 Cs) st pv pl):gs≠b∧gs≠s∧gs≠rb∧w.heap.size≤gs∧gs<w0.heap.size :=
 ⟨(h.ob gs rfl).1,(h.ob gs rfl).2.1,(h.ob gs rfl).2.2,h.own.blk.1,h.own.blk.2⟩
theorem Ub.mp(h:Ub w w0 rb b s n cs (.slice (some ⟨gs,0,none⟩) 28 Cs) st pv pl)(E:Ad w0 w1 w.heap.size b s cs dv dec ev exc):Ue (TbU b s gs) w1 w1 w.heap.size b s ((cs.set 9 dv).set 10 ev) 8 Vw []:=by
 have hg:=h.gsb;have hs:=E.chg.size;refine⟨E.src,Chg.refl _ _,?_,Own.nil _ _ _,by simp,?_,.inl rfl,.inr (.inl rfl),h.bs,h.b0⟩
 ·rw[Gv]
  ·exact E.box
  rw[Yv,Zm2 (by omega),Yv,Zm2 (by omega)];exact h.nl 8 (by simp)
 rintro k (rfl|rfl|rfl)
 ·exact E.box.lt
 ·exact E.src.lt
 omega
theorem Ub.mp5(h:Ub w w0 rb b s n cs sv st pv pl):((cs.set 9 dv).set 10 ev)[5]?=some Vw:=by
 rw[Yv,Zm2 (by omega),Yv,Zm2 (by omega)];exact h.nl 5 (by simp)
theorem Ub.tb(h:Ub w w0 rb b s n cs (.slice (some ⟨gs,0,none⟩) 28 Cs) st pv pl)(E:Ad w0 w1 w.heap.size b s cs dv dec ev exc)(G:Ue (TbU b s gs) w1 w2 w.heap.size b s (((cs.set 9 dv).set 10 ev).set 5 u5) 8 d8 e8)(h5:Vv w2 (fun k=>w1.heap.size≤k) u5 l5) :
 ∃ T:Tbl,Qw T=((((cs.set 9 dv).set 10 ev).set 5 u5).set 8 d8)∧Xl w2 (TbR w rb b s gs) T∧T.proV=Vw∧T.pro=[]∧T.ext=[]∧T.dec=dec.map Subtype.val∧T.map=e8.map Subtype.val ∧
  (SpP T.cat (n 0) 8∧SpP T.cls (n 1) 254∧SpP T.joi (n 2) 5∧SpP T.bid (n 3) 11∧SpP T.scr (n 4) 60∧SpP T.ign (n 6) 1∧T.sta=l5∧T.exc=exc):=by
 obtain⟨u0,u1,u2,u3,u4,u6,l0,l1,l2,l3,l4,l6,rfl,a0,a1,a2,a3,a4,a6,p0,p1,p2,p3,p4,p6⟩:=h.cells;have hg:=h.gsb;have s1:=E.chg.size;have x1:=h.ext.size;have hb:=h.box.lt;have hss:=h.src.lt;have hr:=h.res.lt;have sp:∀ {u:Value} {l:List Sp},Vv w0 (TbF w rb b s (.slice (some ⟨gs,0,none⟩) 28 Cs)) u l→Vv w2 (TbR w rb b s gs) u l:=fun {u l} a=>by
  have h1:=Rd.chg a E.chg (fun k hk e=>by rcases e with e|e;exact hk.2.1 e;exact hk.2.2.1 e);have h2:=Rd.chg h1 G.chg (fun k hk e=>by rcases e with e|e|e;exact hk.2.1 e;exact hk.2.2.1 e;exact hk.2.2.2.2 (by rw[e];rfl));exact Rd.mono h2 fun k hk _=>⟨hk.1,hk.2.1,hk.2.2.1,fun e=>hk.2.2.2.2 (by rw[e];rfl),hk.2.2.2.1⟩
 have up:∀ {z:Nat} {v:Value} {k:Nat} {xs:List Value},Rd w1 (fun k=>w0.heap.size≤k) z v k xs→Rd w2 (TbR w rb b s gs) z v k xs:=fun {z v k xs} a =>
  Rd.mono (Rd.chg a G.chg (fun k hk e=>by rcases e with e|e|e<;>omega)) fun k hk _=>⟨by omega,by omega,by omega,by omega,by omega⟩
 have u8:∀ {z:Nat} {v:Value} {k:Nat} {xs:List Value},Rd w2 (fun k=>w1.heap.size≤k) z v k xs→Rd w2 (TbR w rb b s gs) z v k xs:=fun {z v k xs} a =>
  Rd.mono a fun k hk _=>⟨by omega,by omega,by omega,by omega,by omega⟩
 refine⟨{catV:=u0,cat:=l0,clsV:=u1,cls:=l1,joiV:=u2,joi:=l2,bidV:=u3,bid:=l3,scrV:=u4,scr:=l4,staV:=u5,sta:=l5,ignV:=u6,ign:=l6,extV:=Vw,ext:=[],mapV:=d8,map:=e8.map Subtype.val,decV:=dv,dec:=dec.map Subtype.val,excV:=ev,exc:=exc,proV:=Vw,pro:=[]},rfl,?_,rfl,rfl,rfl,rfl,rfl,p0,p1,p2,p3,p4,p6,rfl,rfl⟩;exact⟨sp a0,sp a1,sp a2,sp a3,sp a4,u8 h5,sp a6,⟨Rd.nil ..,by simp⟩,Zuu (u8 G.dOwn.rd) (fun m hm=>u8 (Rd.mono (G.tos m hm).1 fun k hk _=>hk.1)),Zuu (up E.dOwn.rd) (fun m hm=>up (Rd.mono (E.tos m hm).1 fun k hk _=>hk.1)),up E.eOwn.rd,⟨Rd.nil ..,by simp⟩⟩
theorem Zmp{T:Tbl}(G:Ue (TbU b s gs) w1 w2 w.heap.size b s (((cs.set 9 dv).set 10 ev).set 5 u5) 8 d8 e8)(hc:Qw T=((((cs.set 9 dv).set 10 ev).set 5 u5).set 8 d8))(hp:T.proV=Vw):Ue (TbU b s gs) w2 w2 w.heap.size b s (Qw T) 11 Vw []:=by
 have hs:=G.chg.size;refine⟨G.src,Chg.refl _ _,?_,Own.nil _ _ _,by simp,fun k hk=>Zm1 (G.hU k hk) hs,G.ub,G.us,G.bs,G.bB⟩;rw[Gv (show(Qw T)[11]?=some Vw by rw[← hp];rfl),hc];exact G.box
theorem Zmr{T:Tbl}(hT:Xl w2 (TbR w rb b s gs) T)(hc:Qw T=((((cs.set 9 dv).set 10 ev).set 5 u5).set 8 d8))(P:Ue (TbU b s gs) w2 w3 w.heap.size b s (Qw T) 11 d11 e11)(h0:w.heap.size≤w2.heap.size)(hr:rb<w2.heap.size) :
 Qw {T with proV:=d11,pro:=e11.map Subtype.val}=(Qw T).set 11 d11∧Xl w3 (TbR w rb b s gs) {T with proV:=d11,pro:=e11.map Subtype.val}:=by
 have h1:=hT.chg P.chg (fun k hk e=>by rcases e with e|e|e;exact hk.2.1 e;exact hk.2.2.1 e;exact hk.2.2.2.1 e);have hb:=P.hU b P.ub;have hs:=P.hU s P.us;have hg:=P.hU gs (.inr (.inr rfl));have u8:∀ {z:Nat} {v:Value} {k:Nat} {xs:List Value},Rd w3 (fun k=>w2.heap.size≤k) z v k xs→Rd w3 (TbR w rb b s gs) z v k xs:=fun {z v k xs} a =>
  Rd.mono a fun k hk _=>⟨by omega,by omega,by omega,by omega,by omega⟩
 exact⟨rfl,h1.cat,h1.cls,h1.joi,h1.bid,h1.scr,h1.sta,h1.ign,h1.ext,h1.map,h1.dec,h1.exc,Zuu (u8 P.dOwn.rd) (fun m hm=>u8 (Rd.mono (P.tos m hm).1 fun k hk _=>hk.1))⟩
end
theorem Zmq{w w4:World}{rb b s gs:Nat}{T:Tbl}(hT:Xl w4 (TbR w rb b s gs) T)(hB:Xo w4 b (Qw T))(hR:Xo w4 rb [Vw,Vw,Vw,Vw,Vw,Vw,Vw,Vw,Vw,Vw,Vw,Vw])(hX:Ext w w4)(hb:w.heap.size≤b)(hbr:b≠rb)(hs:s<w4.heap.size)(hg:gs<w4.heap.size)(hf:Few T)(hu:Uq0 T)(hk:KtP T) :
 ∃ T2:Tbl,let W:=((w4.setCell ⟨b,7,none⟩ (.slice (some ⟨w4.heap.size+1,0,none⟩) 1 1)).alloc (.cells #[.int .i64 7,.int .i64 8] 3)).alloc (.cells #[.int .i64 12539,.slice (some ⟨w4.heap.size,0,none⟩) 2 2] 106)
  Xo W b (Qw T2)∧Xl W (TbR w rb b s gs) T2∧Few T2∧Uq0 T2∧KtP T2∧Xo W rb [Vw,Vw,Vw,Vw,Vw,Vw,Vw,Vw,Vw,Vw,Vw,Vw]∧Ext w W:=by
 have hbl:=hB.lt;have hrl:=hR.lt;have hxs:=hX.size;have c:=(Chg.refl (· = b) w4).setCell (p:=⟨b,7,none⟩) (.inl rfl) (.slice (some ⟨w4.heap.size+1,0,none⟩) 1 1);have hB1:=hB.set (j:=7) (by simp[Qw]) (.slice (some ⟨w4.heap.size+1,0,none⟩) 1 1);have s4:(w4.setCell ⟨b,7,none⟩ (.slice (some ⟨w4.heap.size+1,0,none⟩) 1 1)).heap.size=w4.heap.size:=by simp[World.setCell]
 obtain⟨w7,hw7⟩:=gnX (w4.setCell ⟨b,7,none⟩ (.slice (some ⟨w4.heap.size+1,0,none⟩) 1 1));rw[hw7]at c hB1 s4⊢;clear hw7;have a0:=Wp w7 3 [7,8] 2 rfl _ rfl (by omega);rw[s4]at a0;simp only[Zlg,Zl2]at a0;have x5:Ext w7 (w7.alloc (.cells #[.int .i64 7,.int .i64 8] 3)):=(Yl _).alloc _;have s5:(w7.alloc (.cells #[.int .i64 7,.int .i64 8] 3)).heap.size=w4.heap.size+1:=by simp[s4]
 obtain⟨w5,hw5⟩:=gnX (w7.alloc (.cells #[.int .i64 7,.int .i64 8] 3));have a0':RdE Wi w5 (fun k=>w4.heap.size≤k) (.slice (some ⟨w4.heap.size,0,none⟩) 2 2) [7,8]:=by rw[← hw5];exact a0
 rw[hw5]at x5 s5⊢;clear hw5 a0;have a1:=Zu4 w5 #[.int .i64 12539,.slice (some ⟨w4.heap.size,0,none⟩) 2 2] 106 1 2 rfl (by omega);rw[s5]at a1;have x6:Ext w5 (w5.alloc (.cells #[.int .i64 12539,.slice (some ⟨w4.heap.size,0,none⟩) 2 2] 106)):=(Yl _).alloc _;obtain⟨w6,hw6⟩:=gnX (w5.alloc (.cells #[.int .i64 12539,.slice (some ⟨w4.heap.size,0,none⟩) 2 2] 106));rw[hw6]at a1 x6⊢;have t6:=(hT.chg c (fun k hk e=>hk.2.1 e)).up (x5.trans x6);refine⟨{T with extV:=.slice (some ⟨w4.heap.size+1,0,none⟩) 1 1,ext:=[⟨12539,.slice (some ⟨w4.heap.size,0,none⟩) 2 2,[7,8]⟩]},?_,?_,?_,hu,⟨hk.cat,hk.cls,hk.joi,hk.bid,hk.scr,hk.ign,hk.dec,hk.map,⟨hk.pro.sub,hk.pro.ign⟩,.inr ⟨_,rfl⟩⟩,?_,?_⟩
 ·exact hB1.ext (x5.trans x6)
 ·refine⟨t6.cat,t6.cls,t6.joi,t6.bid,t6.scr,t6.sta,t6.ign,⟨?_,?_⟩,t6.map,t6.dec,t6.exc,t6.pro⟩
  ·exact Rd.mono a1 fun k hk _=>⟨by omega,by omega,by omega,by omega,by omega⟩
  intro m hm;rw[Zi.1 hm];exact Rd.mono (RdE.ext a0' x6) fun k hk _=>⟨by omega,by omega,by omega,by omega,by omega⟩
 ·exact⟨hf.dec,hf.map,hf.pro,fun m hm=>by rw[Zi.1 hm];show 2≤18;omega,hf.rows.1,hf.rows.2.1,hf.rows.2.2.1,by show 1≤256;omega⟩
 ·exact(hR.chg c (fun e=>hbr e.symm)).ext (x5.trans x6)
 exact(hX.chg_new c (fun i e=>by omega)).trans (x5.trans x6)
theorem Zn4{T:Tbl}{dec e8 e11:List MpS}(hd:T.dec=dec.map Subtype.val)(hm:T.map=e8.map Subtype.val)(hp:T.pro=e11.map Subtype.val)(d1:∀ m∈dec,m.1.to_.length≤2)(d2:dec.length≤5)(m1:∀ m∈e8,m.1.to_.length≤18)(m2:e8.length≤28)
 (p1:∀ m∈e11,m.1.to_.length≤18) (p2:e11.length≤5) (x1:∀ m∈T.ext,m.to_.length≤2) (x2:T.ext.length≤1):Few T:=by
 refine⟨?_,?_,?_,fun m hm=>by have:=x1 m hm;omega,?_⟩
 ·rw[hd];intro m hm;obtain⟨x,hx,rfl⟩:=Zlw.1 hm;have:=d1 x hx;omega
 ·rw[hm];intro m hm;obtain⟨x,hx,rfl⟩:=Zlw.1 hm;exact m1 x hx
 ·rw[hp];intro m hm;obtain⟨x,hx,rfl⟩:=Zlw.1 hm;exact p1 x hx
 rw[hd,hm,hp,Zq,Zq,Zq];omega
theorem Zmn{T:Tbl}{dec:List MpS}(hd:T.dec=dec.map Subtype.val)(hn:(dec.map fun m=>m.1.fr).Nodup):Uq0 T:=by
 unfold Uq0;rw[hd];exact Zmf (by rw[Zju];exact hn)
end
end Go.Proofs.YtnbclgbicnpmnaaGreat
